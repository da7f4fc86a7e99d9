/- Parts of the proof: the layer that reads Go values as data, and what the functions of the program tell. -/
import Derived.Lib.SliceRun
import Derived.Lib.Bytes
import Derived.Lib.Bytealg
import Derived.Laws.Externs
import Derived.Laws.OwnMore
import Derived.Lib.AppendZeros
import Derived.Test.YtikaeepohlkjdaaGreatK1
open Array (empty_append length_toList)
open BitVec (allOnes_xor ofInt_natCast)
open Bool (decide_and false_eq_true)
open Int (emod_lt_of_pos emod_nonneg natCast_nonneg)
open List (drop_of_length_le ext_getElem? length_cons length_drop length_replicate map_cons map_nil mem_cons mem_map size_toArray)
open Nat (add_mul div_le_self le_succ lt_of_le_of_lt lt_of_lt_of_le lt_of_not_le lt_succ_self min_eq_left mod_eq_of_lt mul_le_mul_right one_mul sub_zero zero_add zero_mul)
open Option (bind_eq_some_iff isSome_iff_exists)
set_option linter.unusedVariables false
set_option linter.unusedSimpArgs false
namespace Go.Ab
abbrev Wide:=List UInt64
def zV:GoT Wide:=arrT 4 yl u64T
instance:Strict zV:=inferInstanceAs (Strict (arrT ..))
def zId:Id:=List.replicate 32 0
def zIdC:List Value:=(List.replicate 32 [Value.int .u8 0]).flatten
def zaG:Wide:=List.replicate 4 0
def zWideC:List Value:=(List.replicate 4 [Value.int .u64 0]).flatten
theorem zni:Zero zV zaG zWideC:=zeK yl zu8
structure In where
  tx:Id
  i:Int
  deriving DecidableEq,Inhabited
def inT:GoT In:=viaT (zbF idT i64T) fun x=>(x.tx,x.i)
instance:Strict inT:=inferInstanceAs (Strict (viaT ..))
def In.mk_ (p:Id×Int):In:=⟨p.1,p.2⟩
def zIn:In:=⟨zId,0⟩
def zInC:List Value:=zIdC++([.int .i64 0])
theorem zero_In:Zero inT zIn zInC:=zT zh2 (zbw)
theorem eqx_In:∀x y:In,((decide (x.tx=y.tx)&&(decide (x.i=y.i)&&true)))=decide (x=y):=fun x y=>by cases x;cases y;simp[decide_and]
theorem zj5:Lens inT 0 idT (fun x=>x.tx) (fun x y=>{ x with tx:=y }):=((Lens.fst _ _).via (fun x:In=>(x.tx,x.i)) In.mk_ (fun _=>rfl)).cast rfl (fun _=>rfl) (fun _ _=>rfl)
theorem zhW:Lens inT 32 i64T (fun x=>x.i) (fun x y=>{ x with i:=y }):=((Lens.snd _ _).via (fun x:In=>(x.tx,x.i)) In.mk_ (fun _=>rfl)).cast rfl (fun _=>rfl) (fun _ _=>rfl)
structure Out where
  v:Int
  to:Int
  deriving DecidableEq,Inhabited
def outT:GoT Out:=viaT (zbF i64T i64T) fun x=>(x.v,x.to)
instance:Strict outT:=inferInstanceAs (Strict (viaT ..))
def Out.mk_ (p:Int×Int):Out:=⟨p.1,p.2⟩
def zOut:Out:=⟨0,0⟩
def zOutC:List Value:=[.int .i64 0]++([.int .i64 0])
theorem zva:Zero outT zOut zOutC:=zT zbw (zbw)
theorem eqx_Out:∀x y:Out,((decide (x.v=y.v)&&(decide (x.to=y.to)&&true)))=decide (x=y):=fun x y=>by cases x;cases y;simp[decide_and]
theorem zf9:Lens outT 0 i64T (fun x=>x.v) (fun x y=>{ x with v:=y }):=((Lens.fst _ _).via (fun x:Out=>(x.v,x.to)) Out.mk_ (fun _=>rfl)).cast rfl (fun _=>rfl) (fun _ _=>rfl)
theorem zje:Lens outT 1 i64T (fun x=>x.to) (fun x y=>{ x with to:=y }):=((Lens.snd _ _).via (fun x:Out=>(x.v,x.to)) Out.mk_ (fun _=>rfl)).cast rfl (fun _=>rfl) (fun _ _=>rfl)
structure Tx where
  ins:List In
  outs:List Out
  deriving DecidableEq,Inhabited
def txT:GoT Tx:=viaT (zbF (sl inT) (sl outT)) fun x=>(x.ins,x.outs)
instance:Strict txT:=inferInstanceAs (Strict (viaT ..))
def Tx.mk_ (p:(List In)×(List Out)):Tx:=⟨p.1,p.2⟩
def zTx:Tx:=⟨[],[]⟩
def zTxC:List Value:=[.slice none 0 0]++([.slice none 0 0])
theorem zero_Tx:Zero txT zTx zTxC:=zT zcO (zcO)
theorem zdE:Lens txT 0 (sl inT) (fun x=>x.ins) (fun x y=>{ x with ins:=y }):=((Lens.fst _ _).via (fun x:Tx=>(x.ins,x.outs)) Tx.mk_ (fun _=>rfl)).cast rfl (fun _=>rfl) (fun _ _=>rfl)
theorem zhc:Lens txT 1 (sl outT) (fun x=>x.outs) (fun x y=>{ x with outs:=y }):=((Lens.snd _ _).via (fun x:Tx=>(x.ins,x.outs)) Tx.mk_ (fun _=>rfl)).cast rfl (fun _=>rfl) (fun _ _=>rfl)
structure Coin where
  inn:In
  out:Out
  deriving DecidableEq,Inhabited
def zbq:GoT Coin:=viaT (zbF inT outT) fun x=>(x.inn,x.out)
instance:Strict zbq:=inferInstanceAs (Strict (viaT ..))
def Coin.mk_ (p:In×Out):Coin:=⟨p.1,p.2⟩
def zCoin:Coin:=⟨zIn,zOut⟩
def zCoinC:List Value:=zInC++(zOutC)
theorem zero_Coin:Zero zbq zCoin zCoinC:=zT zero_In (zva)
theorem zeI:Lens zbq 0 inT (fun x=>x.inn) (fun x y=>{ x with inn:=y }):=((Lens.fst _ _).via (fun x:Coin=>(x.inn,x.out)) Coin.mk_ (fun _=>rfl)).cast rfl (fun _=>rfl) (fun _ _=>rfl)
theorem zfH:Lens zbq 33 outT (fun x=>x.out) (fun x y=>{ x with out:=y }):=((Lens.snd _ _).via (fun x:Coin=>(x.inn,x.out)) Coin.mk_ (fun _=>rfl)).cast rfl (fun _=>rfl) (fun _ _=>rfl)
structure Total where
  h:Id
  w:Wide
  n:Int
  deriving DecidableEq,Inhabited
def zar:GoT Total:=viaT (zbF idT (zbF zV i64T)) fun x=>(x.h,(x.w,x.n))
instance:Strict zar:=inferInstanceAs (Strict (viaT ..))
def Total.mk_ (p:Id×Wide×Int):Total:=⟨p.1,p.2.1,p.2.2⟩
def zvc:Total:=⟨zId,zaG,0⟩
def zTotalC:List Value:=zIdC++(zWideC++([.int .i64 0]))
theorem zero_Total:Zero zar zvc zTotalC:=zT zh2 (zT zni (zbw))
theorem zcY:Lens zar 0 idT (fun x=>x.h) (fun x y=>{ x with h:=y }):=((Lens.fst _ _).via (fun x:Total=>(x.h,(x.w,x.n))) Total.mk_ (fun _=>rfl)).cast rfl (fun _=>rfl) (fun _ _=>rfl)
theorem zhd:Lens zar 32 zV (fun x=>x.w) (fun x y=>{ x with w:=y }):=(((Lens.snd _ _).comp (Lens.fst _ _)).via (fun x:Total=>(x.h,(x.w,x.n))) Total.mk_ (fun _=>rfl)).cast rfl (fun _=>rfl) (fun _ _=>rfl)
theorem zcX:Lens zar 36 i64T (fun x=>x.n) (fun x y=>{ x with n:=y }):=(((Lens.snd _ _).comp (Lens.snd _ _)).via (fun x:Total=>(x.h,(x.w,x.n))) Total.mk_ (fun _=>rfl)).cast rfl (fun _=>rfl) (fun _ _=>rfl)
structure Head where
  height:Int
  prev:Id
  links:Id
  txs:Id
  past:Id
  work:Wide
  bits:UInt32
  nonce:UInt64
  deriving DecidableEq,Inhabited
def zbk:GoT Head:=viaT (zbF i64T (zbF idT (zbF idT (zbF idT (zbF idT (zbF zV (zbF u32T u64T))))))) fun x=>(x.height,(x.prev,(x.links,(x.txs,(x.past,(x.work,(x.bits,x.nonce)))))))
instance:Strict zbk:=inferInstanceAs (Strict (viaT ..))
def Head.mk_ (p:Int×Id×Id×Id×Id×Wide×UInt32×UInt64):Head:=⟨p.1,p.2.1,p.2.2.1,p.2.2.2.1,p.2.2.2.2.1,p.2.2.2.2.2.1,p.2.2.2.2.2.2.1,p.2.2.2.2.2.2.2⟩
def zlm:Head:=⟨0,zId,zId,zId,zId,zaG,0,0⟩
def zvd:List Value:=[.int .i64 0]++(zIdC++(zIdC++(zIdC++(zIdC++(zWideC++([.int .u32 0]++([.int .u64 0])))))))
theorem zh3:Zero zbk zlm zvd:=zT zbw (zT zh2 (zT zh2 (zT zh2 (zT zh2 (zT zni (zT zqt (zu8)))))))
theorem eqx_Head:∀x y:Head,((decide (x.height=y.height)&&(decide (x.prev=y.prev)&&(decide (x.links=y.links)&&(decide (x.txs=y.txs)&&(decide (x.past=y.past)&&(decide (x.work=y.work)&&(decide (x.bits=y.bits)&&(decide (x.nonce=y.nonce)&&true)))))))))=decide (x=y):=fun x y=>by cases x;cases y;simp[decide_and]
theorem zal:Lens zbk 0 i64T (fun x=>x.height) (fun x y=>{ x with height:=y }):=((Lens.fst _ _).via (fun x:Head=>(x.height,(x.prev,(x.links,(x.txs,(x.past,(x.work,(x.bits,x.nonce)))))))) Head.mk_ (fun _=>rfl)).cast rfl (fun _=>rfl) (fun _ _=>rfl)
theorem zbB:Lens zbk 1 idT (fun x=>x.prev) (fun x y=>{ x with prev:=y }):=(((Lens.snd _ _).comp (Lens.fst _ _)).via (fun x:Head=>(x.height,(x.prev,(x.links,(x.txs,(x.past,(x.work,(x.bits,x.nonce)))))))) Head.mk_ (fun _=>rfl)).cast rfl (fun _=>rfl) (fun _ _=>rfl)
theorem zbc:Lens zbk 33 idT (fun x=>x.links) (fun x y=>{ x with links:=y }):=(((Lens.snd _ _).comp ((Lens.snd _ _).comp (Lens.fst _ _))).via (fun x:Head=>(x.height,(x.prev,(x.links,(x.txs,(x.past,(x.work,(x.bits,x.nonce)))))))) Head.mk_ (fun _=>rfl)).cast rfl (fun _=>rfl) (fun _ _=>rfl)
theorem zcF:Lens zbk 65 idT (fun x=>x.txs) (fun x y=>{ x with txs:=y }):=(((Lens.snd _ _).comp ((Lens.snd _ _).comp ((Lens.snd _ _).comp (Lens.fst _ _)))).via (fun x:Head=>(x.height,(x.prev,(x.links,(x.txs,(x.past,(x.work,(x.bits,x.nonce)))))))) Head.mk_ (fun _=>rfl)).cast rfl (fun _=>rfl) (fun _ _=>rfl)
theorem zcZ:Lens zbk 97 idT (fun x=>x.past) (fun x y=>{ x with past:=y }):=(((Lens.snd _ _).comp ((Lens.snd _ _).comp ((Lens.snd _ _).comp ((Lens.snd _ _).comp (Lens.fst _ _))))).via (fun x:Head=>(x.height,(x.prev,(x.links,(x.txs,(x.past,(x.work,(x.bits,x.nonce)))))))) Head.mk_ (fun _=>rfl)).cast rfl (fun _=>rfl) (fun _ _=>rfl)
theorem zeH:Lens zbk 129 zV (fun x=>x.work) (fun x y=>{ x with work:=y }):=(((Lens.snd _ _).comp ((Lens.snd _ _).comp ((Lens.snd _ _).comp ((Lens.snd _ _).comp ((Lens.snd _ _).comp (Lens.fst _ _)))))).via (fun x:Head=>(x.height,(x.prev,(x.links,(x.txs,(x.past,(x.work,(x.bits,x.nonce)))))))) Head.mk_ (fun _=>rfl)).cast rfl (fun _=>rfl) (fun _ _=>rfl)
theorem zaX:Lens zbk 133 u32T (fun x=>x.bits) (fun x y=>{ x with bits:=y }):=(((Lens.snd _ _).comp ((Lens.snd _ _).comp ((Lens.snd _ _).comp ((Lens.snd _ _).comp ((Lens.snd _ _).comp ((Lens.snd _ _).comp (Lens.fst _ _))))))).via (fun x:Head=>(x.height,(x.prev,(x.links,(x.txs,(x.past,(x.work,(x.bits,x.nonce)))))))) Head.mk_ (fun _=>rfl)).cast rfl (fun _=>rfl) (fun _ _=>rfl)
theorem zcd:Lens zbk 134 u64T (fun x=>x.nonce) (fun x y=>{ x with nonce:=y }):=(((Lens.snd _ _).comp ((Lens.snd _ _).comp ((Lens.snd _ _).comp ((Lens.snd _ _).comp ((Lens.snd _ _).comp ((Lens.snd _ _).comp (Lens.snd _ _))))))).via (fun x:Head=>(x.height,(x.prev,(x.links,(x.txs,(x.past,(x.work,(x.bits,x.nonce)))))))) Head.mk_ (fun _=>rfl)).cast rfl (fun _=>rfl) (fun _ _=>rfl)
structure Block where
  h:Head
  l:List Id
  t:List Tx
  deriving DecidableEq,Inhabited
def zaz:GoT Block:=viaT (zbF zbk (zbF (sl idT) (sl txT))) fun x=>(x.h,(x.l,x.t))
instance:Strict zaz:=inferInstanceAs (Strict (viaT ..))
def Block.mk_ (p:Head×(List Id)×(List Tx)):Block:=⟨p.1,p.2.1,p.2.2⟩
def zrW:Block:=⟨zlm,[],[]⟩
def zt0:List Value:=zvd++([.slice none 0 0]++([.slice none 0 0]))
theorem zli:Zero zaz zrW zt0:=zT zh3 (zT zcO (zcO))
theorem zaU:Lens zaz 0 zbk (fun x=>x.h) (fun x y=>{ x with h:=y }):=((Lens.fst _ _).via (fun x:Block=>(x.h,(x.l,x.t))) Block.mk_ (fun _=>rfl)).cast rfl (fun _=>rfl) (fun _ _=>rfl)
theorem zdx:Lens zaz 135 (sl idT) (fun x=>x.l) (fun x y=>{ x with l:=y }):=(((Lens.snd _ _).comp (Lens.fst _ _)).via (fun x:Block=>(x.h,(x.l,x.t))) Block.mk_ (fun _=>rfl)).cast rfl (fun _=>rfl) (fun _ _=>rfl)
theorem zdw:Lens zaz 136 (sl txT) (fun x=>x.t) (fun x y=>{ x with t:=y }):=(((Lens.snd _ _).comp (Lens.snd _ _)).via (fun x:Block=>(x.h,(x.l,x.t))) Block.mk_ (fun _=>rfl)).cast rfl (fun _=>rfl) (fun _ _=>rfl)
structure Tip where
  b:Block
  p:List Total
  c:List Coin
  deriving DecidableEq,Inhabited
def tipT:GoT Tip:=viaT (zbF zaz (zbF (sl zar) (sl zbq))) fun x=>(x.b,(x.p,x.c))
instance:Strict tipT:=inferInstanceAs (Strict (viaT ..))
def Tip.mk_ (p:Block×(List Total)×(List Coin)):Tip:=⟨p.1,p.2.1,p.2.2⟩
def zTip:Tip:=⟨zrW,[],[]⟩
def zTipC:List Value:=zt0++([.slice none 0 0]++([.slice none 0 0]))
theorem zu9:Zero tipT zTip zTipC:=zT zli (zT zcO (zcO))
theorem zdR:Lens tipT 0 zaz (fun x=>x.b) (fun x y=>{ x with b:=y }):=((Lens.fst _ _).via (fun x:Tip=>(x.b,(x.p,x.c))) Tip.mk_ (fun _=>rfl)).cast rfl (fun _=>rfl) (fun _ _=>rfl)
theorem zj4:Lens tipT 137 (sl zar) (fun x=>x.p) (fun x y=>{ x with p:=y }):=(((Lens.snd _ _).comp (Lens.fst _ _)).via (fun x:Tip=>(x.b,(x.p,x.c))) Tip.mk_ (fun _=>rfl)).cast rfl (fun _=>rfl) (fun _ _=>rfl)
theorem zrS:Lens tipT 138 (sl zbq) (fun x=>x.c) (fun x y=>{ x with c:=y }):=(((Lens.snd _ _).comp (Lens.snd _ _)).via (fun x:Tip=>(x.b,(x.p,x.c))) Tip.mk_ (fun _=>rfl)).cast rfl (fun _=>rfl) (fun _ _=>rfl)
structure Store where
  b:List Block
  par:List Int
  deriving DecidableEq,Inhabited
def Store.mk_ (p:(List Block)×(List Int)):Store:=⟨p.1,p.2⟩
structure Part where
  h:Head
  l:List Id
  deriving DecidableEq,Inhabited
def zaK:GoT Part:=viaT (zbF zbk (sl idT)) fun x=>(x.h,x.l)
instance:Strict zaK:=inferInstanceAs (Strict (viaT ..))
def Part.mk_ (p:Head×(List Id)):Part:=⟨p.1,p.2⟩
def zll:Part:=⟨zlm,[]⟩
def zPartC:List Value:=zvd++([.slice none 0 0])
theorem zero_Part:Zero zaK zll zPartC:=zT zh3 (zcO)
theorem zbe:Lens zaK 0 zbk (fun x=>x.h) (fun x y=>{ x with h:=y }):=((Lens.fst _ _).via (fun x:Part=>(x.h,x.l)) Part.mk_ (fun _=>rfl)).cast rfl (fun _=>rfl) (fun _ _=>rfl)
theorem zcc:Lens zaK 135 (sl idT) (fun x=>x.l) (fun x y=>{ x with l:=y }):=((Lens.snd _ _).via (fun x:Part=>(x.h,x.l)) Part.mk_ (fun _=>rfl)).cast rfl (fun _=>rfl) (fun _ _=>rfl)
structure Proof where
  m:Int
  k:Int
  p:List Part
  deriving DecidableEq,Inhabited
def zP:GoT Proof:=viaT (zbF i64T (zbF i64T (sl zaK))) fun x=>(x.m,(x.k,x.p))
instance:Strict zP:=inferInstanceAs (Strict (viaT ..))
def Proof.mk_ (p:Int×Int×(List Part)):Proof:=⟨p.1,p.2.1,p.2.2⟩
def zdb:Proof:=⟨0,0,[]⟩
def zlk:List Value:=[.int .i64 0]++([.int .i64 0]++([.slice none 0 0]))
theorem zer:Zero zP zdb zlk:=zT zbw (zT zbw (zcO))
theorem zem:Lens zP 0 i64T (fun x=>x.m) (fun x y=>{ x with m:=y }):=((Lens.fst _ _).via (fun x:Proof=>(x.m,(x.k,x.p))) Proof.mk_ (fun _=>rfl)).cast rfl (fun _=>rfl) (fun _ _=>rfl)
theorem zdu:Lens zP 1 i64T (fun x=>x.k) (fun x y=>{ x with k:=y }):=(((Lens.snd _ _).comp (Lens.fst _ _)).via (fun x:Proof=>(x.m,(x.k,x.p))) Proof.mk_ (fun _=>rfl)).cast rfl (fun _=>rfl) (fun _ _=>rfl)
theorem zaB:Lens zP 2 (sl zaK) (fun x=>x.p) (fun x y=>{ x with p:=y }):=(((Lens.snd _ _).comp (Lens.snd _ _)).via (fun x:Proof=>(x.m,(x.k,x.p))) Proof.mk_ (fun _=>rfl)).cast rfl (fun _=>rfl) (fun _ _=>rfl)
structure Sample where
  i:Int
  h:Head
  path:List Total
  deriving DecidableEq,Inhabited
def Sample.mk_ (p:Int×Head×(List Total)):Sample:=⟨p.1,p.2.1,p.2.2⟩
structure Sampling where
  tip:Head
  s:List Sample
  deriving DecidableEq,Inhabited
def Sampling.mk_ (p:Head×(List Sample)):Sampling:=⟨p.1,p.2⟩
structure Client where
  m:Int
  k:Int
  opn:List Int
  have_:Bool
  p:Proof
  deriving DecidableEq,Inhabited
def zZ:GoT Client:=viaT (zbF i64T (zbF i64T (zbF (sl i64T) (zbF zo zP)))) fun x=>(x.m,(x.k,(x.opn,(x.have_,x.p))))
instance:Strict zZ:=inferInstanceAs (Strict (viaT ..))
def Client.mk_ (p:Int×Int×(List Int)×Bool×Proof):Client:=⟨p.1,p.2.1,p.2.2.1,p.2.2.2.1,p.2.2.2.2⟩
def ze7:Client:=⟨0,0,[],false,zdb⟩
def zClientC:List Value:=[.int .i64 0]++([.int .i64 0]++([.slice none 0 0]++([.bool false]++(zlk))))
theorem ztW:Zero zZ ze7 zClientC:=zT zbw (zT zbw (zT zcO (zT zrU (zer))))
theorem zfI:Lens zZ 0 i64T (fun x=>x.m) (fun x y=>{ x with m:=y }):=((Lens.fst _ _).via (fun x:Client=>(x.m,(x.k,(x.opn,(x.have_,x.p))))) Client.mk_ (fun _=>rfl)).cast rfl (fun _=>rfl) (fun _ _=>rfl)
theorem zjg:Lens zZ 1 i64T (fun x=>x.k) (fun x y=>{ x with k:=y }):=(((Lens.snd _ _).comp (Lens.fst _ _)).via (fun x:Client=>(x.m,(x.k,(x.opn,(x.have_,x.p))))) Client.mk_ (fun _=>rfl)).cast rfl (fun _=>rfl) (fun _ _=>rfl)
theorem zgt:Lens zZ 2 (sl i64T) (fun x=>x.opn) (fun x y=>{ x with opn:=y }):=(((Lens.snd _ _).comp ((Lens.snd _ _).comp (Lens.fst _ _))).via (fun x:Client=>(x.m,(x.k,(x.opn,(x.have_,x.p))))) Client.mk_ (fun _=>rfl)).cast rfl (fun _=>rfl) (fun _ _=>rfl)
theorem zdv:Lens zZ 3 zo (fun x=>x.have_) (fun x y=>{ x with have_:=y }):=(((Lens.snd _ _).comp ((Lens.snd _ _).comp ((Lens.snd _ _).comp (Lens.fst _ _)))).via (fun x:Client=>(x.m,(x.k,(x.opn,(x.have_,x.p))))) Client.mk_ (fun _=>rfl)).cast rfl (fun _=>rfl) (fun _ _=>rfl)
theorem zby:Lens zZ 4 zP (fun x=>x.p) (fun x y=>{ x with p:=y }):=(((Lens.snd _ _).comp ((Lens.snd _ _).comp ((Lens.snd _ _).comp (Lens.snd _ _)))).via (fun x:Client=>(x.m,(x.k,(x.opn,(x.have_,x.p))))) Client.mk_ (fun _=>rfl)).cast rfl (fun _=>rfl) (fun _ _=>rfl)
structure Trial where
  t:Tip
  b:Block
  want:Head
  c:List Coin
  deriving DecidableEq,Inhabited
def zeT:GoT Trial:=viaT (zbF tipT (zbF zaz (zbF zbk (sl zbq)))) fun x=>(x.t,(x.b,(x.want,x.c)))
instance:Strict zeT:=inferInstanceAs (Strict (viaT ..))
def Trial.mk_ (p:Tip×Block×Head×(List Coin)):Trial:=⟨p.1,p.2.1,p.2.2.1,p.2.2.2⟩
def zTrial:Trial:=⟨zTip,zrW,zlm,[]⟩
def zTrialC:List Value:=zTipC++(zt0++(zvd++([.slice none 0 0])))
theorem zero_Trial:Zero zeT zTrial zTrialC:=zT zu9 (zT zli (zT zh3 (zcO)))
theorem zlf:Lens zeT 0 tipT (fun x=>x.t) (fun x y=>{ x with t:=y }):=((Lens.fst _ _).via (fun x:Trial=>(x.t,(x.b,(x.want,x.c)))) Trial.mk_ (fun _=>rfl)).cast rfl (fun _=>rfl) (fun _ _=>rfl)
theorem zf8:Lens zeT 139 zaz (fun x=>x.b) (fun x y=>{ x with b:=y }):=(((Lens.snd _ _).comp (Lens.fst _ _)).via (fun x:Trial=>(x.t,(x.b,(x.want,x.c)))) Trial.mk_ (fun _=>rfl)).cast rfl (fun _=>rfl) (fun _ _=>rfl)
theorem ze6:Lens zeT 276 zbk (fun x=>x.want) (fun x y=>{ x with want:=y }):=(((Lens.snd _ _).comp ((Lens.snd _ _).comp (Lens.fst _ _))).via (fun x:Trial=>(x.t,(x.b,(x.want,x.c)))) Trial.mk_ (fun _=>rfl)).cast rfl (fun _=>rfl) (fun _ _=>rfl)
theorem ztU:Lens zeT 411 (sl zbq) (fun x=>x.c) (fun x y=>{ x with c:=y }):=(((Lens.snd _ _).comp ((Lens.snd _ _).comp (Lens.snd _ _))).via (fun x:Trial=>(x.t,(x.b,(x.want,x.c)))) Trial.mk_ (fun _=>rfl)).cast rfl (fun _=>rfl) (fun _ _=>rfl)
structure CTrial where
  p:Proof
  ids:List Id
  at_:Int
  deriving DecidableEq,Inhabited
def zf0:GoT CTrial:=viaT (zbF zP (zbF (sl idT) i64T)) fun x=>(x.p,(x.ids,x.at_))
instance:Strict zf0:=inferInstanceAs (Strict (viaT ..))
def CTrial.mk_ (p:Proof×(List Id)×Int):CTrial:=⟨p.1,p.2.1,p.2.2⟩
def zCTrial:CTrial:=⟨zdb,[],0⟩
def zCTrialC:List Value:=zlk++([.slice none 0 0]++([.int .i64 0]))
theorem ztX:Zero zf0 zCTrial zCTrialC:=zT zer (zT zcO (zbw))
theorem zeJ:Lens zf0 0 zP (fun x=>x.p) (fun x y=>{ x with p:=y }):=((Lens.fst _ _).via (fun x:CTrial=>(x.p,(x.ids,x.at_))) CTrial.mk_ (fun _=>rfl)).cast rfl (fun _=>rfl) (fun _ _=>rfl)
theorem zmn:Lens zf0 3 (sl idT) (fun x=>x.ids) (fun x y=>{ x with ids:=y }):=(((Lens.snd _ _).comp (Lens.fst _ _)).via (fun x:CTrial=>(x.p,(x.ids,x.at_))) CTrial.mk_ (fun _=>rfl)).cast rfl (fun _=>rfl) (fun _ _=>rfl)
theorem zbv:Lens zf0 4 i64T (fun x=>x.at_) (fun x y=>{ x with at_:=y }):=(((Lens.snd _ _).comp (Lens.snd _ _)).via (fun x:CTrial=>(x.p,(x.ids,x.at_))) CTrial.mk_ (fun _=>rfl)).cast rfl (fun _=>rfl) (fun _ _=>rfl)
structure STrial where
  tip:Head
  s:Sample
  pick:Wide
  deriving DecidableEq,Inhabited
def STrial.mk_ (p:Head×Sample×Wide):STrial:=⟨p.1,p.2.1,p.2.2⟩
structure STip where
  at_:Int
  work:Wide
  deriving DecidableEq,Inhabited
def STip.mk_ (p:Int×Wide):STip:=⟨p.1,p.2⟩
structure Span where
  from_:Int
  many:Int
  deriving DecidableEq,Inhabited
def Span.mk_ (p:Int×Int):Span:=⟨p.1,p.2⟩
structure MStep where
  span:Span
  left:Bool
  deriving DecidableEq,Inhabited
def MStep.mk_ (p:Span×Bool):MStep:=⟨p.1,p.2⟩
structure PPair where
  p:Proof
  q:Proof
  deriving DecidableEq,Inhabited
def zkA:GoT PPair:=viaT (zbF zP zP) fun x=>(x.p,x.q)
instance:Strict zkA:=inferInstanceAs (Strict (viaT ..))
def PPair.mk_ (p:Proof×Proof):PPair:=⟨p.1,p.2⟩
def zPPair:PPair:=⟨zdb,zdb⟩
def zPPairC:List Value:=zlk++(zlk)
theorem zero_PPair:Zero zkA zPPair zPPairC:=zT zer (zer)
theorem zhf:Lens zkA 0 zP (fun x=>x.p) (fun x y=>{ x with p:=y }):=((Lens.fst _ _).via (fun x:PPair=>(x.p,x.q)) PPair.mk_ (fun _=>rfl)).cast rfl (fun _=>rfl) (fun _ _=>rfl)
theorem zhe:Lens zkA 3 zP (fun x=>x.q) (fun x y=>{ x with q:=y }):=((Lens.snd _ _).via (fun x:PPair=>(x.p,x.q)) PPair.mk_ (fun _=>rfl)).cast rfl (fun _=>rfl) (fun _ _=>rfl)
structure Msg where
  kind:Int
  who:Int
  raw:List UInt8
  deriving DecidableEq,Inhabited
def msgT:GoT Msg:=viaT (zbF i64T (zbF i64T (sl u8T))) fun x=>(x.kind,(x.who,x.raw))
instance:Strict msgT:=inferInstanceAs (Strict (viaT ..))
def Msg.mk_ (p:Int×Int×(List UInt8)):Msg:=⟨p.1,p.2.1,p.2.2⟩
def zMsg:Msg:=⟨0,0,[]⟩
def zMsgC:List Value:=[.int .i64 0]++([.int .i64 0]++([.slice none 0 0]))
theorem zero_Msg:Zero msgT zMsg zMsgC:=zT zbw (zT zbw (zcO))
theorem zjf:Lens msgT 0 i64T (fun x=>x.kind) (fun x y=>{ x with kind:=y }):=((Lens.fst _ _).via (fun x:Msg=>(x.kind,(x.who,x.raw))) Msg.mk_ (fun _=>rfl)).cast rfl (fun _=>rfl) (fun _ _=>rfl)
theorem zhg:Lens msgT 1 i64T (fun x=>x.who) (fun x y=>{ x with who:=y }):=(((Lens.snd _ _).comp (Lens.fst _ _)).via (fun x:Msg=>(x.kind,(x.who,x.raw))) Msg.mk_ (fun _=>rfl)).cast rfl (fun _=>rfl) (fun _ _=>rfl)
theorem zlg:Lens msgT 2 (sl u8T) (fun x=>x.raw) (fun x y=>{ x with raw:=y }):=(((Lens.snd _ _).comp (Lens.snd _ _)).via (fun x:Msg=>(x.kind,(x.who,x.raw))) Msg.mk_ (fun _=>rfl)).cast rfl (fun _=>rfl) (fun _ _=>rfl)
abbrev Paper:=Proof
abbrev paperT:GoT Paper:=zP
abbrev zPaper:Paper:=zdb
abbrev zPaperC:List Value:=zlk
theorem zero_Paper:Zero paperT zPaper zPaperC:=zer
theorem ziK:Lens paperT 0 zP (fun x=>x) (fun _ y=>y):=Lens.self zP
abbrev Reader:=List UInt8
def zui:GoT Reader:=viaT (bsl u8T) fun x=>x
abbrev zReader:Reader:=[]
abbrev zReaderC:List Value:=[.slice none 0 0]
theorem ztV:Zero zui zReader zReaderC:=zcO
theorem zjd:Lens zui 0 (bsl u8T) (fun x=>x) (fun _ y=>y):=(Lens.self (bsl u8T)).via (fun x:Reader=>x) (fun x=>x) (fun _=>rfl)
end Go.Ab
namespace Go.Ab
open Go.RowKit
section
variable {J:Job} {nx:Nat} {ρ:Nat->Value} {fr:Fr} {hp:Hp} {a:Act} {w w':World} {k:List It} {ops:Array Oper} {rest:List Oper} {o:Oper}
variable {α Z γ:Type} {T:GoT α} {S:GoT Z} {get:α->Z} {set:α->Z->α}
theorem arg_vw {X:AV} {n off len ty:Nat} {hl:0<len} {S:GoT Z} {get:α->List Z} {set:α->List Z->α} {x:α} (h:X = .vw n off len) (hn:hp n = .box ty T x) (L:Lens T off (arrT len hl S) get set):zgI J hp X (.val (bsl S) (get x)):=fun nx ρ w v s hx=>by
  subst h;obtain⟨g,cap,e1,rfl,h1,h2⟩:=hx;obtain⟨g',e3,e4,cs,hr,hc⟩:=zoN s hn L (v:=.pointer (some ((⟨g,0,none⟩:Addr).add off))) ⟨g,e1,rfl⟩;obtain rfl:g=g':=yb8;have hlen:=hr.1;refine⟨_,⟨some ((⟨g,0,none⟩:Addr).add off),cap,by rw[hlen],by omega,h2,fun _=>⟨_,cs,rfl,fun h=>h,(hr.2.mono (zgW s)),hc⟩⟩,.inr ⟨rfl,rfl⟩⟩
theorem zeG {X:AV} {n off ty:Nat} {x:α} (h:X = .ptr n off) (hn:hp n = .box ty T x) (L:Lens T off S get set):zgI J hp X (.rptr S (get x)):=fun _ _ _ _ s hx=>by
  subst h;obtain⟨g,e1,e2,hat⟩:=zoN s hn L hx;obtain⟨cs,hr,hc⟩:=hat
  exact⟨_,e2,fun h=>h,cs,S.mono (zgW s) hr,hc⟩
theorem zH {X:AV} {x:α} (h:X = .rptr T x):zgI J hp X (.rptr T x):=fun _ _ _ _ s hx=>by
  subst h;obtain⟨ad,e,hn,hat⟩:=hx;exact⟨ad,e,fun h=>h,GoT.at_mono (zgW s) hn hat⟩
def zmp (J:Job) (hp:Hp):List Nat->List AV->Prop
  | [],[]=>True
  | n::ns,A::As=>zgI J hp (.ptr n 0) A/\zmp J hp ns As
  | _,_=>False
theorem zk8 (s:SimH J nx ρ hp w):∀{ns:List Nat} {As:List AV},zmp J hp ns As->(∀n∈ns,∃g,ρ n = .pointer (some ⟨g,0,none⟩))->zbJ (Uu J ρ hp) w As (ns.map ρ)
  | [],[],_,_=>trivial
  | n::ns,A::As,h,hb=>by
    obtain⟨g,e⟩:=hb n yw;exact⟨h.1 _ _ _ _ s ⟨g,e,e⟩,zk8 s h.2 fun m hm=>hb m (by simp[hm])⟩
  | [],_::_,h,_=>h.elim
  | _::_,[],h,_=>h.elim
theorem zbJ.append {ext:Nat->Prop}:∀{As Bs:List AV} {vs us:List Value},zbJ ext w As vs->zbJ ext w Bs us->zbJ ext w (As++Bs) (vs++us)
  | [],_,[],_,_,h=>h
  | _::_,_,_::_,_,h,h'=>⟨h.1,zbJ.append h.2 h'⟩
  | [],_,_::_,_,h,_=>h.elim
  | _::_,_,[],_,h,_=>h.elim
theorem zbJ.later {ext ext':Nat->Prop} (hs:w.heap.size<=w'.heap.size) (hb:∀b,b<w.heap.size->w'.heap[b]?=w.heap[b]?) (he:∀b,b<w.heap.size->ext' b->ext b):∀{As:List AV} {vs:List Value},As.all AV.under0=true->zbJ ext w As vs->zbJ ext' w' As vs
  | [],[],_,_=>trivial
  | A::As,v::vs,hu,h=>by
    simp only[List.all_cons,uk] at hu;exact⟨AV.rel_mono ⟨fun _ h=>h.elim,hs,fun b hlt _=>hb b hlt,he,fun _ _ h=>h⟩ (AV.under0_spec hu.1) h.1,zbJ.later hs hb he hu.2 h.2⟩
  | [],_::_,_,h=>h.elim
  | _::_,[],_,h=>h.elim
theorem zmk {ext:Nat->Prop} {w0:World} {B:GoT Z} {y:Z} {e:Ending} {w:World} (h:znh ext w0 (.val B y) e w):zu7 ext w0 B y e w:=by
  cases e<;>exact h
theorem zdO {A:GoT α} {B:GoT Z} {f:α->Z} {X:AV} {g:FuncId} {caps:List Nat} {Cs:List AV} (h:X = .clo g caps) (hf:fnB J.P g=true) (hb:∀n∈caps,∃ty,∃(γ:Type) (T:GoT γ) (x:γ),hp n = .box ty T x) (hc:zmp J hp caps Cs) (hu:Cs.all AV.under0=true)
    (hT:∀x,Tells J.P g (.val A x::Cs) (.val B (f x))):zgI J hp X (.fn1 J.P A B f):=fun nx ρ w v s hx=>by
  subst h;have hx:v=_:=hx;subst hx;have hcaps:=zk8 s hc fun n hn=>by
    obtain⟨ty,γ,T,x,e⟩:=hb n hn
    have:=s.hrel n
    rw[e] at this;obtain⟨g,_,e,_⟩:=this;exact⟨g,e⟩
  refine⟨w,Uu J ρ hp,g,_,rfl,ug _,fun b _=>⟨fun h=>h,rfl,fun h=>h⟩,fun w' ext hs hw hext=>⟨hf,fun x vx hvx=>?_⟩⟩
  have:=hT x ext w' (vx::caps.map ρ) hext ⟨hvx,zbJ.later hs (fun b hb=>(hw b hb).1) (fun b hb=>(hw b hb).2) hu hcaps⟩
  have e:(vx::caps.map ρ).toArray = #[vx]++(caps.map ρ).toArray:=yw;rw[e] at this;exact Calls.mono this fun e w h=>zmk h
theorem zdN {A:GoT α} {A':GoT γ} {B:GoT Z} {f:α->γ->Z} {X:AV} {g:FuncId} {caps:List Nat} {Cs:List AV} (h:X = .clo g caps) (hf:fnB J.P g=true) (hb:∀n∈caps,∃ty,∃(γ:Type) (T:GoT γ) (x:γ),hp n = .box ty T x) (hc:zmp J hp caps Cs) (hu:Cs.all AV.under0=true)
    (hT:∀x y,Tells J.P g (.val A x :: .val A' y::Cs) (.val B (f x y))):zgI J hp X (.fn2 J.P A A' B f):=fun nx ρ w v s hx=>by
  subst h;have hx:v=_:=hx;subst hx;have hcaps:=zk8 s hc fun n hn=>by
    obtain⟨ty,γ,T,x,e⟩:=hb n hn
    have:=s.hrel n
    rw[e] at this;obtain⟨g,_,e,_⟩:=this;exact⟨g,e⟩
  refine⟨w,Uu J ρ hp,g,_,rfl,ug _,fun b _=>⟨fun h=>h,rfl,fun h=>h⟩,fun w' ext hs hw hext=>⟨hf,fun x vx y vy hvx hvy=>?_⟩⟩
  have:=hT x y ext w' (vx::vy::caps.map ρ) hext ⟨hvx,hvy,zbJ.later hs (fun b hb=>(hw b hb).1) (fun b hb=>(hw b hb).2) hu hcaps⟩
  have e:(vx::vy::caps.map ρ).toArray = #[vx,vy]++(caps.map ρ).toArray:=yw;rw[e] at this;exact Calls.mono this fun e w h=>zmk h
theorem zae {X:AV} {A:AV} (h:X=A) (hA:A.under0=true):zgI J hp X A:=fun nx ρ w v s hx=>by
  subst h;exact AV.rel_ren (nx:=0) (fun n hn=>by omega) (AV.under0_spec hA) (AV.rel_B (AV.under0_spec hA) (AV.rel_mono (zgW s) (AV.under0_spec hA) hx))
theorem zgQ {x : Operand} {xs : Array Operand} {ts : Array TypeId} {f : FuncId} {caps : Array Value} {fn : Func} (ho : o.op = .call { callee := .value x, args := xs, argTypes := ts }) (hx : a.eval x = .func (.func f) #[] caps) (hf : J.P.funcs[f]? = some fn) (hb : fn.body.isSome = true) (hnm : (fn.name == "runtime.NumGoroutine") = false) :
    (execOp a.eval o).run J.P w = .ok (.enter f (xs.map a.eval++caps)) w:=by
  unfold execOp;rw[ho];simp only[resolve,hx,Deferred.ofValue,Sem.run_bind,Sem.run_pure,Result.andThen_ok,invoke,callFunc,empty_append]
  have hne : fn.name ≠ "runtime.NumGoroutine" := by simpa using hnm
  have hbn:fn.body≠none:=yb9;simp[hf,hne,hbn]
theorem zfd {x : Operand} {f : FuncId} {caps : List Nat} {xs : Array Operand} {ts : Array TypeId} {As Cs : List AV} {X : AV} (hc : Tells J.P f (As ++ Cs) X) (ho : o.op = .call { callee := .value x, args := xs, argTypes := ts }) (hx : fr.ev x = .clo f caps) (hf : fnB J.P f = true) (ha : zhY J fr hp xs.toList As)
    (hb:∀n∈caps,∃ty,∃(γ:Type) (T:GoT γ) (x:γ),hp n = .box ty T x) (hcs:zmp J hp caps Cs) (hX':X.under0=true):OpG J o fr hp X where
  run {nx ρ a w} s hr _ K Q hK:=by
    have hX:=AV.under0_spec hX';obtain⟨fn,h1,h2,h3⟩:=zbG hf;have hv:=hr x yy;rw[hx] at hv;have hv:a.eval x=_:=hv;unfold Oper.wp;rw[zgQ ho hv h1 h2 h3,Oper.upon_enter];have hargs:=zgs (s:=s) (a:=a) (fun y hy=>hr y yba) ha;have hcaps:=zk8 s hcs fun n hn=>by
      obtain⟨ty,γ,T,x,e⟩:=hb n hn
      have:=s.hrel n
      rw[e] at this;obtain⟨g,_,e,_⟩:=this;exact⟨g,e⟩
    have e:(xs.toList.map a.eval++caps.map ρ).toArray=xs.map a.eval++(caps.map ρ).toArray:=yca
    have:=hc (Uu J ρ hp) w _ (fun b hb=>s.uu_lt hb) (zbJ.append hargs hcaps)
    rw[e] at this;refine Calls.mono this fun e w' he=>?_
    cases e with
    | returned v =>
      refine hK v w' he.1 ?_;exact AV.rel_mono (nx:=0) (zie s w') hX (AV.rel_ren (ρ:=ρ0) (ρ':=ρ) (fun n hn=>by omega) hX (AV.rel_B (B':=J.B) hX he.2))
    | panicked c=>exact he.elim
    | outgrown=>exact he.elim
  und _ _:=AV.under_mono (uf _) (AV.under0_spec hX')
  nd c hc:=ycb
theorem zkV {x:Operand} {A:GoT α} {B:GoT Z} {f:α->Z} {y:Operand} {ts:Array TypeId} {z:α} (ho:o.op = .call { callee:=.value x,args:=#[y],argTypes:=ts }) (hx:fr.ev x = .fn1 J.P A B f) (ha:zgI J hp (fr.ev y) (.val A z)):OpG J o fr hp (.val B (f z)) where
  run {nx ρ a w} s hr _ K Q hK:=by
    have hv:=hr x yy;rw[hx] at hv;obtain⟨w1,U1,g,caps,e,hs,hb,hc⟩:=hv;obtain⟨hf,hC⟩:=hc w (Uu J ρ hp) hs (fun b hlt=>⟨(hb b hlt).2.1,(hb b hlt).2.2⟩) (fun b hb=>s.uu_lt hb);obtain⟨fn,h1,h2,h3⟩:=zbG hf;unfold Oper.wp;rw[zgQ ho e h1 h2 h3,Oper.upon_enter];have hy:=ha _ _ _ _ s (hr y yy)
    have:=hC z (a.eval y) hy
    refine Calls.mono (by simpa using this) fun e w' he=>?_
    cases e with
    | returned v=>exact hK v w' he.1 (AV.rel_mono (x:=.val B (f z)) (nx:=0) (ρ:=ρ) (B:=J.B) (zie s w') trivial he.2)
    | panicked c=>exact he.elim
    | outgrown=>exact he.elim
  und _ _:=trivial
  nd c hc:=ycb
theorem zm6 {x:Operand} {A:GoT α} {A':GoT γ} {B:GoT Z} {f:α->γ->Z} {y y':Operand} {ts:Array TypeId} {z:α} {z':γ} (ho:o.op = .call { callee:=.value x,args:=#[y,y'],argTypes:=ts }) (hx:fr.ev x = .fn2 J.P A A' B f) (ha:zgI J hp (fr.ev y) (.val A z)) (ha':zgI J hp (fr.ev y') (.val A' z')):OpG J o fr hp (.val B (f z z')) where
  run {nx ρ a w} s hr _ K Q hK:=by
    have hv:=hr x yy;rw[hx] at hv;obtain⟨w1,U1,g,caps,e,hs,hb,hc⟩:=hv;obtain⟨hf,hC⟩:=hc w (Uu J ρ hp) hs (fun b hlt=>⟨(hb b hlt).2.1,(hb b hlt).2.2⟩) (fun b hb=>s.uu_lt hb);obtain⟨fn,h1,h2,h3⟩:=zbG hf;unfold Oper.wp;rw[zgQ ho e h1 h2 h3,Oper.upon_enter];have hy:=ha _ _ _ _ s (hr y yy);have hy':=ha' _ _ _ _ s (hr y' yy)
    have:=hC z (a.eval y) z' (a.eval y') hy hy'
    refine Calls.mono (by simpa using this) fun e w' he=>?_
    cases e with
    | returned v=>exact hK v w' he.1 (AV.rel_mono (x:=.val B (f z z')) (nx:=0) (ρ:=ρ) (B:=J.B) (zie s w') trivial he.2)
    | panicked c=>exact he.elim
    | outgrown=>exact he.elim
  und _ _:=trivial
  nd c hc:=ycb
theorem g_mkf {f:FuncId} {xs:Array Operand} {caps:List Nat} (ho:o.op = .makeFunc (.func f) #[] xs) (hx:xs.toList.map fr.ev=caps.map fun n=>.ptr n 0):OpG J o fr hp (.clo f caps):=by
  have key:∀(xs:List Operand) (caps:List Nat) {ρ:Nat->Value} {B:Nat->Prop} {U N:Nat->Prop} {w:World} {a:Act},xs.map fr.ev=caps.map (fun n=>.ptr n 0)->(∀y∈xs,(fr.ev y).rel ρ B U N w (a.eval y))->xs.map a.eval=caps.map ρ:=by
    intro xs
    induction xs with
    | nil=>intro caps _ _ _ _ _ _ h _;cases caps<;>simp_all
    | cons x xs ih =>
      intro caps ρ B U N w a h hr;cases caps with
      | nil=>simp at h
      | cons c caps =>
        simp only[map_cons,List.cons.injEq] at h;have h1:=hr x yw;rw[h.1] at h1;obtain⟨g,e1,e2⟩:=h1;rw[map_cons,map_cons,ih caps h.2 (fun y hy=>hr y ybt),e1];rw[e2];rfl
  refine .of_run (fun {_ ρ a _} s hr _=>⟨.func (.func f) #[] (xs.map a.eval),?_,?_⟩) (fun _ hn c hc=>?_)
  . unfold execOp;rw[ho];simp[Instr.makeFunc,Sem.run_bind]
  . show _=_
    have:=key xs.toList caps hx (fun y hy=>hr y (by rw[ho];simp[Op.operands];exact Array.mem_toList_iff.1 hy))
    rw[<-this];congr 1;apply Array.ext';simp
  have hm:AV.ptr c 0∈xs.toList.map fr.ev:=by rw[hx];exact mem_map.2 ⟨c,hc,rfl⟩
  obtain⟨y,hy,e⟩:=mem_map.1 hm
  have:=hn y (by rw[ho];simp[Op.operands];exact Array.mem_toList_iff.1 hy)
  rw[e] at this;exact this
theorem zds {P:Program} {t n e sz:Nat} (h:arrB P t n e sz=true) (w:World):P.underlying t=some (.array n e)/\(sizeOf e).run P w = .ok sz w:=by
  unfold arrB at h;rw[uk] at h;obtain⟨h1,h2⟩:=h;have h2:(P.info? e).map (·.size)=some sz:=by simpa using h2
  cases hu:P.underlying t with
  | none=>simp[hu] at h1
  | some d =>
    cases d<;>simp[hu] at h1;rename_i n' e';obtain rfl:n=n':=h1.1.symm;obtain rfl:e=e':=h1.2.symm;cases hi:P.info? e with
    | none=>simp[hi] at h2
    | some i =>
      have:i.size=sz:=by simpa [hi] using h2
      exact⟨rfl,by simp[sizeOf,typeInfo,hi,this]⟩
theorem zoh {t e m n off sz:Nat} {x:Operand} (ho:o.op = .slice t x none none none) (hx:fr.ev x = .ptr n off) (ht:arrB J.P t m e sz=true) (hm:Nat.ble m maxLen=true) (hm0:Nat.blt 0 m=true):OpG J o fr hp (.vw n off m):=by
  refine .of_run (fun {_ _ _ w} s hr _=>?_) (fun _ hn=>?_)
  . have h:=hr x ym
    rw[hx] at h;obtain⟨g,e1,e2⟩:=h;obtain⟨h1,h2⟩:=zds ht w;refine⟨_,?_,g,m,e1,rfl,ug _,by simpa using hm⟩
    have h0 : m ≠ 0 := by have : 0 < m := by simpa using hm0
                          omega
    unfold execOp;rw[ho];simp[Instr.sliceAt,Sem.run_bind,run_underlying h1,e2,Instr.sureAddr,Instr.sliceBounds,h2,h0,Addr.add]
  have h:=hn x ym;rw[hx] at h;exact h
theorem zog {t e m n sz:Nat} {h:0<n} {l:List α} {x:Operand} (ho:o.op = .slice t x none none none) (hx:fr.ev x = .rptr (arrT n h T) l) (ht:arrB J.P t m e sz=true) (hnm:n=m) (hm:Nat.ble n maxLen=true):OpG J o fr hp (.val (bsl T) l):=by
  subst hnm;refine .of_run (fun {_ _ _ w} s hr _=>?_) (fun _ hn=>trivial);have h':=hr x ym;rw[hx] at h';obtain⟨ad,e1,hN,cs,⟨hl,hr'⟩,hc⟩:=h';obtain⟨h1,h2⟩:=zds ht w;have hmx:n<=maxLen:=by simpa using hm
  refine⟨.slice (some ad) n n,?_,_,⟨some ad,n,by rw[hl],by omega,hmx,fun _=>⟨ad,cs,rfl,hN,hr',hc⟩⟩,.inr ⟨rfl,rfl⟩⟩;have h0:n≠0:=ya;unfold execOp;rw[ho];simp[Instr.sliceAt,Sem.run_bind,run_underlying h1,e1,Instr.sureAddr,Instr.sliceBounds,h2,h0,Addr.add]
theorem zkk {b:Bool} {U N:Nat->Prop} {l:List α} {lo hi:Nat} {ad:Option Addr} {cap m:Nat} (hl:lo<=hi) (hh:hi<=l.length) (hcap:l.length<=cap) (hm:cap<=maxLen) (hm1:hi<=m) (hm2:m<=cap)
    (h3:l≠[]->∃a ds,ad=some a/\¬(if b then N else U) a.block/\zai T U N w l ds/\∀j v,ds[j]?=some v->w.cell? (a.add j)=some v) :
    (slT b T).val U N w ((l.take hi).drop lo) (.slice (if m=lo then ad else ad.map (·.add (lo*T.size))) (hi-lo) (m-lo)):=by
  have hlen:((l.take hi).drop lo).length=hi-lo:=yB;refine⟨_,⟨_,m-lo,by rw[hlen],by omega,by omega,fun hne=>?_⟩,.inr ⟨rfl,rfl⟩⟩;have hlt:lo<hi:=by
    have:0<((l.take hi).drop lo).length:=List.length_pos_iff.2 hne
    omega
  obtain⟨a,ds,rfl,hu,hr,hc⟩:=h3 (by intro e;rw[e] at hh;simp at hh;omega);rw[ur ya];refine⟨a.add (lo*T.size),(ds.take (hi*T.size)).drop (lo*T.size),rfl,by rw[zbM];exact hu,(hr.take hi).drop lo,fun j v hj=>?_⟩;rw[zbO];rw[List.getElem?_drop,List.getElem?_take] at hj
  split at hj
  . exact hc _ v hj
  simp at hj
section
variable {t e:TypeId} {x y z:Operand} {b:Bool} {l:List α} {lo hi:Int}
theorem zoi (ho:o.op = .slice t x none (some z) none) (hx:fr.ev x = .val (slT b T) l) (hz:fr.ev z = .val i64T hi) (hs:sliceB J.P t e T.size=true) (h:0<=hi/\hi<=l.length):OpG J o fr hp (.val (slT b T) (l.take hi.toNat)):=by
  refine .of_run (fun {_ _ _ w} s hr _=>?_) (fun _ _=>trivial);have h1:=hr x ym;have h2:=hr z ym;rw[hx] at h1;rw[hz] at h2;obtain⟨ad,cap,e1,c1,c2,c3⟩:=zhM h1;obtain⟨e2,_⟩:=zO.1 h2;obtain⟨hs1,hs2,_⟩:=za4 hs w
  have:=zkk (lo:=0) (hi:=hi.toNat) (m:=cap) (uf _) ya c1 c2 ya (ug _) c3
  refine⟨_,?_,this⟩;unfold execOp;rw[ho];have hb:hi<=(cap:Int):=ya;simp[Instr.sliceAt,Instr.slice,Sem.run_bind,run_underlying hs1,e1,e2,Instr.sliceBounds,Instr.sliceBound,asIntOf,h.1,hb,hs2]
theorem zjt (ho:o.op = .slice t x (some y) none none) (hx:fr.ev x = .val (slT b T) l) (hy:fr.ev y = .val i64T lo) (hs:sliceB J.P t e T.size=true) (h:0<=lo/\lo<=l.length):OpG J o fr hp (.val (slT b T) (l.drop lo.toNat)):=by
  refine .of_run (fun {_ _ _ w} s hr _=>?_) (fun _ _=>trivial);have h1:=hr x ym;have h2:=hr y ym;rw[hx] at h1;rw[hy] at h2;obtain⟨ad,cap,e1,c1,c2,c3⟩:=zhM h1;obtain⟨e2,_⟩:=zO.1 h2;obtain⟨hs1,hs2,_⟩:=za4 hs w
  have:=zkk (lo:=lo.toNat) (hi:=l.length) (m:=cap) ya (ug _) c1 c2 c1 (ug _) c3
  rw[List.take_length] at this;refine⟨_,?_,this⟩;unfold execOp;rw[ho];simp[Instr.sliceAt,Instr.slice,Sem.run_bind,run_underlying hs1,e1,e2,Instr.sliceBounds,Instr.sliceBound,asIntOf,h.1,h.2,hs2]
theorem g_sl_lh (ho:o.op = .slice t x (some y) (some z) none) (hx:fr.ev x = .val (slT b T) l) (hy:fr.ev y = .val i64T lo) (hz:fr.ev z = .val i64T hi) (hs:sliceB J.P t e T.size=true) (h:0<=lo/\lo<=hi/\hi<=l.length):OpG J o fr hp (.val (slT b T) ((l.take hi.toNat).drop lo.toNat)):=by
  refine .of_run (fun {_ _ _ w} s hr _=>?_) (fun _ _=>trivial);have h1:=hr x ym;have h2:=hr y ym;have h3:=hr z ym;rw[hx] at h1;rw[hy] at h2;rw[hz] at h3;obtain⟨ad,cap,e1,c1,c2,c3⟩:=zhM h1;obtain⟨e2,_⟩:=zO.1 h2;obtain⟨e3,_⟩:=zO.1 h3;obtain⟨hs1,hs2,_⟩:=za4 hs w
  have:=zkk (lo:=lo.toNat) (hi:=hi.toNat) (m:=cap) ya ya c1 c2 ya (ug _) c3
  refine⟨_,?_,this⟩;unfold execOp;rw[ho];have hb:hi<=(cap:Int):=ya;have hc:0<=hi:=ya;have hd:lo<=max hi 0:=ya;simp[Instr.sliceAt,Instr.slice,Sem.run_bind,run_underlying hs1,e1,e2,e3,Instr.sliceBounds,Instr.sliceBound,asIntOf,h.1,hb,hc,hd,hs2]
theorem zwe {u:Operand} {mx:Int} (ho:o.op = .slice t x (some y) (some z) (some u)) (hx:fr.ev x = .val (slT b T) l) (hy:fr.ev y = .val i64T lo) (hz:fr.ev z = .val i64T hi) (hu:fr.ev u = .val i64T mx) (hs:sliceB J.P t e T.size=true) (h:0<=lo/\lo<=hi/\hi<=mx/\mx<=l.length):OpG J o fr hp (.val (slT b T) ((l.take hi.toNat).drop lo.toNat)):=by
  refine .of_run (fun {_ _ _ w} s hr _=>?_) (fun _ _=>trivial);have h1:=hr x ym;have h2:=hr y ym;have h3:=hr z ym;have h4:=hr u ym;rw[hx] at h1;rw[hy] at h2;rw[hz] at h3;rw[hu] at h4;obtain⟨ad,cap,e1,c1,c2,c3⟩:=zhM h1;obtain⟨e2,_⟩:=zO.1 h2;obtain⟨e3,_⟩:=zO.1 h3;obtain⟨e4,_⟩:=zO.1 h4;obtain⟨hs1,hs2,_⟩:=za4 hs w
  have:=zkk (lo:=lo.toNat) (hi:=hi.toNat) (m:=mx.toNat) ya ya c1 c2 ya ya c3
  refine⟨_,?_,this⟩;unfold execOp;rw[ho];have hb:hi<=(cap:Int):=ya;have hc:0<=hi:=ya;have hd:lo<=max hi 0:=ya;have hm1:mx<=(cap:Int):=ya;have hm2:0<=mx:=ya;have hm3:hi<=max mx 0:=ya;simp[Instr.sliceAt,Instr.slice,Sem.run_bind,run_underlying hs1,e1,e2,e3,e4,hm1,hm2,hm3,Instr.sliceBounds,Instr.sliceBound,asIntOf,h.1,hb,hc,hd,hs2]
end
end
end Go.Ab
namespace Go.Ab
open Go.RowKit
section
variable {J:Job} {nx:Nat} {ρ:Nat->Value} {fr:Fr} {hp:Hp} {a:Act} {w w':World} {k:List It} {ops:Array Oper} {rest:List Oper} {o:Oper}
variable {α Z γ:Type} {T:GoT α} {S:GoT Z} {get:α->Z} {set:α->Z->α}
def zrR (R:Operand->α->Prop):Nat->List (Nat×Operand)->List α->Prop
  | _,[],[]=>True
  | i,(j,y)::ps,x::xs=>j=i/\R y x/\zrR R (i+1) ps xs
  | _,_,_=>False
def zw3 (fr:Fr) (T:GoT α):Nat->List (Nat×Operand)->List α->Prop:=zrR fun y x=>fr.ev y = .val T x
theorem zkW (vs:List Value):∀(off:Nat) (i:Nat) (cells:Array Value),((vs.zipIdx i).foldl (fun cs (x:Value×Nat)=>cs.setIfInBounds (off+x.2) x.1) cells).size=cells.size/\
    (off+i+vs.length<=cells.size->((vs.zipIdx i).foldl (fun cs (x:Value×Nat)=>cs.setIfInBounds (off+x.2) x.1) cells).toList=cells.toList.take (off+i)++vs++cells.toList.drop (off+i+vs.length)):=by
  induction vs with
  | nil=>intro off i cells;simp
  | cons v vs ih =>
    intro off i cells;simp only[List.zipIdx_cons,List.foldl_cons];obtain⟨h1,h2⟩:=ih off (i+1) (cells.setIfInBounds (off+i) v);refine⟨by rw[h1];simp,fun hle=>?_⟩;rw[length_cons] at hle;rw[h2 yB,Array.toList_setIfInBounds];have e:=list_seg_step cells.toList (off+i) v vs yB;simpa [Nat.add_assoc] using e
theorem zm7 {R:Operand->α->Prop} {U N:Nat->Prop} {a:Act}:∀(ps:List (Nat×Operand)) (xs:List α) (i:Nat) (cells:Array Value),zrR R i ps xs->(∀p∈ps,∀x,R p.2 x->T.val U N w x (a.eval p.2))->(i+xs.length)*T.size<=cells.size->
    ∃out mid:List Value,Instr.fill (fun i=>some (i*T.size,T.size)) cells (ps.map fun p=>(p.1,a.eval p.2))=some out.toArray/\out=cells.toList.take (i*T.size)++mid++cells.toList.drop ((i+xs.length)*T.size)/\zai T U N w xs mid
  | [],[],i,cells,_,_,_=>⟨cells.toList,[],by simp[Instr.fill],by simp,rfl⟩
  | (j,y)::ps,x::xs,i,cells,h,hr,hle=>by
    obtain⟨rfl,hy,hv⟩:=h;have hx:=GoT.val_cells (hr (j,y) yw x hy);have hsz:(a.eval y).cells.size=T.size:=by simpa using T.len hx
    have hmul:(j+(x::xs).length)*T.size=j*T.size+T.size+xs.length*T.size:=by
      rw[length_cons,add_mul,add_mul];omega
    rw[hmul] at hle;obtain⟨f1,f2⟩:=zkW (a.eval y).cells.toList (j*T.size) 0 cells;generalize hc:((a.eval y).cells.toList.zipIdx 0).foldl (fun cs (x:Value×Nat)=>cs.setIfInBounds (j*T.size+x.2) x.1) cells=cells' at f1 f2;have f2:=f2 (by simp[hsz];omega);simp only[Nat.add_zero,length_toList,hsz] at f2;have hm2:(j+1+xs.length)*T.size=j*T.size+T.size+xs.length*T.size:=by rw[add_mul,add_mul];omega
    have hm1:(j+1)*T.size=j*T.size+T.size:=by rw[add_mul];omega
    obtain⟨out,mid,h1,h2,h3⟩:=zm7 ps xs (j+1) cells' hv (fun p hp=>hr p (by simp[hp])) ya;refine⟨out,(a.eval y).cells.toList++mid,?_,?_,_,mid,rfl,hx,h3⟩
    . have e : (a.eval y).cells.zipIdx.foldl (fun cs (x : Value × Nat) => cs.setIfInBounds (j * T.size + x.2) x.1) cells = cells' := by
        rw[<-hc,<-Array.foldl_toList];simp
      have hc1:(decide ((a.eval y).cells.size≠T.size)||decide (j*T.size+(a.eval y).cells.size>cells.size))=false:=by
        rw[Bool.or_eq_false_iff];constructor<;>simp<;>omega
      simp only[map_cons,Instr.fill,hc1,false_eq_true,if_false];rw[<-h1,<-e]
    have hA : (cells.toList.take (j * T.size) ++ (a.eval y).cells.toList).length = (j + 1) * T.size := by
      rw[hm1,ue,um,length_toList,length_toList,hsz];omega
    have hl:cells'.toList.take ((j+1)*T.size)=cells.toList.take (j*T.size)++(a.eval y).cells.toList:=by
      rw[f2];exact List.take_left' hA
    have hd:cells'.toList.drop ((j+1+xs.length)*T.size)=cells.toList.drop ((j+(x::xs).length)*T.size):=by
      have e:(j+1+xs.length)*T.size=(j+1)*T.size+xs.length*T.size:=ya;rw[f2,e,<-List.drop_drop,List.drop_left' hA,List.drop_drop];congr 1;omega
    rw[h2,hl,hd];simp
  | [],_::_,_,_,h,_,_=>h.elim
  | _::_,[],_,_,h,_,_=>h.elim
theorem zmK {R:Operand->α->Prop}:∀{ps:List (Nat×Operand)} {xs:List α} {i:Nat},zrR R i ps xs->ps.length=xs.length
  | [],[],_,_=>rfl
  | (_,_)::ps,_::xs,_,h=>by simp[zmK h.2.2]
  | [],_::_,_,h=>h.elim
  | _::_,[],_,h=>h.elim
theorem zpA {R:Operand->α->Prop} {t e n:Nat} {ps:List (Nat×Operand)} {xs:List α} {U N:Nat->Prop} {a:Act} (ho:o.op = .buildSlice t n ps.toArray) (hs:sliceB J.P t e T.size=true) (hz:∃z,(J.P.info? e).bind (·.zero)=some z/\z.cells.size=T.size) (hv:zrR R 0 ps xs) (hn:n=xs.length) (hb:n*T.size<=16777216)
    (hr:∀p∈ps,∀x,R p.2 x->T.val U N w x (a.eval p.2)):∃cs,(execOp a.eval o).run J.P w = .ok (.value (.slice (some ⟨w.heap.size,0,none⟩) n n)) (w.alloc (.cells cs.toArray e))/\zai T U N w xs cs:=by
  obtain⟨hs1,hs2,i,hi,hsz⟩:=za4 hs w;obtain⟨z,hz,hzc⟩:=hz;rw[hi] at hz;have hz:i.zero=some z:=by simpa using hz
  have hinit:((Array.range (n*T.size)).map (z.cells[· % z.cells.size]!)).size=n*T.size:=yw;obtain⟨out,mid,h1,h2,h3⟩:=zm7 (w:=w) (U:=U) (N:=N) (a:=a) ps xs 0 ((Array.range (n*T.size)).map (z.cells[· % z.cells.size]!)) hv hr (by rw[hinit,hn,zero_add];exact ug _);have h0:out=mid:=by
    rw[h2,drop_of_length_le (by simp[hn])];simp
  subst h0;refine⟨out,?_,h3⟩;have hp:(ps.toArray.map fun (i,x)=>(i,a.eval x)).toList=ps.map fun p=>(p.1,a.eval p.2):=yw
  have hle:¬n*T.size>2^24:=ya;unfold execOp;rw[ho];by_cases h0:n*T.size=0
  . have hn0 : n = 0 := by
      rcases Nat.mul_eq_zero.1 h0 with h|h
      . exact h
      have:=T.pos;omega
    have hxs:xs=[]:=List.length_eq_zero_iff.1 ya;subst hxs;have hps:ps=[]:=List.length_eq_zero_iff.1 (zmK hv);subst hps
    have:out=[]:=h3
    subst this;subst hn0;simp[Instr.buildSlice,Sem.run_bind,run_underlying hs1,hs2,Instr.fill,newRow,newObj,Sem.run]
    have:Array.range 0 = #[]:=yl
    rw[this];simp
  simp only[Instr.buildSlice,Sem.run_bind,run_underlying hs1,Result.andThen_ok,hs2,ur hle,ur h0,zeroValue,typeInfo,program,Sem.run,hi,hz,Sem.run_pure,hp,h1];simp[newRow,newObj,Sem.run]
theorem zs8 {R:Operand->α->Prop} {t e n:Nat} {ps:List (Nat×Operand)} {xs:List α} (ho:o.op = .buildSlice t n ps.toArray) (hs:sliceB J.P t e T.size=true) {bytes:Nat} (hrow:rowB J.P t e T.size bytes=true) (hv:zrR R 0 ps xs) (hR:∀{ρ B U N w y x v},R y x->(fr.ev y).rel ρ B U N w v->T.val U N w x v) (hn:n=xs.length) (hb:Nat.ble (n*T.size) 16777216=true):OpG J o fr hp (.val (sl T) xs) where
  run {nx ρ a w} s hr _ K Q hK:=by
    have hz:∃z,(J.P.info? e).bind (·.zero)=some z/\z.cells.size=T.size:=by
      obtain⟨_,i,z,hi,hz,_,_,h⟩:=zdk hrow;exact⟨z,by rw[hi];exact hz,h⟩
    obtain⟨cs,h1,h2⟩:=zpA (w:=w) (a:=a) (U:=Uu J ρ hp) (N:=Nn ρ hp) ho hs hz hv hn (by simpa using hb) (fun p hp' x hx=>hR hx (hr p.2 yaH));unfold Oper.wp;rw[h1];refine hK _ _ (zbl _ _) ?_;have hlen:xs.length<=maxLen:=by
      have h3:n*T.size<=16777216:=by simpa using hb
      have h4:=T.pos
      have:n*1<=n*T.size:=Nat.mul_le_mul_left _ h4
      unfold maxLen;omega
    subst hn;refine⟨_,⟨some ⟨w.heap.size,0,none⟩,xs.length,rfl,ug _,hlen,fun _=>⟨_,cs,rfl,fun hu=>?_,h2.mono (s.keeps (zbl _ _)),fun j v hj=>?_⟩⟩,.inr ⟨rfl,rfl⟩⟩
    . have:=s.uu_lt hu
      simp at this
    rw[zgz,cell_of_row _ _ j cs.toArray e (0,0) (heap_alloc_new w _)];simpa using hj
  und _ _:=trivial
  nd c hc:=ycb
theorem zW {t e n:Nat} {ps:List (Nat×Operand)} {xs:List α} (ho:o.op = .buildSlice t n ps.toArray) (hs:sliceB J.P t e T.size=true) {bytes:Nat} (hrow:rowB J.P t e T.size bytes=true) (hv:zw3 fr T 0 ps xs) (hn:n=xs.length) (hb:Nat.ble (n*T.size) 16777216=true):OpG J o fr hp (.val (sl T) xs) :=
  zs8 (R:=fun y x=>fr.ev y = .val T x) ho hs hrow hv (fun hx h=>by rw[hx] at h;exact h) hn hb
inductive Fills (P:Program) (fr:Fr) (s:TypeId) (T:GoT α):α->List (Nat×Operand)->α->Prop
  | nil {x}:Fills P fr s T x [] x
  | cons {Z:Type} {S:GoT Z} {get:α->Z} {set:α->Z->α} {x z:α} {y:Z} {f off:Nat} {ft:TypeId} {p:Operand} {ps} (hf:fieldB P s f off ft=true) (L:Lens T off S get set) (hft:tyB P ft S.size S.agg=true) (hy:fr.ev p = .val S y) (H:Fills P fr s T (set x y) ps z):Fills P fr s T x ((f,p)::ps) z
theorem zhv {P:Program} {s:TypeId} {f off:Nat} {ft:TypeId} (h:fieldB P s f off ft=true):∃fs fd,P.underlying s=some (.struct fs)/\fs[f]?=some fd/\fd.offset=off/\fd.type=ft:=by
  unfold fieldB at h;cases hu:P.underlying s with
  | none=>simp[hu] at h
  | some d =>
    cases d<;>simp[hu] at h;rename_i fs;cases hf:fs[f]? with
    | none=>simp[hf] at h
    | some fd=>simp[hf] at h;exact⟨fs,fd,rfl,hf,h.1.1,h.1.2⟩
theorem zlw {P:Program} {w:World}:∀(fs:List Field),(∀f∈fs,∃i,P.info? f.type=some i)->(fs.mapM (m:=Sem) fun f=>do pure (f.offset,<-sizeOf f.type)).run P w = .ok (fs.map fun f=>(f.offset,P.cellsOf f.type)) w
  | [],_=>rfl
  | f::fs,h=>by
    obtain⟨i,hi⟩:=h f yw;have ih:=zlw (w:=w) fs fun f hf=>h f (by simp[hf])
    have h1:(sizeOf f.type).run P w = .ok i.size w:=by simp[sizeOf,typeInfo,hi]
    rw[List.mapM_cons];simp only[Sem.run_bind,h1,ih,Result.andThen_ok,Sem.run_pure];simp[Program.cellsOf,hi]
theorem zuC {P:Program} {s:TypeId} {fs:Array Field} (hs:P.underlying s=some (.struct fs)) {U N:Nat->Prop} {a:Act}:∀{x z:α} {ps:List (Nat×Operand)} {cells:Array Value},Fills P fr s T x ps z->(∀p∈ps,(fr.ev p.2).rel ρ noN U N w (a.eval p.2))->T.rel U N w x cells.toList->
    ∃out,Instr.fill (fun i=>(fs.map fun f=>(f.offset,P.cellsOf f.type))[i]?) cells (ps.map fun p=>(p.1,a.eval p.2))=some out/\T.rel U N w z out.toList:=by
  intro x z ps cells h
  induction h generalizing cells with
  | nil=>exact fun _ hx=>⟨cells,rfl,hx⟩
  | @cons Z S get set x z y f off ft p ps hf L hft hy H ih =>
    intro hr hx;have hv:=hr (f,p) yw;simp only at hv;rw[hy] at hv;have hyr:=GoT.val_cells hv;have hsz:(a.eval p).cells.size=S.size:=by simpa using S.len hyr
    obtain⟨fs',fd,h1,h2,h3,h4⟩:=zhv hf;obtain rfl:fs=fs':=by rw[hs] at h1;injection h1 with h1;injection h1
    obtain⟨⟨i,hi,his⟩,_⟩:=zfs hft w;have hcl:cells.size=T.size:=by simpa using T.len hx
    have hfit:=L.fit;obtain⟨f1,f2⟩:=zkW (a.eval p).cells.toList off 0 cells;have f2:=f2 (by simp[hsz];omega);simp only[Nat.add_zero,length_toList,hsz] at f2
    have:=ih (cells:=((a.eval p).cells.toList.zipIdx 0).foldl (fun cs (x:Value×Nat)=>cs.setIfInBounds (off+x.2) x.1) cells) (fun q hq=>hr q (by simp[hq])) (by rw[f2];exact L.set_ hx hyr)
    obtain⟨out,ho,hz⟩:=this;refine⟨out,?_,hz⟩;have e:(a.eval p).cells.zipIdx.foldl (fun cs (x:Value×Nat)=>cs.setIfInBounds (off+x.2) x.1) cells=((a.eval p).cells.toList.zipIdx 0).foldl (fun cs (x:Value×Nat)=>cs.setIfInBounds (off+x.2) x.1) cells:=by
      rw[<-Array.foldl_toList];simp
    have hcells:P.cellsOf fd.type=S.size:=by simp[Program.cellsOf,h4,hi,his]
    have hpl:(fs.map fun f=>(f.offset,P.cellsOf f.type))[f]?=some (off,S.size):=by
      rw[Array.getElem?_map,h2,Option.map_some,h3,hcells]
    have hc1:(decide ((a.eval p).cells.size≠S.size)||decide (off+(a.eval p).cells.size>cells.size))=false:=by
      rw[Bool.or_eq_false_iff];constructor<;>simp<;>omega
    simp only[map_cons,Instr.fill,hpl,hc1,false_eq_true,if_false];rw[<-ho,<-e]
theorem zJ {t:TypeId} {ps:List (Nat×Operand)} {x0 z:α} (ho:o.op = .build t ps.toArray) (hz:zaw J.P t T x0) (hall:(match J.P.underlying t with|some (.struct fs)=>fs.all fun f=>(J.P.info? f.type).isSome|_=>false)=true) (hf:Fills J.P fr t T x0 ps z) (hagg:T.agg=true):OpG J o fr hp (.val T z):=by
  refine .of_run (fun {_ ρ a w} s hr _=>?_) (fun _ _=>trivial);have hall0:=hall;cases hu:J.P.underlying t with
  | none=>simp[hu] at hall
  | some d =>
    cases d<;>simp[hu] at hall;rename_i fs;simp only[hu] at hall0;obtain⟨zv,h1,h3⟩:=hz;obtain⟨i,h1,h2⟩:=bind_eq_some_iff.1 h1;have hr':∀p∈ps,(fr.ev p.2).rel ρ J.B (Uu J ρ hp) (Nn ρ hp) w (a.eval p.2):=fun p hp'=>hr p.2 yaH
    have key:∀{x z:α} {ps},Fills J.P fr t T x ps z->(∀p∈ps,(fr.ev p.2).rel ρ J.B (Uu J ρ hp) (Nn ρ hp) w (a.eval p.2))->∀p∈ps,(fr.ev p.2).rel ρ noN (Uu J ρ hp) (Nn ρ hp) w (a.eval p.2):=by
      intro x z ps h
      induction h with
      | nil=>intro _ p hp;cases hp
      | cons hf L hft hy H ih =>
        intro h p hp;rcases mem_cons.1 hp with rfl|hp
        . have:=h _ (List.mem_cons_self ..)
          simp only at this ⊢;rw[hy] at this ⊢;exact this
        exact ih (fun q hq=>h q (List.mem_cons_of_mem _ hq)) p hp
    obtain⟨out,hfill,hrel⟩:=zuC hu (cells:=zv.cells) hf (key hf hr') (h3 _ _ _);refine⟨.agg out,?_,out.toList,hrel,.inl ⟨hagg,by simp⟩⟩;have hpl:=zlw (P:=J.P) (w:=w) fs.toList (fun f hf=>by
      have:=Array.all_eq_true_iff_forall_mem.1 hall0 f (by simpa using hf)
      exact isSome_iff_exists.1 this)
    have hpl':(fs.mapM (m:=Sem) fun f=>do pure (f.offset,<-sizeOf f.type)).run J.P w = .ok (fs.map fun f=>(f.offset,J.P.cellsOf f.type)) w:=by
      rw[Array.mapM_eq_mapM_toList,Sem.run_map,hpl]
      have:(fs.toList.map fun f=>(f.offset,J.P.cellsOf f.type)).toArray=fs.map fun f=>(f.offset,J.P.cellsOf f.type):=yca
      simp only[Result.andThen_ok,this]
    have hp:(ps.toArray.map fun (i,x)=>(i,a.eval x)).toList=ps.map fun p=>(p.1,a.eval p.2):=yw
    unfold execOp;rw[ho];have hzr:(zeroValue t).run J.P w = .ok zv w:=by simp[zeroValue,typeInfo,h1,h2]
    simp only[Instr.build,Sem.run_bind,hzr,Result.andThen_ok,run_underlying hu,hpl',hp,hfill,Sem.run_pure]
end
end Go.Ab
namespace Go.Ab
open Go.RowKit
section
variable {J:Job} {nx:Nat} {ρ:Nat->Value} {fr:Fr} {hp:Hp} {a:Act} {w w':World} {k:List It} {ops:Array Oper} {rest:List Oper} {o:Oper}
variable {α Z γ:Type} {T:GoT α} {S:GoT Z} {get:α->Z} {set:α->Z->α}
theorem zmm {P:Program} {t ty e:TypeId} {i:TypeInfo} {z:Value} (ht:P.underlying t=some (.slice e)) (hi:P.info? e=some i) (hz:i.zero=some z) (hzs:z.cells.size=i.size) (hsz:0<i.size)
    {v:Value} {n:Nat} {xs:List Value} (hown:w.ownsRow 0 e i.size v n xs) {a:Addr} {m c:Nat} {news:List Value} (hl:news.length=m*i.size) (hnews:∀j u,news[j]?=some u->w.cell? (a.add j)=some u) (h1:∀u∈news,u.oneCell'=true)
    (h63:n+m<=maxLen) (hbytes:(n+m)*i.bytes<=140737488355328) :
    ∃v' w',(Builtin.append_ #[t,t] ty #[v,.slice (some a) m c]).run P w = .ok v' w'/\w'.ownsRow 0 e i.size v' (n+m) (xs++news)/\w.grownBy w' (zaH v)/\∀b,zaH v'=some b->zaH v=some b\/(w.heap.size<=b/\b<w'.heap.size):=by
  have hblk:v.ownBlock=zaH v:=by
    rcases hown.2 with ⟨rfl,_⟩|⟨g,cap,cur,rfl,_⟩<;>rfl
  obtain⟨v',w',hr,h2,h3,h4⟩:=run_append_own (P:=P) w 0 t ty e i z i.size i.bytes ht hi hz rfl rfl hzs hsz v n xs hown a m c news hl hnews h1 h63 hbytes (uf _);refine⟨v',w',hr,h2,hblk▸h3,fun b hb=>?_⟩;have hsmall:n+m<=9223372036854775807:=by simp only[maxLen] at h63;omega
  rcases hown.2 with ⟨rfl,rfl⟩|⟨g,cap,cur,rfl,hbg,hg,hnc,hcm,hcs,htake⟩
  . by_cases hm:m=0
    . have:=h4.2 ⟨rfl,hm⟩
      rw[this] at hb;cases hb
    have hr':=run_append_nil (P:=P) w t ty e i z ht hi hz a m c news hl hnews ya ya (by have hb:=hbytes;simp only[zero_add] at hb;omega);rw[hr'] at hr;injection hr with e1 e2;rw[<-e1] at hb;simp only[zaH,Option.some.injEq] at hb;rw[<-e2];exact .inr ⟨by omega,by simp;omega⟩
  by_cases hroom:n+m<=cap
  . have hfit:n*i.size+news.length<=cur.size:=by rw[hl,hcs,<-add_mul];exact mul_le_mul_right _ hroom
    have hr':=run_append_room (P:=P) w t ty e i ht hi g n cap cur hg a m c news hl hnews h1 hroom hfit;rw[hr'] at hr;injection hr with e1 e2;rw[<-e1] at hb;exact .inl hb
  have holds:∀j u,xs[j]?=some u->w.cell? ((⟨g,0,none⟩:Addr).add j)=some u:=hown.cells (g:=g) rfl;have hr':=run_append_grow (P:=P) w t ty e i z ht hi hz ⟨g,0,none⟩ n cap xs hown.1 holds a m c news hl hnews ya ya (growslice_fits ya hbytes);rw[hr'] at hr;injection hr with e1 e2;rw[<-e1] at hb;simp only[zaH,Option.some.injEq] at hb;rw[<-e2];exact .inr ⟨by omega,by simp;omega⟩
theorem zhN {P:Program} {t ty e:TypeId} {i:TypeInfo} (ht:P.underlying t=some (.slice e)) (hi:P.info? e=some i) {v:Value} {n c:Nat} {xs:List Value} (hown:w.ownsRow 0 e i.size v n xs) :
    (Builtin.append_ #[t,t] ty #[v,.slice none 0 c]).run P w = .ok v w:=by
  rcases hown.2 with ⟨rfl,rfl⟩|⟨g,cap,cur,rfl,hbg,hg,hnc,hcm,hcs,htake⟩
  . simp[Builtin.append_,run_underlying ht,sizeOf,typeInfo,hi,Builtin.lenOf,Builtin.firstCells]
  simp[Builtin.append_,run_underlying ht,sizeOf,typeInfo,hi,Builtin.lenOf,Builtin.firstCells,hnc,storeCells]
theorem SimR.move (h:SimR J nx ρ fr hp a w) {n e:Nat} {l l':List α} {p:Value} (hn:hp n = .row e T l) (hg:w.grownBy w' (zaH (ρ n))) (hdr:w.drawn<=w'.drawn) (hb:∀b,zaH p=some b->zaH (ρ n)=some b\/(w.heap.size<=b/\b<w'.heap.size))
    (hx:Keeps (Uu J ρ hp) (Nn ρ hp) w (Uu J (ren ρ nx p) ((hp.set n .none_).set nx (.row e T l'))) (Nn (ren ρ nx p) ((hp.set n .none_).set nx (.row e T l'))) w'->(HE.row e T l').rel (ren ρ nx p) J.B (Uu J (ren ρ nx p) ((hp.set n .none_).set nx (.row e T l'))) (Nn (ren ρ nx p) ((hp.set n .none_).set nx (.row e T l'))) w' p) :
    SimR J (nx+1) (ren ρ nx p) fr ((hp.set n .none_).set nx (.row e T l')) a w':=by
  have hnlt:n<nx:=lt_of_not_le fun hle=>by
    have:=h.hnx n hle
    rw[hn] at this;cases this
  have hlive:(hp n).live:=ycf;have hold:∀m,m≠nx->(((hp.set n .none_).set nx (.row e T l')) m).live->(hp m).live/\m≠n:=fun m hm hl=>by
    rw[zn,ur hm,zn] at hl;by_cases c:m=n
    . rw[ut c] at hl;exact hl.elim
    rw[ur c] at hl;exact⟨hl,c⟩
  have hren:∀m,m≠nx->ren ρ nx p m=ρ m:=fun m hm=>by unfold ren;rw[ur hm]
  have hrenx:ren ρ nx p nx=p:=by unfold ren;rw[ut rfl]
  have hN:∀b,b<w.heap.size->Nn (ren ρ nx p) ((hp.set n .none_).set nx (.row e T l')) b->Nn ρ hp b:=fun b hlt ⟨m,hl,hb'⟩=>by
    by_cases c:m=nx
    . rw[c,hrenx] at hb'
      rcases hb b hb' with h1|h1
      . exact⟨n,hlive,h1⟩
      omega
    rw[hren m c] at hb';exact⟨m,(hold m c hl).1,hb'⟩
  have kp:Keeps (Uu J ρ hp) (Nn ρ hp) w (Uu J (ren ρ nx p) ((hp.set n .none_).set nx (.row e T l'))) (Nn (ren ρ nx p) ((hp.set n .none_).set nx (.row e T l'))) w' :=
    ⟨h.sub,hg.size,fun b hlt hb'=>hg.block b hlt (fun e=>hb' ⟨n,hlive,e.symm⟩),fun b hlt hu=>hu.imp id (hN b hlt),hN⟩
  exact
  { kle:=by have:=h.kle;omega
    ble:=by have:=h.ble;omega
    named:=fun m hm=>by rw[hren m (by have:=h.kle;omega)];exact h.named m hm
    below:=⟨hg.os.trans h.below.os,hg.tape.trans h.below.tape,hg.output.trans h.below.output,Nat.le_trans h.below.size hg.size,fun b hlt hgr =>
      (hg.block b (lt_of_lt_of_le hlt h.below.size) (fun e=>((h.new n b hlive e.symm).1).elim (fun h1=>absurd hlt ya) hgr)).trans (h.below.block b hlt hgr),Nat.le_trans h.below.drawn hdr⟩
    hrel:=fun m=>by
      by_cases c:m=nx
      . rw[c,zn,ut rfl,hrenx];exact hx kp
      rw[zn,ur c,hren m c,zn];by_cases c':m=n
      . rw[ut c'];trivial
      rw[ur c'];exact HE.rel_ren (nx:=nx) (fun i hi=>hren i ya) (h.hun m) (HE.rel_mono kp (h.hun m) (fun hl g hg'=>hg.block g (h.new m g hl hg').2 (fun e=>c' (h.inj m n g hl hlive hg' e.symm))) (h.hrel m))
    hun:=fun m=>by
      rw[zn];by_cases c:m=nx
      . rw[ut c];trivial
      rw[ur c,zn];by_cases c':m=n
      . rw[ut c'];trivial
      rw[ur c'];exact HE.under_mono (le_succ nx) (h.hun m)
    hnx:=fun m hm=>by
      rw[zn,ur ya,zn,ur ya];exact h.hnx m ya
    new:=fun m b hl hb'=>by
      by_cases c:m=nx
      . rw[c,hrenx] at hb'
        rcases hb b hb' with h1|h1
        . have h2:=h.new n b hlive h1;exact⟨h2.1,lt_of_lt_of_le h2.2 hg.size⟩
        exact⟨.inl (Nat.le_trans h.below.size h1.1),h1.2⟩
      rw[hren m c] at hb'
      have:=h.new m b (hold m c hl).1 hb'
      exact⟨this.1,lt_of_lt_of_le this.2 hg.size⟩
    inj:=fun m1 m2 b l1 l2 e1 e2=>by
      by_cases c1:m1=nx<;>by_cases c2:m2=nx
      . rw[c1,c2]
      . rw[c1,hrenx] at e1
        rw[hren m2 c2] at e2;have h2:=hold m2 c2 l2;rcases hb b e1 with h1|h1
        . exact absurd (h.inj m2 n b h2.1 hlive e2 h1) h2.2
        have:=(h.new m2 b h2.1 e2).2;omega
      . rw[c2,hrenx] at e2
        rw[hren m1 c1] at e1;have h2:=hold m1 c1 l1;rcases hb b e2 with h1|h1
        . exact absurd (h.inj m1 n b h2.1 hlive e1 h1) h2.2
        have:=(h.new m1 b h2.1 e1).2;omega
      rw[hren m1 c1] at e1;rw[hren m2 c2] at e2;exact h.inj m1 m2 b (hold m1 c1 l1).1 (hold m2 c2 l2).1 e1 e2
    size:=h.size
    defers:=h.defers
    frel:=fun t=>AV.rel_ren (nx:=nx) (fun m hm=>hren m ya) (h.fnx t) (AV.rel_mono kp (h.fnx t) (h.frel t))
    fnx:=fun t=>AV.under_mono ya (h.fnx t)
    brel:=fun q hq t=>AV.rel_ren (nx:=nx) (fun m hm=>hren m ya) (AV.under_mono h.ble (J.bgb q hq t)) (AV.rel_mono kp (J.bgb q hq t) (h.brel q hq t)) }
theorem zc1 {x s:Operand} {t:TypeId} (ho:o.op = .call { callee:=.builtin .append,args:=#[s,x],argTypes:=#[t,t] }) {v':Value} (hr:(Builtin.append_ #[t,t] o.type #[a.eval s,a.eval x]).run J.P w = .ok v' w'):(execOp a.eval o).run J.P w = .ok (.value v') w':=by
  unfold execOp;simp only[ho,resolve,invoke,builtin,Sem.run_bind,Sem.run_pure,Result.andThen_ok,List.map_toArray,map_cons,map_nil,hr]
theorem zke {b:Bool} {U N:Nat->Prop} {m:List α} {v:Value} (h:(slT b T).val U N w m v):(∃c,m=[]/\v = .slice none 0 c)\/∃ad c ds,v = .slice (some ad) m.length c/\zai T U N w m ds/\∀j u,ds[j]?=some u->w.cell? (ad.add j)=some u:=by
  obtain⟨ad,cap,hv,h1,h2,h3⟩:=zhM h;by_cases hm:m=[]
  . subst hm
    cases ad with
    | none=>exact .inl ⟨cap,rfl,hv⟩
    | some ad=>exact .inr ⟨ad,cap,[],hv,rfl,fun j u hj=>by simp at hj⟩
  obtain⟨ad,ds,rfl,_,hr,hc⟩:=h3 hm;exact .inr ⟨ad,cap,ds,hv,hr,hc⟩
def Src (T:GoT α) (U N:Nat->Prop) (w:World) (m:List α) (v:Value):Prop:=(∃c,m=[]/\v = .slice none 0 c)\/∃ad c ds,v = .slice (some ad) m.length c/\zai T U N w m ds/\∀j u,ds[j]?=some u->w.cell? (ad.add j)=some u
theorem zoT {s x : Operand} {t e d n bytes : Nat} {l m : List α} (ho : o.op = .call { callee := .builtin .append, args := #[s, x], argTypes := #[t, t] }) (hd : o.dst = some d) (hg : o.guard = none) (hlt : Nat.blt d J.nt = true)
    (hs:fr.ev s = .own n) (hn:hp n = .row e T l) (hx:∀{nx ρ w v},SimH J nx ρ hp w->(fr.ev x).rel ρ J.B (Uu J ρ hp) (Nn ρ hp) w v->Src T (Uu J ρ hp) (Nn ρ hp) w m v) (ht:rowB J.P t e T.size bytes=true) (hlen:(l.length+m.length)*bytes<=140737488355328/\l.length+m.length<=9223372036854775807)
    (H:AW J (nx+1) (fr.set d (.own nx)) ((hp.set n .none_).set nx (.row e T (l++m))) (.ops ops rest::k)):AW J nx fr hp (.ops ops (o::rest)::k):=by
  intro a w ⟨ρ,h⟩;refine zU hg yq fun K hK=>?_
  have hsv:=zak h s;have hxv:=zak h x;rw[hs] at hsv;have hsv:a.eval s=ρ n:=hsv;have hrow:=h.hrel n;rw[hn] at hrow;obtain⟨xs,hown,hall⟩:=hrow;obtain⟨hu,i,z,hi,hz,hsz,hby,hzs⟩:=zdk ht;have hTpos:=T.pos;rw[<-hsz] at hown;unfold Oper.wp;rcases hx h.toSimH hxv with ⟨c,rfl,hxe⟩|⟨ad,c,ds,hxe,hds,hcell⟩
  . have hr:=zhN (P:=J.P) (ty:=o.type) (c:=c) hu hi hown
    rw[zc1 ho (by rw[hsv,hxe];exact hr),Oper.upon_value,hd];refine hK _ _ (H _ _ ⟨_,(h.move (p:=ρ n) (l':=l++[]) hn ⟨rfl,rfl,rfl,ug _,fun _ _ _=>rfl⟩ (ug _) (fun b hb=>.inl hb) fun kp=>⟨xs,by rw[show(l++([]:List α)).length=l.length by simp];rw[hsz] at hown;exact hown,by have:=hall.mono kp;simpa only[List.append_nil] using this⟩).put yK yU (lt_succ_self nx)⟩)
  have hlds:ds.length=m.length*i.size:=by rw[hds.len,hsz]
  obtain⟨v',w',hr,ho',hgr,hb⟩:=zmm (P:=J.P) (ty:=o.type) hu hi hz ya ya hown (c:=c) hlds hcell hds.one (by unfold maxLen;omega) (by rw[hby];exact hlen.1);rw[zc1 ho (by rw[hsv,hxe];exact hr),Oper.upon_value,hd];refine hK _ _ (H _ _ ⟨_,(h.move (p:=v') (l':=l++m) hn hgr (znF _ hr) hb fun kp=>⟨xs++ds,by rw[ue,<-hsz];exact ho',(hall.append hds).mono kp⟩).put yK yU (lt_succ_self nx)⟩)
theorem zp {s x : Operand} {t e d n bytes : Nat} {b : Bool} {l m : List α} (ho : o.op = .call { callee := .builtin .append, args := #[s, x], argTypes := #[t, t] }) (hd : o.dst = some d) (hg : o.guard = none) (hlt : Nat.blt d J.nt = true)
    (hs:fr.ev s = .own n) (hn:hp n = .row e T l) (hx:fr.ev x = .val (slT b T) m) (ht:rowB J.P t e T.size bytes=true) (hlen:(l.length+m.length)*bytes<=140737488355328/\l.length+m.length<=9223372036854775807)
    (H:AW J (nx+1) (fr.set d (.own nx)) ((hp.set n .none_).set nx (.row e T (l++m))) (.ops ops rest::k)):AW J nx fr hp (.ops ops (o::rest)::k) :=
  zoT ho hd hg hlt hs hn (fun _ h=>by rw[hx] at h;exact zke h) ht hlen H
theorem zu0 {s x : Operand} {t e d n n2 off len bytes ty : Nat} {hl : 0 < len} {l : List α} {γ : Type} {S : GoT γ} {get : γ -> List α} {set : γ -> List α -> γ} {y : γ} (ho : o.op = .call { callee := .builtin .append, args := #[s, x], argTypes := #[t, t] }) (hd : o.dst = some d) (hg : o.guard = none) (hlt : Nat.blt d J.nt = true)
    (hs:fr.ev s = .own n) (hn:hp n = .row e T l) (hx:fr.ev x = .vw n2 off len) (hn2:hp n2 = .box ty S y) (L:Lens S off (arrT len hl T) get set) (ht:rowB J.P t e T.size bytes=true) (hlen:(l.length+(get y).length)*bytes<=140737488355328/\l.length+(get y).length<=9223372036854775807)
    (H:AW J (nx+1) (fr.set d (.own nx)) ((hp.set n .none_).set nx (.row e T (l++get y))) (.ops ops rest::k)):AW J nx fr hp (.ops ops (o::rest)::k) :=
  zoT ho hd hg hlt hs hn (fun {nx ρ w v} s h=>by
    rw[hx] at h;obtain⟨g,cap,e1,rfl,h1,h2⟩:=h;obtain⟨g',e3,e4,cs,hr,hc⟩:=zoN s hn2 L (v:=.pointer (some ((⟨g,0,none⟩:Addr).add off))) ⟨g,e1,rfl⟩;obtain rfl:g=g':=yb8;exact .inr ⟨_,cap,cs,by rw[hr.1],hr.2,hc⟩) ht hlen H
theorem aw_factb {n ty:Nat} {x:α} (hn:hp n = .box ty T x) {F:Prop} (h:∀{U N w cs},T.rel U N w x cs->F) (H:F->AW J nx fr hp k):AW J nx fr hp k:=fun a w ⟨ρ,s⟩=>by
  have hh:=s.hrel n;rw[hn] at hh;obtain⟨g,cs,_,_,hr⟩:=hh;exact H (h hr) a w ⟨ρ,s⟩
theorem zdX {s x : Operand} {t e d bytes : Nat} {b : Bool} {m : List α} (ho : o.op = .call { callee := .builtin .append, args := #[s, x], argTypes := #[t, t] }) (hd : o.dst = some d) (hg : o.guard = none) (hlt : Nat.blt d J.nt = true)
    (hs:fr.ev s = .lit (.slice none 0 0)) (hx:fr.ev x = .val (slT b T) m) (ht:rowB J.P t e T.size bytes=true) (hlen:m.length*bytes<=140737488355328/\m.length<=9223372036854775807)
    (H:AW J (nx+1) (fr.set d (.own nx)) (hp.set nx (.row e T m)) (.ops ops rest::k)):AW J nx fr hp (.ops ops (o::rest)::k):=by
  intro a w ⟨ρ,h⟩;refine zU hg yq fun K hK=>?_
  have hsv:=zak h s;have hxv:=zak h x;rw[hs] at hsv;rw[hx] at hxv;have hsv:a.eval s = .slice none 0 0:=hsv;obtain⟨hu,i,z,hi,hz,hsz,hby,hzs⟩:=zdk ht;have hTpos:=T.pos;have hown:=World.ownsRow_nil w 0 e i.size;unfold Oper.wp;rcases zke hxv with ⟨c,rfl,hxe⟩|⟨ad,c,ds,hxe,hds,hcell⟩
  . have hr:=zhN (P:=J.P) (ty:=o.type) (c:=c) hu hi hown
    rw[zc1 ho (by rw[hsv,hxe];exact hr),Oper.upon_value,hd];refine hK _ _ (H _ _ ⟨_,(h.bind (p:=.slice none 0 0) (x:=.row e T []) (Below.refl _ _) (fun b hb=>by cases hb) fun kp=>⟨[],by rw[<-hsz];exact hown,rfl⟩).put yK yU (lt_succ_self nx)⟩)
  have hlds:ds.length=m.length*i.size:=by rw[hds.len,hsz]
  obtain⟨v',w',hr,ho',hgr,hb⟩:=zmm (P:=J.P) (ty:=o.type) hu hi hz ya ya hown (c:=c) hlds hcell hds.one (by unfold maxLen;omega) (by rw[hby,zero_add];exact hlen.1);rw[zc1 ho (by rw[hsv,hxe];exact hr),Oper.upon_value,hd];have hbl:Below w.heap.size w w':=⟨⟨hgr.os,hgr.tape,hgr.output,hgr.size,fun b hlt=>hgr.block b hlt (by simp[zaH])⟩,znF _ hr⟩;refine hK _ _ (H _ _ ⟨_,(h.bind (p:=v') (x:=.row e T m) hbl (fun b hb'=>(hb b hb').elim (fun h=>by cases h) id) fun kp=>⟨ds,by rw[<-hsz];simpa using ho',hds.mono kp⟩).put yK yU (lt_succ_self nx)⟩)
theorem zbS {t:TypeId} {x:Operand} {n e:Nat} {l:List α} (ho:o.op = .call { callee:=.builtin .len,args:=#[x],argTypes:=#[t] }) (hx:fr.ev x = .own n) (hn:hp n = .row e T l) (hs:(match J.P.underlying t with|some (.slice _)=>true|_=>false)=true):OpG J o fr hp (.val i64T l.length):=by
  refine .of_run (fun {_ ρ a w} s hr _=>?_) (fun _ _=>trivial);have h:=hr x yy;rw[hx] at h;have h:a.eval x=ρ n:=h;have hrow:=s.hrel n;rw[hn] at hrow;obtain⟨xs,hown,_⟩:=hrow;have hform:∃ad cap,ρ n = .slice ad l.length cap/\l.length<=cap/\cap<=maxLen:=by
    rcases hown.2 with ⟨e,h0⟩|⟨g,cap,cur,hv,_,_,h1,h2,_⟩
    . exact⟨none,0,by rw[e,h0],by omega,by unfold maxLen;omega⟩
    exact⟨_,cap,hv,h1,h2⟩
  obtain⟨ad,cap,e1,h1,h2⟩:=hform;refine⟨_,?_,zO.2 ⟨rfl,?_⟩⟩
  . cases hu:J.P.underlying t with
    | none=>simp[hu] at hs
    | some d =>
      cases d<;>simp[hu] at hs;unfold execOp;rw[ho];simp[resolve,invoke,builtin,Builtin.len_,h,e1,Sem.run_bind,run_underlying hu,goInt]
  rw[zdo];unfold maxLen at h2;omega
theorem zhV {d n e:Nat} {l:List α} (hd:fr d = .own n) (hn:hp n = .row e T l) (H:AW J nx (fr.set d (.val (sl T) l)) (hp.set n .none_) k):AW J nx fr hp k:=by
  intro a w ⟨ρ,s⟩;have h0:=s.frel d;rw[hd] at h0;have h0:a.tmps.getD d undef=ρ n:=h0;have hrow:=s.hrel n;rw[hn] at hrow;obtain⟨xs,hown,hall⟩:=hrow;have s':=s.drop n;have hlive:(hp n).live:=ycf;have hN:∀b,Nn ρ (hp.set n .none_) b->Nn ρ hp b/\zaH (ρ n)≠some b:=fun b ⟨m,hl,e⟩=>by
    rw[zn] at hl;by_cases c:m=n
    . rw[ut c] at hl;exact hl.elim
    rw[ur c] at hl;exact⟨⟨m,hl,e⟩,fun e'=>c (s.inj m n b hl hlive e e')⟩
  have kp:Keeps (Uu J ρ hp) (Nn ρ hp) w (Uu J ρ (hp.set n .none_)) (Nn ρ (hp.set n .none_)) w:=⟨s.sub,ug _,fun _ _ _=>rfl,fun b _ hu=>hu.imp id (fun h=>(hN b h).1),fun b _ h=>(hN b h).1⟩
  have hval:(sl T).val (Uu J ρ (hp.set n .none_)) (Nn ρ (hp.set n .none_)) w l (ρ n) :=
    zfL (b:=false) hown rfl (hall.mono kp) (fun g hg hu=>by
      rcases hu with hu|hu
      . rcases (s.new n g hlive hg).1 with h1|h1
        . have:=J.lt g hu;omega
        exact J.dj g hu h1
      exact(hN g hu).2 hg)
  refine H a w ⟨ρ,{ s'.toSimH with size:=s'.size,defers:=s'.defers,frel:=fun t=>?_,fnx:=fun t=>?_,brel:=s'.brel }⟩
  . rw[zan]
    by_cases c:t=d
    . rw[ut c,c,h0];exact hval
    rw[ur c];exact s'.frel t
  rw[zan];by_cases c:t=d
  . rw[ut c];trivial
  rw[ur c];exact s'.fnx t
theorem zma {T S:GoT α} [c:SubC T S] {x:α} (h:OpG J o fr hp (.val T x)):OpG J o fr hp (.val S x) where
  run s hr hn _ _ hK:=h.run s hr hn fun v w' hb hx=>hK v w' hb (c.out (fun _ h=>.inr h) hx)
  und _ _:=trivial
  nd:=h.nd
theorem zfi {T S:GoT α} [c:SubC T S] {d:Nat} {x:α} (hd:fr d = .val T x) (H:AW J nx (fr.set d (.val S x)) hp k):AW J nx fr hp k:=by
  intro a w ⟨ρ,s⟩;have h0:=s.frel d;rw[hd] at h0;refine H a w ⟨ρ,{ s.toSimH with size:=s.size,defers:=s.defers,frel:=fun t=>?_,fnx:=fun t=>?_,brel:=s.brel }⟩
  . rw[zan]
    by_cases e:t=d
    . rw[ut e,e];exact c.out (fun b h=>.inr h) h0
    rw[ur e];exact s.frel t
  rw[zan];by_cases e:t=d
  . rw[ut e];trivial
  rw[ur e];exact s.fnx t
theorem zel {Z:Type} {S:GoT Z} {d n off ty:Nat} {x:α} {get:α->Z} {set:α->Z->α} (hd:fr d = .ptr n off) (hn:hp n = .box ty T x) (L:Lens T off S get set) (H:AW J nx (fr.set d (.rptr S (get x))) (hp.set n .none_) k):AW J nx fr hp k:=by
  intro a w ⟨ρ,s⟩;have h0:=s.frel d;rw[hd] at h0;obtain⟨g,hg,hv,hat⟩:=zoN s.toSimH hn L h0;have s':=s.drop n;have hlive:(hp n).live:=ycf;have hblk:zaH (ρ n)=some g:=by rw[hg];rfl
  have hN:∀b,Nn ρ (hp.set n .none_) b->Nn ρ hp b/\zaH (ρ n)≠some b:=fun b ⟨m,hl,e⟩=>by
    rw[zn] at hl;by_cases c:m=n
    . rw[ut c] at hl;exact hl.elim
    rw[ur c] at hl;exact⟨⟨m,hl,e⟩,fun e'=>c (s.inj m n b hl hlive e e')⟩
  have kp:Keeps (Uu J ρ hp) (Nn ρ hp) w (Uu J ρ (hp.set n .none_)) (Nn ρ (hp.set n .none_)) w:=⟨s.sub,ug _,fun _ _ _=>rfl,fun b _ hu=>hu.imp id (fun h=>(hN b h).1),fun b _ h=>(hN b h).1⟩;obtain⟨cs,hr,hc⟩:=hat
  have hnb:¬Nn ρ (hp.set n .none_) g:=fun hu=>(hN g hu).2 hblk
  have hval:(AV.rptr S (get x)).rel ρ J.B (Uu J ρ (hp.set n .none_)) (Nn ρ (hp.set n .none_)) w (a.tmps.getD d undef) :=
    ⟨_,hv,by rw[zbM];exact hnb,cs,S.mono kp hr,hc⟩
  refine H a w ⟨ρ,{ s'.toSimH with size:=s'.size,defers:=s'.defers,frel:=fun t=>?_,fnx:=fun t=>?_,brel:=s'.brel }⟩
  . rw[zan]
    by_cases c:t=d
    . rw[ut c,c];exact hval
    rw[ur c];exact s'.frel t
  rw[zan];by_cases c:t=d
  . rw[ut c];trivial
  rw[ur c];exact s'.fnx t
theorem zao {f : FuncId} {xs : Array Operand} {ts : Array TypeId} {As : List AV} {d e : Nat} {l : List α} (hc : Tells J.P f As (.fresh e T l)) (ho : o.op = .call { callee := .value (.func f), args := xs, argTypes := ts }) (hf : fnB J.P f = true) (ha : zhY J fr hp xs.toList As)
    (hd:o.dst=some d) (hg:o.guard=none) (hlt:Nat.blt d J.nt=true) (H:AW J (nx+1) (fr.set d (.own nx)) (hp.set nx (.row e T l)) (.ops ops rest::k)):AW J nx fr hp (.ops ops (o::rest)::k):=by
  intro a w ⟨ρ,s⟩;refine zU hg yq fun K hK=>?_
  obtain⟨fn,h1,h2,h3⟩:=zbG hf;unfold Oper.wp;rw[zfv ho h1 h2 h3,Oper.upon_enter];have hargs:=zgs (s:=s.toSimH) (a:=a) (fun y hy=>zak s y) ha;have eq:(xs.toList.map a.eval).toArray=xs.map a.eval:=yca
  have:=hc (Uu J ρ hp) w _ (fun b hb=>s.uu_lt hb) hargs
  rw[eq] at this;refine Calls.mono this fun en w' he=>?_
  cases en with
  | returned v =>
    obtain⟨hb,cs,hown,hfr,hr⟩:=he;rw[hd];refine hK _ _ (H _ _ ⟨_,(s.bind (p:=v) (x:=.row e T l) hb hfr fun kp=>⟨cs,hown,?_⟩).put yK yU (lt_succ_self nx)⟩)
    . have hNn : ∀ b, Nn (ren ρ nx v) (hp.set nx (.row e T l)) b -> Nn ρ hp b \/ zaH v = some b := fun b ⟨m, hl, e⟩ => by
        rw[zn] at hl;unfold ren at e;by_cases c:m=nx
        . rw[ut c] at e;exact .inr e
        rw[ur c] at hl e;exact .inl ⟨m,hl,e⟩
      exact hr.mono ⟨fun _ h=>h,ug _,fun _ _ _=>rfl,fun b _ hu=>hu.elim (fun h=>.inl (.inl h)) (fun h=>(hNn b h).imp .inr id),fun b _ h=>(hNn b h).imp .inr id⟩
  | panicked c=>exact he.elim
  | outgrown=>exact he.elim
theorem zbg {t e n d bytes:Nat} {ps:List (Nat×Operand)} {xs:List α} (ho:o.op = .buildSlice t n ps.toArray) (hd:o.dst=some d) (hg:o.guard=none) (hlt:Nat.blt d J.nt=true) (hs:sliceB J.P t e T.size=true) (hrow:rowB J.P t e T.size bytes=true) (hv:zw3 fr T 0 ps xs) (hn:n=xs.length) (hb:Nat.ble (n*T.size) 16777216=true)
    (H:AW J (nx+1) (fr.set d (.own nx)) (hp.set nx (.row e T xs)) (.ops ops rest::k)):AW J nx fr hp (.ops ops (o::rest)::k):=by
  intro a w ⟨ρ,s⟩;refine zU hg yq fun K hK=>?_
  have hz:∃z,(J.P.info? e).bind (·.zero)=some z/\z.cells.size=T.size:=by
    obtain⟨_,i,z,hi,hz,_,_,h⟩:=zdk hrow;exact⟨z,by rw[hi];exact hz,h⟩
  obtain⟨cs,h1,h2⟩:=zpA (w:=w) (a:=a) (U:=Uu J ρ hp) (N:=Nn ρ hp) ho hs hz hv hn (by simpa using hb) (fun p hp' x hx=>by
    have:=zak s p.2
    rw[hx] at this;exact this)
  have hlen:xs.length<=maxLen:=by
    have h3:n*T.size<=16777216:=by simpa using hb
    have h4:=T.pos
    have:n*1<=n*T.size:=Nat.mul_le_mul_left _ h4
    unfold maxLen;omega
  subst hn;unfold Oper.wp;rw[h1,Oper.upon_value,hd];refine hK _ _ (H _ _ ⟨_,(s.bind (p:=.slice (some ⟨w.heap.size,0,none⟩) xs.length xs.length) (x:=.row e T xs) (zbl _ _) (fun b hb=>by simp only[zaH,Option.some.injEq] at hb;subst hb;exact⟨ug _,by simp⟩) fun kp=>⟨cs,⟨h2.len,.inr ⟨w.heap.size,xs.length,cs.toArray,rfl,uf _,heap_alloc_new w _,ug _,hlen,by simp[h2.len],by rw[uc (by simp[h2.len])]⟩⟩,h2.mono kp⟩).put yK yU (lt_succ_self nx)⟩)
theorem zfB {t t' d:Nat} {x:Operand} {b:Bool} {l:List α} (ho:o.op = .binOp .eql t x (.const (.slice none 0 0)) t') (hd:o.dst=some d) (hg:o.guard=none) (hlt:Nat.blt d J.nt=true) (hx:fr.ev x = .val (slT b T) l) (hs:(match J.P.underlying t with|some (.slice _)=>true|_=>false)=true)
    (H:∀c:Bool,(c=true->l=[])->AW J nx (fr.set d (.val zo c)) hp (.ops ops rest::k)):AW J nx fr hp (.ops ops (o::rest)::k):=by
  intro a w ⟨ρ,s⟩;refine zU hg yq fun K hK=>?_
  have h:=zak s x;rw[hx] at h;obtain⟨ad,cap,hv,h1,h2,h3⟩:=zhM h;have hrun:(execOp a.eval o).run J.P w = .ok (.value (.bool ad.isNone)) w:=by
    cases hu:J.P.underlying t with
    | none=>simp[hu] at hs
    | some dsc =>
      cases dsc<;>simp[hu] at hs;unfold execOp;rw[ho];have h4:=Lib.run_eql_slice_nil (P:=J.P) w t _ ad l.length cap 0 0 hu;have hc:a.eval (Operand.const (Value.slice none 0 0)) = .slice none 0 0:=rfl;simp only[hv,hc,Sem.run_bind,eqGuard,Bool.not_eq_true',Sem.run_pure,Result.andThen_ok,h4];simp[Sem.run_pure,h4]
  unfold Oper.wp;rw[hrun,Oper.upon_value,hd];refine hK _ _ (H ad.isNone (fun e=>?_) _ _ ⟨ρ,s.put yK (x:=.val zo ad.isNone) (zbo.2 rfl) trivial⟩);cases ad with
  | none =>
    by_cases c:l=[]
    . exact c
    obtain⟨_,_,e',_⟩:=h3 c;cases e'
  | some ad=>cases e
end
end Go.Ab
namespace Go.Ab
open Go.RowKit
def GoT.pack {α:Type} (T:GoT α) (cs:List Value):Value:=if T.agg then .agg cs.toArray else cs.headD undef
section
variable {P:Program} {α Z γ:Type} {T:GoT α} {S:GoT Z} {get:α->Z} {set:α->Z->α}
theorem zm0 {T:GoT α} {U N w x v} (h:T.val U N w x v):∃cs,T.rel U N w x cs/\v=T.pack cs:=by
  obtain⟨cs,hr,h|h⟩:=h
  . exact⟨cs,hr,by simp[GoT.pack,h.1,h.2]⟩
  exact⟨cs,hr,by simp[GoT.pack,h.1,h.2]⟩
def EqOk (P:Program) (t:TypeId) (T:GoT α) [DecidableEq α] (d:Nat):Prop :=
  ∀{U N U' N':Nat->Prop} {w1 w2:World} {x y:α} {cs ds:List Value} (w:World),T.rel U N w1 x cs->T.rel U' N' w2 y ds->(Op.equalIn d t (T.pack cs) (T.pack ds)).run P w = .ok (decide (x=y)) w
theorem eq_int {t:TypeId} {k:IntKind} (h:P.underlying t=some (.int k)) (d:Nat):EqOk P t (intT k) (d+1):=by
  intro U N U' N' w1 w2 x y cs ds w h1 h2;obtain⟨rfl,_⟩:=h1;obtain⟨rfl,_⟩:=h2;show(Op.equalIn (d+1) t (.int k x) (.int k y)).run P w=_;rw[run_equalIn_int w d t k k x y h];congr 1
theorem eq_u8 {t:TypeId} (h:P.underlying t=some (.int .u8)) (d:Nat):EqOk P t u8T (d+1):=by
  intro U N U' N' w1 w2 x y cs ds w h1 h2;obtain⟨rfl,_⟩:=h1;obtain⟨rfl,_⟩:=h2;show(Op.equalIn (d+1) t (.int .u8 x.toNat) (.int .u8 y.toNat)).run P w=_;rw[run_equalIn_int w d t _ _ _ _ h];congr 1;rw[Bool.eq_iff_iff,beq_iff_eq,uj,<-UInt8.toNat_inj];omega
theorem eq_u32 {t:TypeId} (h:P.underlying t=some (.int .u32)) (d:Nat):EqOk P t u32T (d+1):=by
  intro U N U' N' w1 w2 x y cs ds w h1 h2;obtain⟨rfl,_⟩:=h1;obtain⟨rfl,_⟩:=h2;show(Op.equalIn (d+1) t (.int .u32 x.toNat) (.int .u32 y.toNat)).run P w=_;rw[run_equalIn_int w d t _ _ _ _ h];congr 1;rw[Bool.eq_iff_iff,beq_iff_eq,uj,<-UInt32.toNat_inj];omega
theorem eq_u64 {t:TypeId} (h:P.underlying t=some (.int .u64)) (d:Nat):EqOk P t u64T (d+1):=by
  intro U N U' N' w1 w2 x y cs ds w h1 h2;obtain⟨rfl,_⟩:=h1;obtain⟨rfl,_⟩:=h2;show(Op.equalIn (d+1) t (.int .u64 x.toNat) (.int .u64 y.toNat)).run P w=_;rw[run_equalIn_int w d t _ _ _ _ h];congr 1;rw[Bool.eq_iff_iff,beq_iff_eq,uj,<-UInt64.toNat_inj];omega
theorem ziP {t off n:Nat} {b:Bool} {cs:List Value} {w:World} (ht:tyB P t n b=true) (hs:b=false->n=1) (hn:0<n) (hl:off+n<=cs.length):(part t cs.toArray off).run P w = .ok (if b then .agg ((cs.drop off).take n).toArray else ((cs.drop off).take n).headD undef) w:=by
  obtain⟨_,h1,h2⟩:=zfs ht w;cases b with
  | true =>
    simp only[part,Sem.run_bind,h1,Result.andThen_ok,if_true,h2,Sem.run_pure];congr 2;apply Array.ext';simp[List.take_drop,Nat.add_comm]
  | false =>
    have:=hs rfl
    subst this;have hlt:off<cs.length:=ya;simp only[part,Sem.run_bind,h1,Result.andThen_ok,false_eq_true,if_false];have e1:cs.toArray[off]?=some cs[off]:=by simp[hlt]
    have e2:((cs.drop off).take 1).headD undef=cs[off]:=by rw[List.drop_eq_getElem_cons hlt];rfl
    rw[e1,e2];rfl
inductive EqFrom (P:Program) (s:TypeId) (T:GoT α) (d n:Nat):Nat->(α->α->Bool)->Prop
  | nil:EqFrom P s T d n n (fun _ _=>true)
  | cons {Z : Type} [DecidableEq Z] {S : GoT Z} {get : α -> Z} {set : α -> Z -> α} {i off ft : Nat} {g : α -> α -> Bool} (hf : fieldB P s i off ft = true) (L : Lens T off S get set) (ht : tyB P ft S.size S.agg = true) (he : EqOk P ft S d) (H : EqFrom P s T d n (i + 1) g) :
      EqFrom P s T d n i (fun x y=>decide (get x=get y)&&g x y)
@[irreducible] def eqB (P : Program) (t n : Nat) : Bool := (match P.underlying t with | some (.struct fs) => fs.size == n && fs.all (·.name != "_") | _ => false) && !P.stoodInHeld t
@[irreducible] def eqgB (P:Program) (t:Nat):Bool:=!P.eqGuardType P.depth t
theorem eq_fields {s : TypeId} {d n : Nat} {fs : Array Field} (hu : P.underlying s = some (.struct fs)) (hn : fs.size = n) (hall : ∀ f ∈ fs, f.name ≠ "_") {U N U' N' : Nat → Prop} {w1 w2 : World} {x y : α} {cs ds : List Value} (h1 : T.rel U N w1 x cs) (h2 : T.rel U' N' w2 y ds) (w : World) :
    ∀{i:Nat} {g:α->α->Bool},EqFrom P s T d n i g->(Op.eqFields d cs.toArray ds.toArray (fs.toList.drop i)).run P w = .ok (g x y) w:=by
  intro i g h
  induction h with
  | nil=>rw[drop_of_length_le (by simp[hn])];rfl
  | @cons Z inst S get set i off ft g hf L ht he H ih =>
    obtain⟨fs',fd,e1,e2,e3,e4⟩:=zhv hf;obtain rfl:fs=fs':=by rw[hu] at e1;injection e1 with e1;injection e1
    have hlt:i<fs.toList.length:=by simpa using (Array.getElem?_eq_some_iff.1 e2).1
    have hfd:fs.toList[i]=fd:=by
      have:=(Array.getElem?_eq_some_iff.1 e2).2
      simpa using this
    rw[List.drop_eq_getElem_cons hlt,hfd];have hne:=hall fd (Array.mem_of_getElem? e2);subst e3;subst e4;have p1:=ziP (w:=w) (off:=fd.offset) (cs:=cs) ht S.sc S.pos (by have:=L.fit;have:=T.len h1;omega);have p2:=ziP (w:=w) (off:=fd.offset) (cs:=ds) ht S.sc S.pos (by have:=L.fit;have:=T.len h2;omega);have p3:=he w (L.get_ h1) (L.get_ h2);unfold GoT.pack at p3;simp only[Op.eqFields,ut hne,Sem.run_bind,p1,p2,Result.andThen_ok,p3];cases decide (get x=get y)
    . simp
    simp[ih]
theorem zox [DecidableEq α] {t d n:Nat} {g:α->α->Bool} (hb:eqB P t n=true) (hagg:T.agg=true) (h:EqFrom P t T d n 0 g) (hg:∀x y,g x y=decide (x=y)):EqOk P t T (d+1):=by
  intro U N U' N' w1 w2 x y cs ds w h1 h2;unfold eqB at hb;cases hu:P.underlying t with
  | none=>simp[hu] at hb
  | some dsc =>
    cases dsc<;>simp[hu] at hb;rename_i fs;have hf:P.fieldsOf t=fs:=by simp[Program.fieldsOf,hu]
    simp only[GoT.pack,hagg,if_true];rw[run_equalIn_struct w d t _ _ (by rw[hf];exact hu) hb.2,hf]
    have:=eq_fields hu hb.1.1 (fun f hf=>by
      obtain⟨i,hi,e⟩:=Array.mem_iff_getElem.1 hf
      have:=hb.1.2 i hi
      rw[e] at this;simpa using this) h1 h2 w h
    rw[List.drop_zero] at this;rw[this,hg]
def zjX (P:Program) (d e sz:Nat) (xs ys:Array Value):List Nat->Sem Bool
  | []=>pure true
  | i::is=>do
    let a <-part e xs (i*sz)
    let b <-part e ys (i*sz)
    let r <-Op.equalIn d e a b
    if (!r)=true then pure false else zjX P d e sz xs ys is
theorem zlx {t n e sz d:Nat} (h:arrB P t n e sz=true) (xs ys:Array Value) (w:World):(Op.equalIn (d+1) t (.agg xs) (.agg ys)).run P w=(zjX P d e sz xs ys (List.range n)).run P w:=by
  obtain⟨hu,hsz⟩:=zds h w;simp only[Op.equalIn,Sem.run_bind,run_underlying hu,Result.andThen_ok,hsz];rw[Std.Legacy.Range.forIn_eq_forIn_range'];simp only[Std.Legacy.Range.size,sub_zero,Nat.add_sub_cancel,Nat.div_one,<-List.range_eq_range'];generalize List.range n=l;clear hsz
  induction l generalizing w with
  | nil=>simp[zjX]
  | cons i l ih =>
    simp only[List.forIn_cons,zjX,Sem.run_bind];generalize (part e xs (i*sz)).run P w=r1;cases r1 with
    | ok a w1 =>
      simp only[Result.andThen_ok];generalize (part e ys (i*sz)).run P w1=r2;cases r2 with
      | ok b w2 =>
        simp only[Result.andThen_ok];generalize (Op.equalIn d e a b).run P w2=r3;cases r3 with
        | ok r w3 =>
          cases r
          . simp only[Result.andThen_ok,Bool.not_false,if_true,Sem.run_pure]
          simp only[Result.andThen_ok,Bool.not_true,false_eq_true,if_false,Sem.run_pure];exact ih w3
        | halt x w3=>simp[Result.andThen]
      | halt x w2=>simp[Result.andThen]
    | halt x w1=>simp[Result.andThen]
theorem eq_elems [DecidableEq α] {e d n:Nat} (ht:tyB P e T.size T.agg=true) (he:EqOk P e T d) {U N U' N':Nat->Prop} {w1 w2:World} {l m:List α} {cs ds:List Value} (hl:l.length=n) (hm:m.length=n) (h1:zai T U N w1 l cs) (h2:zai T U' N' w2 m ds) (w:World) :
    ∀(k i:Nat),i+k=n->(zjX P d e T.size cs.toArray ds.toArray (List.range' i k)).run P w = .ok (decide (l.drop i=m.drop i)) w:=by
  intro k
  induction k with
  | zero =>
    intro i hi;rw[drop_of_length_le ya,drop_of_length_le ya];simp[zjX]
  | succ k ih =>
    intro i hi;have hli:i<l.length:=ya;have hmi:i<m.length:=ya;have c1:=h1.get (ub hli);have c2:=h2.get (ub hmi);have hle:i*T.size+T.size<=n*T.size:=by
      have:(i+1)*T.size<=n*T.size:=mul_le_mul_right _ ya
      rw[add_mul] at this;omega
    have p1:=ziP (w:=w) ht T.sc T.pos (off:=i*T.size) (cs:=cs) (by rw[h1.len,hl];exact hle);have p2:=ziP (w:=w) ht T.sc T.pos (off:=i*T.size) (cs:=ds) (by rw[h2.len,hm];exact hle);have p3:=he w c1 c2;unfold GoT.pack at p3;rw[List.range'_succ];simp only[zjX,Sem.run_bind,p1,p2,Result.andThen_ok,p3];have ih':=ih (i+1) ya;rw[List.drop_eq_getElem_cons hli,List.drop_eq_getElem_cons hmi];by_cases c:l[i]=m[i]
    . simp only[c,decide_true,Bool.not_true,false_eq_true,if_false,ih',List.cons.injEq,true_and]
    rw[uh c];simp only[Bool.not_false,if_true,Sem.run_pure];rw[uh];intro e;injection e with e;exact c e
theorem eq_arr [DecidableEq α] {t e d n:Nat} {hn:0<n} (ha:arrB P t n e T.size=true) (ht:tyB P e T.size T.agg=true) (he:EqOk P e T d):EqOk P t (arrT n hn T) (d+1):=by
  intro U N U' N' w1 w2 x y cs ds w h1 h2;show(Op.equalIn (d+1) t (.agg cs.toArray) (.agg ds.toArray)).run P w=_;rw[zlx ha]
  have:=eq_elems ht he h1.1 h2.1 h1.2 h2.2 w n 0 ya
  rw[List.range_eq_range',this];simp
end
section
variable {J:Job} {nx:Nat} {fr:Fr} {hp:Hp} {o:Oper} {α:Type} {T:GoT α} [DecidableEq α]
structure EqTy (P:Program) (t:TypeId) (T:GoT α):Prop where
  eq:EqOk P t T 10000
  agg:T.agg=true
  guard:eqgB P t=true
theorem zgZ {t t':TypeId} {x y:Operand} {a b:α} (ho:o.op = .binOp .eql t x y t') (hx:fr.ev x = .val T a) (hy:fr.ev y = .val T b) (he:EqTy J.P t T):OpG J o fr hp (.val zo (decide (a=b))) :=
  zd2 ho hx hy (fun {ρ U N w u v} hu hv=>by
    obtain⟨cs,h1,rfl⟩:=zm0 hu;obtain⟨ds,h2,rfl⟩:=zm0 hv;have h3:=he.eq w h1 h2;have hg:J.P.eqGuardType J.P.depth t=false:=by have:=he.guard;unfold eqgB at this;simpa using this
    simp only[GoT.pack,he.agg,if_true] at h3 ⊢;refine⟨.bool (decide (a=b)),?_,run_eqGuard_agg w _ t x y _ _ hg,zbo.2 rfl⟩;rw[run_eql_struct,h3];rfl) (fun _=>trivial)
theorem zgY {t t':TypeId} {x y:Operand} {a b:α} (ho:o.op = .binOp .neq t x y t') (hx:fr.ev x = .val T a) (hy:fr.ev y = .val T b) (he:EqTy J.P t T):OpG J o fr hp (.val zo (!decide (a=b))) :=
  zd2 ho hx hy (fun {ρ U N w u v} hu hv=>by
    obtain⟨cs,h1,rfl⟩:=zm0 hu;obtain⟨ds,h2,rfl⟩:=zm0 hv;have h3:=he.eq w h1 h2;have hg:J.P.eqGuardType J.P.depth t=false:=by have:=he.guard;unfold eqgB at this;simpa using this
    simp only[GoT.pack,he.agg,if_true] at h3 ⊢;refine⟨.bool (!decide (a=b)),?_,run_eqGuard_agg w _ t x y _ _ hg,zbo.2 rfl⟩;rw[run_neq_struct,h3];rfl) (fun _=>trivial)
theorem g_eqlB {t t':TypeId} {x y:Operand} {a b:Bool} (ho:o.op = .binOp .eql t x y t') (hx:fr.ev x = .val zo a) (hy:fr.ev y = .val zo b) (hu:J.P.underlying t=some .bool):OpG J o fr hp (.val zo (a==b)) :=
  zd2 ho hx hy (fun {ρ U N w u v} hu1 hv=>by
    rw[zbo.1 hu1,zbo.1 hv];refine⟨.bool (a==b),?_,zo6 ..,zbo.2 rfl⟩
    have:=run_equalIn_bool' w 9999 t a b hu
    simp only[binOp];simp[Op.equal,Op.maxDepth,this]) (fun _=>trivial)
end
end Go.Ab
namespace Go.Ab
open Go.RowKit
def ExtAt (P:Program) (f:FuncId) (e:Array Value->Sem Value):Prop :=
  ∃ fn, P.funcs[f]? = some fn ∧ (fn.name == "runtime.NumGoroutine") = false ∧ fn.body.isNone = true ∧ Extern.findNext fn = none ∧ Extern.find fn = some e
section
variable {J:Job} {nx:Nat} {ρ:Nat->Value} {fr:Fr} {hp:Hp} {a:Act} {w w':World} {k:List It} {ops:Array Oper} {rest:List Oper} {o:Oper}
theorem znQ {U N:Nat->Prop}:∀{l:List UInt8} {cs},zai u8T U N w l cs->cs=l.map fun b=>Value.int .u8 b.toNat
  | [],_,h=>h
  | x::l,_,⟨c1,c2,e,h1,h2⟩=>by rw[e,znQ h2,h1.1];rfl
theorem zpy {P:Program}:∀(l:List UInt8) (a:Addr) (acc:ByteArray),(∀j x,l[j]?=some x->w.cell? (a.add j)=some (.int .u8 x.toNat))->
    (Extern.Bytes.loadBytes a l.length acc).run P w = .ok ⟨acc.data++l.toArray⟩ w
  | [],a,acc,_=>by simp[Extern.Bytes.loadBytes]
  | x::l,a,acc,h=>by
    have h0:w.cell? a=some (.int .u8 x.toNat):=h 0 x rfl;have ih:=zpy (P:=P) l (a.add 1) (acc.push x) (fun j y hy=>by rw[zbO,Nat.add_comm];exact h (j+1) y (by simpa using hy));simp only[length_cons,Extern.Bytes.loadBytes,Sem.run_bind,run_load,h0,Result.andThen];have e:((x.toNat:Int).toNat).toUInt8=x:=yw;rw[e,ih];congr 1;apply ByteArray.ext;simp[ByteArray.push]
theorem znG {P:Program} {b:Bool} {U N:Nat->Prop} {l:List UInt8} {v:Value} (h:(slT b u8T).val U N w l v):(Extern.Bytes.bytesOf v).run P w = .ok ⟨l.toArray⟩ w:=by
  obtain⟨ad,cap,rfl,h1,h2,h3⟩:=zhM h;cases l with
  | nil =>
    cases ad with
    | none=>rfl
    | some ad=>rfl
  | cons x l =>
    obtain⟨ad',ds,rfl,_,hr,hc⟩:=h3 yw
    have:=zpy (P:=P) (w:=w) (x::l) ad' .empty (fun j y hj=>hc j _ (by rw[znQ hr,List.getElem?_map,hj];rfl))
    simp only[Extern.Bytes.bytesOf];rw[this];congr 1;apply ByteArray.ext;simp
theorem g_bcmp {f : FuncId} {x y : Operand} {ts : Array TypeId} {b c : Bool} {l m : List UInt8} (ho : o.op = .call { callee := .value (.func f), args := #[x, y], argTypes := ts }) (hf : ExtAt J.P f Extern.BytealgCompare.compare) (hx : fr.ev x = .val (slT b u8T) l) (hy : fr.ev y = .val (slT c u8T) m) :
    OpG J o fr hp (.val i64T (Lib.compareBytes l m)):=by
  refine .of_run (fun {_ ρ a w} s hr _=>?_) (fun _ _=>trivial);have h1:=hr x yy;have h2:=hr y yy;rw[hx] at h1;rw[hy] at h2;obtain⟨fn,e1,e2,e3,e4,e5⟩:=hf;refine⟨.int .i64 (Lib.compareBytes l m),?_,zO.2 ⟨rfl,?_⟩⟩
  . unfold execOp;rw[ho]
    have hc:=run_callFunc_extern (w:=w) (args:=#[a.eval x,a.eval y]) e1 e2 e3 e4 e5;have he:(Extern.BytealgCompare.compare #[a.eval x,a.eval y]).run J.P w = .ok (.int .i64 (Lib.compareBytes l m)) w:=by
      show Sem.run J.P (do pure (goInt (Extern.BytealgCompare.cmp (<-Extern.Bytes.bytesOf (a.eval x)) (<-Extern.Bytes.bytesOf (a.eval y))))) w=_;simp only[Sem.run_bind,znG h1,znG h2,Result.andThen_ok,Sem.run_pure,Lib.cmp_eq];rfl
    rw[he] at hc;have hfv:a.eval (.func f) = .func (.func f) #[] #[]:=rfl;simp only[resolve,hfv,Deferred.ofValue,Sem.run_bind,Sem.run_pure,Result.andThen_ok,invoke,empty_append,Array.append_empty];have em:Array.map a.eval #[x,y] = #[a.eval x,a.eval y]:=yw;rw[em];exact hc
  have : ∀ l m : List UInt8, -1 <= Lib.compareBytes l m /\ Lib.compareBytes l m <= 1 := fun l => by
    induction l with
    | nil=>intro m;cases m<;>simp[Lib.compareBytes]
    | cons x l ih=>intro m;cases m with
      | nil=>simp[Lib.compareBytes]
      | cons y m=>unfold Lib.compareBytes;split;omega;split;omega;exact ih m
  have:=this l m
  rw[zdo];omega
theorem g_ext3 {f : FuncId} {y p q r : Operand} {ts : Array TypeId} {e : Array Value -> Sem Value} {a b c s t : UInt64} (ho : o.op = .call { callee := .value y, args := #[p, q, r], argTypes := ts }) (hf : ExtAt J.P f e) (hy : fr.ev y = .clo f []) (hp' : fr.ev p = .val u64T a) (hq : fr.ev q = .val u64T b) (hr' : fr.ev r = .val u64T c)
    (he:∀P w,(e #[.int .u64 a.toNat,.int .u64 b.toNat,.int .u64 c.toNat]).run P w = .ok (.tuple #[.int .u64 s.toNat,.int .u64 t.toNat]) w):OpG J o fr hp (.tup2 (.val u64T s) (.val u64T t)):=by
  refine .of_run (fun {_ ρ ac w} sm hr _=>?_) (fun _ _=>⟨trivial,trivial⟩);have h0:=hr y yy;have h1:=hr p yy;have h2:=hr q yy;have h3:=hr r yy;rw[hy] at h0;rw[hp'] at h1;rw[hq] at h2;rw[hr'] at h3;have h0:ac.eval y = .func (.func f) #[] #[]:=h0;obtain⟨fn,e1,e2,e3,e4,e5⟩:=hf;refine⟨.tuple #[.int .u64 s.toNat,.int .u64 t.toNat],?_,_,_,rfl,zas.2 rfl,zas.2 rfl⟩;unfold execOp;rw[ho];have hc:=run_callFunc_extern (w:=w) (args:=#[ac.eval p,ac.eval q,ac.eval r]) e1 e2 e3 e4 e5;rw[zas.1 h1,zas.1 h2,zas.1 h3,he] at hc;simp only[resolve,h0,Deferred.ofValue,Sem.run_bind,Sem.run_pure,Result.andThen_ok,invoke,empty_append,Array.append_empty];have em:Array.map ac.eval #[p,q,r] = #[ac.eval p,ac.eval q,ac.eval r]:=yw;rw[em,zas.1 h1,zas.1 h2,zas.1 h3];exact hc
def add64E:Array Value->Sem Value:=fun args=>do
  let (x, y, c) ← Extern.MathBitsCarry.three "Add64" args
  pure (Extern.MathBitsCarry.pair ((x+y+c)%Extern.MathBitsCarry.m64) ((x+y+c)/Extern.MathBitsCarry.m64))
def sub64E:Array Value->Sem Value:=fun args=>do
  let (x, y, b) ← Extern.MathBitsCarry.three "Sub64" args
  pure (Extern.MathBitsCarry.pair ((x+Extern.MathBitsCarry.m64-y-b)%Extern.MathBitsCarry.m64) (if x<y+b then 1 else 0))
def addS (a b c:UInt64):UInt64:=UInt64.ofNat (a.toNat+b.toNat+c.toNat)
def addC (a b c:UInt64):UInt64:=UInt64.ofNat ((a.toNat+b.toNat+c.toNat)/18446744073709551616)
def subS (a b c:UInt64):UInt64:=UInt64.ofNat (a.toNat+18446744073709551616-b.toNat-c.toNat)
def subC (a b c:UInt64):UInt64:=if a.toNat<b.toNat+c.toNat then 1 else 0
theorem zj3 (a b:UInt64) {c:UInt64} (h:c.toNat<=1):(addC a b c).toNat<=1:=by
  have ha:a.toNat<18446744073709551616:=a.toNat_lt;have hb:b.toNat<18446744073709551616:=b.toNat_lt;unfold addC;rw[UInt64.toNat_ofNat_of_lt' yQ];omega
theorem zqE (a b c:UInt64):(subC a b c).toNat<=1:=by unfold subC;split<;>decide
theorem zso {P:Program} {w:World} {n:String} (a b:UInt64) {c:UInt64} (h:c.toNat<=1):(Extern.MathBitsCarry.three n #[.int .u64 a.toNat,.int .u64 b.toNat,.int .u64 c.toNat]).run P w = .ok (a.toNat,b.toNat,c.toNat) w:=by
  have h':c.toNat=0\/c.toNat=1:=ya;rcases h' with e|e<;>rw[e]<;>rfl
theorem run_add64 (P:Program) (w:World) (a b:UInt64) {c:UInt64} (h:c.toNat<=1):(add64E #[.int .u64 a.toNat,.int .u64 b.toNat,.int .u64 c.toNat]).run P w = .ok (.tuple #[.int .u64 (addS a b c).toNat,.int .u64 (addC a b c).toNat]) w:=by
  have ha:a.toNat<18446744073709551616:=a.toNat_lt;have hb:b.toNat<18446744073709551616:=b.toNat_lt;have e1:(addS a b c).toNat=(a.toNat+b.toNat+c.toNat)%Extern.MathBitsCarry.m64:=by unfold addS;rw[UInt64.toNat_ofNat'];rfl
  have e2:(addC a b c).toNat=(a.toNat+b.toNat+c.toNat)/Extern.MathBitsCarry.m64:=by
    unfold addC;rw[UInt64.toNat_ofNat_of_lt' yQ];rfl
  unfold add64E;rw[Sem.run_bind,zso a b h,e1,e2];rfl
theorem run_sub64 (P:Program) (w:World) (a b:UInt64) {c:UInt64} (h:c.toNat<=1):(sub64E #[.int .u64 a.toNat,.int .u64 b.toNat,.int .u64 c.toNat]).run P w = .ok (.tuple #[.int .u64 (subS a b c).toNat,.int .u64 (subC a b c).toNat]) w:=by
  have e1:(subS a b c).toNat=(a.toNat+Extern.MathBitsCarry.m64-b.toNat-c.toNat)%Extern.MathBitsCarry.m64:=by unfold subS;rw[UInt64.toNat_ofNat'];rfl
  have e2:(subC a b c).toNat=if a.toNat<b.toNat+c.toNat then 1 else 0:=by unfold subC;split<;>rfl
  unfold sub64E;rw[Sem.run_bind,zso a b h,e1,e2];rfl
end
end Go.Ab
namespace Go.Ab
open Go.RowKit
def gN (p:Value) (b:Nat):Prop:=zaH p=some b
def gU (ext:Nat->Prop) (p:Value) (b:Nat):Prop:=ext b\/gN p b
def bU (ext:Nat->Prop) (p:Value) (h':HE) (b:Nat):Prop:=ext b\/(h'.live/\gN p b)
def bF (w0:World) (p:Value) (h':HE) (b:Nat):Prop:=w0.heap.size<=b\/(gN p b/\¬h'.live)
def zpl (ext:Nat->Prop) (p:Value) (w0:World) (res:AV) (h':HE):Ending->World->Prop
  | .returned v,w=>BelowX (gN p) w0 w/\h'.rel ρ0 (bF w0 p h') (bU ext p h') (bU ext p h') w p/\res.rel ρ0 (bF w0 p h') (bU ext p h') (bU ext p h') w v
  | .outgrown,_=>False
  | _,_=>False
def zjh (ext:Nat->Prop) (p:Value) (w:World):List AV->List Value->Prop
  | [],[]=>True
  | A::As,v::vs=>A.rel (fun _=>p) noN (gU ext p) (gN p) w v/\zjh ext p w As vs
  | _,_=>False
def zfp (P:Program) (f:FuncId) (h:HE) (args:List AV) (res:AV) (h':HE):Prop :=
  ∀(ext:Nat->Prop) (p:Value) (w:World) (vs:List Value),(∀b,ext b->b<w.heap.size)->(∀b,gN p b->b<w.heap.size/\¬ext b)->h.rel (fun _=>p) noN (gU ext p) (gN p) w p->zjh ext p w args vs->Calls P f vs.toArray w (zpl ext p w res h')
section
variable {J:Job} {nx:Nat} {ρ:Nat->Value} {fr:Fr} {hp:Hp} {a:Act} {w w':World} {k:List It} {ops:Array Oper} {rest:List Oper} {o:Oper}
variable {α Z γ:Type} {T:GoT α} {S:GoT Z} {get:α->Z} {set:α->Z->α}
theorem zjh.spec {ext:Nat->Prop} {p:Value}:∀{As:List AV} {vs:List Value},zjh ext p w As vs->As.length=vs.length/\∀(j:Nat) (A:AV) (v:Value),As[j]?=some A->vs[j]?=some v->A.rel (fun _=>p) noN (gU ext p) (gN p) w v
  | [],[],_=>⟨rfl,fun j A v h=>by simp at h⟩
  | A::As,v::vs,h=>by
    obtain⟨h1,h2⟩:=zjh.spec h.2;refine⟨by simp[h1],fun j B u hb hu=>?_⟩;cases j with
    | zero=>simp at hb hu;subst hb;subst hu;exact h.1
    | succ j=>exact h2 j B u (by simpa using hb) (by simpa using hu)
  | [],_::_,h=>h.elim
  | _::_,[],h=>h.elim
def Job.ofM (P:Program) (fn:Func) (res:AV) (h':HE) (ext:Nat->Prop) (p:Value) (w:World) (h:∀b,ext b->b<w.heap.size) (hg:∀b,gN p b->b<w.heap.size/\¬ext b):Job :=
  { P,fn,w0:=w,ext,gr:=gN p,kg:=1,ρg:=fun _=>p,dj:=fun b h1 h2=>(hg b h2).2 h1,nt:=fn.ntmps,R:=zpl ext p w res h',rd:=none,ds:=[],bg:=[],bn:=0,bgb:=fun p hp=>(nomatch hp),post:=bodyPostM Fence.wide 0 P fn (zpl ext p w res h'),nrm:=fun _ _ _ h=>h,fin:=fun _ _ _ _ h1 h2 _ h3=>zcA h1 h2 h3,mark:=fun _ _ _ _ _ h1 h2 h3=>zg8 h1 h2 h3,lt:=h }
def AllU (nx:Nat):List AV->Prop
  | []=>True
  | A::As=>A.under nx/\AllU nx As
theorem AllU.mem:∀{As:List AV},AllU nx As->∀A∈As,A.under nx
  | A::As,h,B,hB=>by
    rcases mem_cons.1 hB with e|e
    . rw[e];exact h.1
    exact AllU.mem h.2 B e
theorem zg1 {P:Program} {f:FuncId} {fn:Func} {c:Code} {As:List AV} {res:AV} {h h':HE} (hl:h.live) (hf:P.funcs[f]?=some fn) (hb:fn.body=some c) (hn:Nat.ble As.length fn.ntmps=true) (hu:AllU 1 As)
    (H:∀(ext:Nat->Prop) (p:Value) (w:World) (h1:∀b,ext b->b<w.heap.size) (hg:∀b,gN p b->b<w.heap.size/\¬ext b),AW (Job.ofM P fn res h' ext p w h1 hg) 1 (Fr.args 0 As Fr.none) (Hp.none.set 0 h) [.code c]) (hu0:h.under 0:=by exact trivial):zfp P f h As res h':=by
  intro ext p w vs hext hg hrel ha;obtain⟨hlen,hargs⟩:=ha.spec;have hn:As.length<=fn.ntmps:=ycc;refine ze0 hf hb ?_;have hset:∀n,(Hp.none.set 0 h) n=if n=0 then h else .none_:=fun n=>zn _ _ _ _
  have hN:∀b,Nn (fun _=>p) (Hp.none.set 0 h) b↔gN p b:=fun b=>by
    constructor
    . rintro ⟨n,_,e⟩;exact e
    intro e;exact⟨0,by rw[hset,ut rfl];exact hl,e⟩
  have hNe:Nn (fun _=>p) (Hp.none.set 0 h)=gN p:=funext fun b=>propext (hN b)
  have hU:Uu (Job.ofM P fn res h' ext p w hext hg) (fun _=>p) (Hp.none.set 0 h)=gU ext p:=funext fun b=>propext ⟨fun h=>h.imp id (hN b).1,fun h=>h.imp id (hN b).2⟩
  have hfr:=zeF (P:=fun _ A v=>A.rel (fun _=>p) (Job.ofM P fn res h' ext p w hext hg).B (gU ext p) (gN p) w v/\A.under 1) (fun _ _=>⟨trivial,trivial⟩) (i:=0) (f:=Fr.none) (g:=fun _=>undef) hlen
    (fun j A v h1 h2 _=>by
      have hu':=hu.mem A (ud h1);exact⟨AV.rel_B hu' (hargs j A v h1 h2),hu'⟩) (fun t=>⟨trivial,trivial⟩) (fun _ _=>rfl)
  refine H ext p w hext hg _ w ⟨fun _=>p,{ kle:=ug _,ble:=uf _,brel:=fun q hq=>(nomatch hq),named:=fun _ _=>rfl,below:=BelowX.refl _ _,hrel:=fun n=>?_,hun:=fun n=>?_,hnx:=fun n hn=>?_,new:=fun n b hl' e=>⟨.inr e,(hg b e).1⟩,inj:=fun n m b hn hm _ _=>?_,size:=?_,defers:=rfl,frel:=fun t=>?_,fnx:=fun t=>(hfr t).2 }⟩
  . rw[hU,hNe,hset]
    by_cases c:n=0
    . rw[ut c];exact HE.rel_B hu0 hrel
    rw[ur c];trivial
  . show((Hp.none.set 0 h) n).under 1
    rw[hset];by_cases c:n=0
    . rw[ut c];exact HE.under_mono (uf 1) hu0
    rw[ur c];trivial
  . rw[hset,ur ya]
  . rw[hset] at hn hm
    have:n=0:=Classical.byContradiction fun c=>by rw[ur c] at hn;exact hn
    have:m=0:=Classical.byContradiction fun c=>by rw[ur c] at hm;exact hm
    omega
  . show(vs.toArray++_).size=fn.ntmps
    simp;omega
  have e : (vs.toArray ++ Array.replicate (fn.ntmps - vs.toArray.size) undef).getD t undef = (vs[t]?).getD undef := by
    rw[Array.getD_eq_getD_getElem?,Array.getElem?_append];by_cases c:t<vs.toArray.size
    . rw[ut c];simp
    rw[ur c];have hv:vs[t]?=none:=ybP;rw[hv,Array.getElem?_replicate]
    split<;>rfl
  rw[e,hU,hNe];have h1:=(hfr t).1;rw[ur (Nat.not_lt_zero t),sub_zero] at h1;exact h1
def zhX (hp:Hp) (h':HE):Prop:=((h'.live->(hp 0).live)/\∀{ρ B U N w p},(hp 0).rel ρ B U N w p->h'.rel ρ B U U w p)/\h'.under 0
theorem zgX:zhX hp .none_:=⟨⟨fun h=>h.elim,fun _=>trivial⟩,trivial⟩
theorem zcb [Strict T] {ty:TypeId} {x y:α} (h:hp 0 = .box ty T x) (e:x=y):zhX hp (.box ty T y):=by
  subst e;refine⟨⟨fun _=>by rw[h];trivial,fun {ρ B U N w p} hr=>?_⟩,trivial⟩;rw[h] at hr;obtain⟨g,cs,h1,h2,h3⟩:=hr;exact⟨g,cs,h1,h2,Strict.out h3⟩
theorem give_row [Strict T] {e:TypeId} {x y:List α} (h:hp 0 = .row e T x) (he:x=y):zhX hp (.row e T y):=by
  subst he;refine⟨⟨fun _=>by rw[h];trivial,fun {ρ B U N w p} hr=>?_⟩,trivial⟩;rw[h] at hr;obtain⟨xs,h1,h2⟩:=hr;exact⟨xs,h1,h2.strict⟩
def ziJ (J:Job) (hp:Hp) (h':HE) (X A:AV):Prop:=∀nx ρ w v p,J.kg=1->J.ρg=(fun _=>p)->J.gr=gN p->SimH J nx ρ hp w->X.rel ρ J.B (Uu J ρ hp) (Nn ρ hp) w v->A.rel ρ0 (bF J.w0 p h') (bU J.ext p h') (bU J.ext p h') w v
theorem zqn {h':HE} {p:Value} (hk:J.kg=1) (hρ:J.ρg=fun _=>p) (hg:h'.live->(hp 0).live) (s:SimH J nx ρ hp w):∀b,bU J.ext p h' b->Uu J ρ hp b:=fun b h=>h.imp id fun h=>⟨0,hg h.1,by
  have:=s.named 0 ya
  rw[this,hρ];exact h.2⟩
theorem zpR {h':HE} {p:Value} (hk:J.kg=1) (hρ:J.ρg=fun _=>p) (hg:h'.live->(hp 0).live) (s:SimH J nx ρ hp w):Keeps (Uu J ρ hp) (Uu J ρ hp) w (bU J.ext p h') (bU J.ext p h') w :=
  ⟨fun _ h=>h,ug _,fun _ _ _=>rfl,fun b _ h=>zqn hk hρ hg s b h,fun b _ h=>zqn hk hρ hg s b h⟩
theorem retm_val [Strict T] {X:AV} {x:α} {h':HE} (hg:zhX hp h') (h:X = .val T x):ziJ J hp h' X (.val T x):=fun _ _ _ _ _ hk hρ _ s hx=>by
  subst h;exact GoT.val_mono (zpR hk hρ hg.1.1 s) (GoT.val_strict hx)
theorem zgw [Strict T] {X:AV} {x y:α} {h':HE} (hg:zhX hp h') (h:X = .val T x) (e:x=y):ziJ J hp h' X (.val T y):=e▸retm_val hg h
theorem retm_fresh [Strict T] {X:AV} {n e:Nat} {l l':List α} {h':HE} (hg:zhX hp h') (hn0:h'.live->n≠0) (h:X = .own n) (hn:hp n = .row e T l) (hl:l=l'):ziJ J hp h' X (.fresh e T l'):=fun nx ρ w v p hk hρ hgr s hx=>by
  subst h;subst hl;have hh:=s.hrel n;rw[hn] at hh;obtain⟨xs,ho,hr⟩:=hh;have hx:_=_:=hx;rw[hx];have hlive:(hp n).live:=ycf;refine⟨xs,ho,fun b hb=>?_,(hr.strict (N':=Uu J ρ hp)).mono ⟨fun _ h=>h,ug _,fun _ _ _=>rfl,fun b _ h=>h.elim (zqn hk hρ hg.1.1 s b) (fun h=>.inr ⟨n,hlive,h⟩),fun b _ h=>h.elim (zqn hk hρ hg.1.1 s b) (fun h=>.inr ⟨n,hlive,h⟩)⟩⟩
  have:=s.new n b hlive hb
  refine⟨this.1.imp id fun h=>?_,this.2⟩;rw[hgr] at h;refine⟨h,fun hl=>hn0 hl (s.inj n 0 b hlive (hg.1.1 hl) hb ?_)⟩
  have:=s.named 0 ya
  rw[this,hρ];exact h
theorem zo8 {X:AV} {e:Nat} {h':HE} (h:X = .lit (.slice none 0 0)):ziJ J hp h' X (.fresh e T []):=fun _ _ _ _ _ _ _ _ s hx=>by
  subst h;have hx:_=_:=hx;rw[hx];exact⟨[],⟨by simp,.inl ⟨rfl,rfl⟩⟩,fun b hb=>by simp[zaH] at hb,rfl⟩
theorem zlE {h':HE} {p:Value} (hk:J.kg=1) (hρ:J.ρg=fun _=>p) (hgr:J.gr=gN p) (hg:zhX hp h') (s:SimH J nx ρ hp w):BelowX (gN p) J.w0 w/\h'.rel ρ0 (bF J.w0 p h') (bU J.ext p h') (bU J.ext p h') w p:=by
  refine⟨hgr▸s.below,?_⟩;have h0:=s.hrel 0;have e:ρ 0=p:=by rw[s.named 0 ya,hρ]
  rw[e] at h0;exact HE.rel_B hg.2 (HE.rel_ren (ρ:=ρ) (nx:=0) (fun n hn=>by omega) hg.2 (HE.rel_mono (zpR hk hρ hg.1.1 s) hg.2 (fun _ _ _=>rfl) (hg.1.2 h0)))
theorem ztJ {p:Value} {h':HE} (hk:J.kg=1) (hρ:J.ρg=fun _=>p) (hgr:J.gr=gN p) (hR:J.R=zpl J.ext p J.w0 (.lit (.tuple #[])) h') (hfn:J.fn.results = #[]) (hg:zhX hp h') (hds:J.ds=[]/\J.rd=none:=by exact⟨rfl,rfl⟩):AW J nx fr hp []:=by
  intro a w ⟨ρ,s⟩;refine J.nrm hds.2 _ _ (J.fin hds.2 _ _ _ (s.defers.trans hds.1) (results_none hfn _ _ _) s.below ?_);rw[hR];obtain⟨h1,h2⟩:=zlE hk hρ hgr hg s.toSimH;exact⟨h1,h2,rfl⟩
theorem ar_retm1 {p:Value} {h':HE} {t:Tmp} {A:AV} (hk:J.kg=1) (hρ:J.ρg=fun _=>p) (hgr:J.gr=gN p) (hR:J.R=zpl J.ext p J.w0 A h') (hfn:J.fn.results = #[.tmp t]) (hg:zhX hp h') (h:ziJ J hp h' (fr t) A) (hds:J.ds=[]/\J.rd=none:=by exact⟨rfl,rfl⟩):AR J nx fr hp:=by
  intro a w ⟨ρ,s⟩;refine xa ?_;rw[hR];obtain⟨h1,h2⟩:=zlE hk hρ hgr hg s.toSimH;exact⟨h1,h2,h _ _ _ _ p hk hρ hgr s.toSimH (s.frel t)⟩
theorem zfA {p:Value} {h':HE} {t:Tmp} {A:AV} (hk:J.kg=1) (hρ:J.ρg=fun _=>p) (hgr:J.gr=gN p) (hR:J.R=zpl J.ext p J.w0 A h') (hfn:J.fn.results = #[.tmp t]) (hg:zhX hp h') (h:ziJ J hp h' (fr t) A) (hds:J.ds=[]/\J.rd=none:=by exact⟨rfl,rfl⟩):AW J nx fr hp (.code .ret::k):=zaA (ar_retm1 hk hρ hgr hR hfn hg h hds)
theorem ar_retm2 {p:Value} {h':HE} {t u:Tmp} {A B:AV} (hk:J.kg=1) (hρ:J.ρg=fun _=>p) (hgr:J.gr=gN p) (hR:J.R=zpl J.ext p J.w0 (.tup2 A B) h') (hfn:J.fn.results = #[.tmp t,.tmp u]) (hg:zhX hp h') (h:ziJ J hp h' (fr t) A) (g:ziJ J hp h' (fr u) B) (hds:J.ds=[]/\J.rd=none:=by exact⟨rfl,rfl⟩):AR J nx fr hp:=by
  intro a w ⟨ρ,s⟩;refine J.fin hds.2 _ _ _ (s.defers.trans hds.1) (results_tmp2 hfn _ _ _) s.below ?_;rw[hR];obtain⟨h1,h2⟩:=zlE hk hρ hgr hg s.toSimH;exact⟨h1,h2,_,_,rfl,h _ _ _ _ p hk hρ hgr s.toSimH (s.frel t),g _ _ _ _ p hk hρ hgr s.toSimH (s.frel u)⟩
theorem zwP {p:Value} {h':HE} {t u:Tmp} {A B:AV} (hk:J.kg=1) (hρ:J.ρg=fun _=>p) (hgr:J.gr=gN p) (hR:J.R=zpl J.ext p J.w0 (.tup2 A B) h') (hfn:J.fn.results = #[.tmp t,.tmp u]) (hg:zhX hp h') (h:ziJ J hp h' (fr t) A) (g:ziJ J hp h' (fr u) B) (hds:J.ds=[]/\J.rd=none:=by exact⟨rfl,rfl⟩):AW J nx fr hp (.code .ret::k):=zaA (ar_retm2 hk hρ hgr hR hfn hg h g hds)
theorem SimR.to (h:SimR J nx ρ fr hp a w) {ρ':Nat->Value} {hp':Hp} {nx':Nat} (hle:nx<=nx') (hρ:∀n,n<nx->ρ' n=ρ n) (hX:BelowX (Nn ρ hp) w w') (hN:∀b,b<w.heap.size->Nn ρ' hp' b->Nn ρ hp b)
    (hrel:Keeps (Uu J ρ hp) (Nn ρ hp) w (Uu J ρ' hp') (Nn ρ' hp') w'->∀n,(hp' n).rel ρ' J.B (Uu J ρ' hp') (Nn ρ' hp') w' (ρ' n)) (hun:∀n,(hp' n).under nx') (hnx:∀n,nx'<=n->hp' n = .none_) (new:∀n b,(hp' n).live->zaH (ρ' n)=some b->(J.w0.heap.size<=b\/J.gr b)/\b<w'.heap.size)
    (inj:∀n m b,(hp' n).live->(hp' m).live->zaH (ρ' n)=some b->zaH (ρ' m)=some b->n=m):SimR J nx' ρ' fr hp' a w':=by
  have kp:Keeps (Uu J ρ hp) (Nn ρ hp) w (Uu J ρ' hp') (Nn ρ' hp') w':=⟨h.sub,hX.size,fun b hlt hn=>hX.block b hlt hn,fun b hlt hu=>hu.imp id (hN b hlt),hN⟩;exact
  { kle:=Nat.le_trans h.kle hle
    ble:=Nat.le_trans h.ble hle
    named:=fun n hn=>(hρ n (lt_of_lt_of_le hn h.kle)).trans (h.named n hn)
    below:=⟨hX.os.trans h.below.os,hX.tape.trans h.below.tape,hX.output.trans h.below.output,Nat.le_trans h.below.size hX.size,fun b hlt hgr =>
      (hX.block b (lt_of_lt_of_le hlt h.below.size) (fun ⟨n,hl,e⟩=>(h.new n b hl e).1.elim (fun h1=>absurd hlt ya) hgr)).trans (h.below.block b hlt hgr),Nat.le_trans h.below.drawn hX.drawn⟩
    hun:=hun
    hrel:=hrel kp
    hnx:=hnx
    new:=new
    inj:=inj
    size:=h.size
    defers:=h.defers
    frel:=fun t=>AV.rel_ren hρ (h.fnx t) (AV.rel_mono kp (h.fnx t) (h.frel t))
    fnx:=fun t=>AV.under_mono hle (h.fnx t)
    brel:=fun q hq t=>AV.rel_ren hρ (AV.under_mono h.ble (J.bgb q hq t)) (AV.rel_mono kp (J.bgb q hq t) (h.brel q hq t)) }
def zlh (J:Job) (hp:Hp) (n:Nat) (X A:AV):Prop:=∀nx ρ w v,SimH J nx ρ hp w->(hp n).live->X.rel ρ J.B (Uu J ρ hp) (Nn ρ hp) w v->A.rel (fun _=>ρ n) noN (Uu J ρ hp) (gN (ρ n)) w v
def zj6 (J:Job) (fr:Fr) (hp:Hp) (n:Nat):List Operand->List AV->Prop
  | [],[]=>True
  | x::xs,A::As=>zlh J hp n (fr.ev x) A/\zj6 J fr hp n xs As
  | _,_=>False
theorem zlH (s:SimH J nx ρ hp w) {n:Nat} (hl:(hp n).live):Keeps (Uu J ρ hp) (Nn ρ hp) w (Uu J ρ hp) (gN (ρ n)) w:=⟨s.sub,ug _,fun _ _ _=>rfl,fun _ _ h=>h,fun _ _ h=>⟨n,hl,h⟩⟩
theorem zwW {n:Nat} {X:AV} {T S:GoT α} {x:α} (h:X = .val T x) (hs:Sub T S):zlh J hp n X (.val S x):=fun _ _ _ _ s hl hx=>by
  subst h;exact hs (fun b h=>.inr ⟨n,hl,h⟩) (GoT.val_mono (zlH s hl) hx)
theorem zbh {n:Nat} {X:AV} {T:GoT α} {x:α} (h:X = .val T x):zlh J hp n X (.val T x):=zwW h (Sub.refl T)
theorem zbY {n:Nat} {X:AV} {T:GoT α} {x:List α} (h:X = .val (sl T) x):zlh J hp n X (.val (bsl T) x):=zwW h (zt4 T)
theorem zbW {n:Nat} {X:AV} {v:Value} (h:X = .lit v):zlh J hp n X (.lit v):=fun _ _ _ _ s _ hx=>by
  subst h;exact hx
theorem zbV {n:Nat} {X:AV} (h:X = .own n):zlh J hp n X (.own 0):=fun _ _ _ _ s _ hx=>by
  subst h;exact hx
theorem zbU {n off:Nat} {X:AV} (h:X = .ptr n off):zlh J hp n X (.ptr 0 off):=fun _ _ _ _ s _ hx=>by
  subst h;exact hx
theorem zbX {n:Nat} {X:AV} {f:FuncId} (h:X = .clo f []):zlh J hp n X (.clo f []):=fun _ _ _ _ s _ hx=>by
  subst h;exact hx
theorem zbT {n m:Nat} {X:AV} {e:Nat} {l:List α} (h:X = .own m) (hm:hp m = .row e T l) (hne:m≠n):zlh J hp n X (.val (bsl T) l):=fun _ ρ _ _ s hl hx=>by
  subst h;have hh:=s.hrel m;rw[hm] at hh;obtain⟨xs,ho,hr⟩:=hh;have hx:_=_:=hx;rw[hx];exact zfL (b:=true) ho rfl (hr.mono (zlH s hl)) (fun g hg hg'=>hne (s.inj m n g (by rw[hm];trivial) hl hg hg'))
theorem ztQ {s:SimH J nx ρ hp w} {a:Act} {n:Nat} (hl:(hp n).live):∀{xs:List Operand} {As:List AV},(∀y∈xs,(fr.ev y).rel ρ J.B (Uu J ρ hp) (Nn ρ hp) w (a.eval y))->zj6 J fr hp n xs As->
    ∀{ext:Nat->Prop},gU ext (ρ n)=Uu J ρ hp->zjh ext (ρ n) w As (xs.map a.eval)
  | [],[],_,_,_,_=>trivial
  | x::xs,A::As,hr,h,_,e=>⟨by rw[e];exact h.1 _ _ _ _ s hl (hr x yw),ztQ (s:=s) hl (fun y hy=>hr y ybt) h.2 e⟩
  | [],_::_,_,h,_,_=>h.elim
  | _::_,[],_,h,_,_=>h.elim
theorem SimR.given (h:SimR J nx ρ fr hp a w) {n:Nat} {h':HE} (hl:(hp n).live) (hl':h'.live) (hX:BelowX (gN (ρ n)) w w') (hr:h'.rel ρ J.B (Uu J ρ hp) (Uu J ρ hp) w' (ρ n)) (hu':h'.under nx):SimR J nx ρ fr (hp.set n h') a w':=by
  have hlive:∀m,((hp.set n h') m).live->(hp m).live:=fun m hm=>by
    rw[zn] at hm;by_cases c:m=n
    . rw[c];exact hl
    rw[ur c] at hm;exact hm
  have hlive':∀m,(hp m).live->((hp.set n h') m).live:=fun m hm=>by
    rw[zn];by_cases c:m=n
    . rw[ut c];exact hl'
    rw[ur c];exact hm
  have hN:∀b,Nn ρ (hp.set n h') b↔Nn ρ hp b:=fun b=>⟨fun ⟨m,h1,h2⟩=>⟨m,hlive m h1,h2⟩,fun ⟨m,h1,h2⟩=>⟨m,hlive' m h1,h2⟩⟩
  have hNe:Nn ρ (hp.set n h')=Nn ρ hp:=funext fun b=>propext (hN b)
  have hUe:Uu J ρ (hp.set n h')=Uu J ρ hp:=funext fun b=>by unfold Uu;rw[hNe]
  have hlt:n<nx:=lt_of_not_le fun hle=>by
    rw[h.hnx n hle] at hl;exact hl
  refine h.to (ug _) (fun _ _=>rfl) ⟨hX.os,hX.tape,hX.output,hX.size,fun b hlt hb=>hX.block b hlt (fun hg=>hb ⟨n,hl,hg⟩),hX.drawn⟩ (fun b _=>(hN b).1) (fun kp m=>?_) (fun m=>?_) (fun m hm=>?_) (fun m b hm e=>?_) (fun m1 m2 b l1 l2=>h.inj m1 m2 b (hlive m1 l1) (hlive m2 l2))
  . rw[zn]
    by_cases c:m=n
    . rw[ut c,c,hUe,hNe]
      exact HE.rel_mono ⟨fun _ h=>h,ug _,fun _ _ _=>rfl,fun _ _ h=>h,fun b _ hb=>.inr hb⟩ hu' (fun _ _ _=>rfl) hr
    rw[ur c];exact HE.rel_mono kp (h.hun m) (fun hl2 g hg=>hX.block g (h.new m g hl2 hg).2 (fun e=>c (h.inj m n g hl2 hl hg e))) (h.hrel m)
  . rw[zn]
    by_cases c:m=n
    . rw[ut c];exact hu'
    rw[ur c];exact h.hun m
  . rw[zn,ur ya];exact h.hnx m hm
  have:=h.new m b (hlive m hm) e
  exact⟨this.1,lt_of_lt_of_le this.2 hX.size⟩
theorem zod (h:SimH J nx ρ hp w) {n:Nat} (hl:(hp n).live):gU (fun b=>Uu J ρ hp b/\¬gN (ρ n) b) (ρ n)=Uu J ρ hp:=funext fun b=>propext ⟨fun h1=>h1.elim (fun h=>h.1) (fun h=>.inr ⟨n,hl,h⟩),fun h1=>by
  by_cases c:gN (ρ n) b
  . exact .inr c
  exact .inl ⟨h1,c⟩⟩
theorem zkn {f:FuncId} {fn:Func} {n:Nat} {xs:Array Operand} {ts:Array TypeId} {As:List AV} {X:AV} {h0 h':HE} (hc:zfp J.P f h0 As X h') (hf:fnB J.P f=true) (hn:hp n=h0) (hl:h0.live) (ha:zj6 J fr hp n xs.toList As) (s:SimR J nx ρ fr hp a w) (hu0:h0.under 0) :
    Calls J.P f (xs.map a.eval) w (zpl (fun b=>Uu J ρ hp b/\¬gN (ρ n) b) (ρ n) w X h'):=by
  have hlive:(hp n).live:=ycg;have e:=zod s.toSimH hlive;have hargs:=ztQ (s:=s.toSimH) (a:=a) hlive (fun y hy=>zak s y) ha e
  have:=hc (fun b=>Uu J ρ hp b/\¬gN (ρ n) b) (ρ n) w _ (fun b hb=>s.uu_lt hb.1) (fun b hb=>⟨(s.new n b hlive hb).2,fun h=>h.2 hb⟩) (by
    rw[e];have h1:=s.hrel n;rw[hn] at h1;exact HE.rel_B hu0 (HE.rel_ren (ρ:=ρ) (nx:=0) (fun n hn=>by omega) hu0 (HE.rel_mono (zlH s.toSimH hlive) hu0 (fun _ _ _=>rfl) h1))) hargs
  have eq:(xs.toList.map a.eval).toArray=xs.map a.eval:=yca;rw[eq] at this;exact this
theorem zja {f : FuncId} {n : Nat} {xs : Array Operand} {ts : Array TypeId} {As : List AV} {X : AV} {h0 h' : HE} {d : Nat} (hc : zfp J.P f h0 As X h') (ho : o.op = .call { callee := .value (.func f), args := xs, argTypes := ts }) (hf : fnB J.P f = true) (hn : hp n = h0) (hl : h0.live) (hl' : h'.live) (hX : X.under0 = true)
    (ha:zj6 J fr hp n xs.toList As) (hd:o.dst=some d) (hg:o.guard=none) (hlt:Nat.blt d J.nt=true) (H:AW J nx (fr.set d X) (hp.set n h') (.ops ops rest::k)) (hu0:h0.under 0:=by exact trivial) (hu1:h'.under 0:=by exact trivial):AW J nx fr hp (.ops ops (o::rest)::k):=by
  intro a w ⟨ρ,s⟩;refine zU hg yq fun K hK=>?_
  obtain⟨fn,h1,h2,h3⟩:=zbG hf;unfold Oper.wp;rw[zfv ho h1 h2 h3,Oper.upon_enter];have hlive:(hp n).live:=ycg;have e:=zod s.toSimH hlive;refine Calls.mono (zkn (fn:=fn) (ts:=ts) hc hf hn hl ha s hu0) fun en w' he=>?_
  have hbU:bU (fun b=>Uu J ρ hp b/\¬gN (ρ n) b) (ρ n) h'=Uu J ρ hp:=by
    refine Eq.trans ?_ e;funext b;unfold bU gU;exact propext ⟨fun h=>h.imp id (fun h=>h.2),fun h=>h.imp id (fun h=>⟨hl',h⟩)⟩
  cases en with
  | returned v =>
    obtain⟨hb,hr,hv⟩:=he;rw[hbU] at hr hv;rw[hd];have s':=s.given hlive hl' hb (HE.rel_B hu1 (HE.rel_ren (ρ:=ρ0) (nx:=0) (fun n hn=>by omega) hu1 hr)) (HE.under_mono (uf _) hu1);have hu:=AV.under0_spec hX;refine hK _ _ (H _ _ ⟨ρ,s'.put yK ?_ (AV.under_mono (uf _) hu)⟩);have hle:∀b,Uu J ρ (hp.set n h') b->Uu J ρ hp b:=fun b hb=>hb.imp id fun ⟨m,h1,h2⟩=>by
      rw[zn] at h1;by_cases c:m=n
      . exact⟨n,hlive,by rw[<-c];exact h2⟩
      rw[ur c] at h1;exact⟨m,h1,h2⟩
    exact AV.rel_mono (nx:=0) ⟨fun _ h=>h,ug _,fun _ _ _=>rfl,fun b _ h=>hle b h,fun b _ h=>hle b (.inr h)⟩ hu (AV.rel_ren (ρ:=ρ0) (ρ':=ρ) (fun n hn=>by omega) hu (AV.rel_B (B':=J.B) hu hv))
  | panicked c=>exact he.elim
  | outgrown=>exact he.elim
theorem SimR.taken (h:SimR J nx ρ fr hp a w) {n e:Nat} {v:Value} {l:List α} (hl:(hp n).live) (hX:BelowX (gN (ρ n)) w w') (hf:∀b,zaH v=some b->(w.heap.size<=b\/gN (ρ n) b)/\b<w'.heap.size)
    {xs:List Value} (ho:w'.ownsRow 0 e T.size v l.length xs) (hr:zai T (fun b=>(Uu J ρ hp b/\¬gN (ρ n) b)\/zaH v=some b) (fun b=>(Uu J ρ hp b/\¬gN (ρ n) b)\/zaH v=some b) w' l xs) :
    SimR J (nx+1) (ren ρ nx v) fr ((hp.set n .none_).set nx (.row e T l)) a w':=by
  have hlt:n<nx:=lt_of_not_le fun hle=>by
    rw[h.hnx n hle] at hl;exact hl
  have hren:∀m,m≠nx->ren ρ nx v m=ρ m:=fun m hm=>by unfold ren;rw[ur hm]
  have hrenx:ren ρ nx v nx=v:=by unfold ren;rw[ut rfl]
  have hold:∀m,m≠nx->(((hp.set n .none_).set nx (.row e T l)) m).live->(hp m).live/\m≠n:=fun m hm hl=>by
    rw[zn,ur hm,zn] at hl;by_cases c:m=n
    . rw[ut c] at hl;exact hl.elim
    rw[ur c] at hl;exact⟨hl,c⟩
  have hN:∀b,Nn (ren ρ nx v) ((hp.set n .none_).set nx (.row e T l)) b->(Nn ρ hp b/\¬gN (ρ n) b)\/zaH v=some b:=fun b ⟨m,hm,hb⟩=>by
    by_cases c:m=nx
    . rw[c,hrenx] at hb;exact .inr hb
    rw[hren m c] at hb;obtain⟨h1,h2⟩:=hold m c hm;exact .inl ⟨⟨m,h1,hb⟩,fun hg=>h2 (h.inj m n b h1 hl hb hg)⟩
  refine h.to (le_succ _) (fun m hm=>hren m ya) ⟨hX.os,hX.tape,hX.output,hX.size,fun b hlt hb=>hX.block b hlt (fun hg=>hb ⟨n,hl,hg⟩),hX.drawn⟩ (fun b hlt hb=>(hN b hb).elim (fun h=>h.1) (fun hb=>(hf b hb).1.elim (fun h=>by omega) (fun h=>⟨n,hl,h⟩))) (fun kp m=>?_) (fun m=>?_) (fun m hm=>?_) (fun m b hm hb=>?_) (fun m1 m2 b l1 l2 e1 e2=>?_)
  . by_cases c:m=nx
    . rw[c,zn,ut rfl,hrenx]
      have kN:∀b,Nn (ren ρ nx v) ((hp.set n .none_).set nx (.row e T l)) b->(Uu J ρ hp b/\¬gN (ρ n) b)\/zaH v=some b:=fun b h1=>(hN b h1).imp (fun h=>⟨.inr h.1,h.2⟩) id
      have kU:∀b,Uu J (ren ρ nx v) ((hp.set n .none_).set nx (.row e T l)) b->(Uu J ρ hp b/\¬gN (ρ n) b)\/zaH v=some b:=fun b hb=>hb.elim (fun h1=>.inl ⟨.inl h1,fun hg=>by
        have h3:=(h.new n b hl hg).1;rcases h3 with h3|h3
        . have:=J.lt b h1;omega
        exact J.dj b h1 h3⟩) (kN b)
      exact⟨xs,ho,hr.mono ⟨fun _ h=>h,ug _,fun _ _ _=>rfl,fun b _ hb=>kU b hb,fun b _ hb=>kN b hb⟩⟩
    rw[zn,ur c,hren m c,zn];by_cases c':m=n
    . rw[ut c'];trivial
    rw[ur c'];exact HE.rel_ren (nx:=nx) (fun i hi=>hren i ya) (h.hun m) (HE.rel_mono kp (h.hun m) (fun hl2 g hg=>hX.block g (h.new m g hl2 hg).2 (fun e=>c' (h.inj m n g hl2 hl hg e))) (h.hrel m))
  . rw[zn]
    by_cases c:m=nx
    . rw[ut c];trivial
    rw[ur c,zn];by_cases c':m=n
    . rw[ut c'];trivial
    rw[ur c'];exact HE.under_mono (le_succ nx) (h.hun m)
  . rw[zn,ur ya,zn,ur ya];exact h.hnx m ya
  . by_cases c:m=nx
    . rw[c,hrenx] at hb
      obtain⟨h1,h2⟩:=hf b hb;exact⟨h1.elim (fun h1=>.inl (Nat.le_trans h.below.size h1)) (fun h1=>(h.new n b hl h1).1),h2⟩
    rw[hren m c] at hb
    have:=h.new m b (hold m c hm).1 hb
    exact⟨this.1,lt_of_lt_of_le this.2 hX.size⟩
  by_cases c1:m1=nx<;>by_cases c2:m2=nx
  . rw[c1,c2]
  . rw[c1,hrenx] at e1;rw[hren m2 c2] at e2
    obtain⟨g1,g2⟩:=hold m2 c2 l2;rcases (hf b e1).1 with h1|h1
    . have:=(h.new m2 b g1 e2).2;omega
    exact absurd (h.inj m2 n b g1 hl e2 h1) g2
  . rw[c2,hrenx] at e2;rw[hren m1 c1] at e1
    obtain⟨g1,g2⟩:=hold m1 c1 l1;rcases (hf b e2).1 with h1|h1
    . have:=(h.new m1 b g1 e1).2;omega
    exact absurd (h.inj m1 n b g1 hl e1 h1) g2
  rw[hren m1 c1] at e1;rw[hren m2 c2] at e2;exact h.inj m1 m2 b (hold m1 c1 l1).1 (hold m2 c2 l2).1 e1 e2
theorem bU_none {n:Nat}:bU (fun b=>Uu J ρ hp b/\¬gN (ρ n) b) (ρ n) .none_=fun b=>Uu J ρ hp b/\¬gN (ρ n) b:=by
  funext b;unfold bU;exact propext ⟨fun h=>h.elim id (fun h=>h.1.elim),.inl⟩
def Flat (X:AV):Prop:=X.under0=true/\∀ρ F U N w ρ' F' U' N' w' v,X.rel ρ F U N w v->X.rel ρ' F' U' N' w' v
theorem zaE {k:IntKind} {x:Int}:Flat (.val (intT k) x):=⟨rfl,fun _ _ _ _ _ _ _ _ _ _ _ h=>zO.2 (zO.1 h)⟩
theorem zit {x:Bool}:Flat (.val zo x):=⟨rfl,fun _ _ _ _ _ _ _ _ _ _ _ h=>zbo.2 (zbo.1 h)⟩
theorem aw_callc {f : FuncId} {n : Nat} {xs : Array Operand} {ts : Array TypeId} {As : List AV} {h0 : HE} {d e : Nat} {l : List α} (hc : zfp J.P f h0 As (.fresh e T l) .none_) (ho : o.op = .call { callee := .value (.func f), args := xs, argTypes := ts }) (hf : fnB J.P f = true) (hn : hp n = h0) (hl : h0.live)
    (ha:zj6 J fr hp n xs.toList As) (hd:o.dst=some d) (hg:o.guard=none) (hlt:Nat.blt d J.nt=true) (H:AW J (nx+1) (fr.set d (.own nx)) ((hp.set n .none_).set nx (.row e T l)) (.ops ops rest::k)) (hu0:h0.under 0:=by exact trivial):AW J nx fr hp (.ops ops (o::rest)::k):=by
  intro a w ⟨ρ,s⟩;refine zU hg yq fun K hK=>?_
  obtain⟨fn,h1,h2,h3⟩:=zbG hf;unfold Oper.wp;rw[zfv ho h1 h2 h3,Oper.upon_enter];have hlive:(hp n).live:=ycg;refine Calls.mono (zkn (fn:=fn) (ts:=ts) hc hf hn hl ha s hu0) fun en w' he=>?_
  cases en with
  | returned v =>
    obtain⟨hb,_,xs,hown,hfr,hr⟩:=he;rw[bU_none] at hr;rw[hd];exact hK _ _ (H _ _ ⟨_,(s.taken hlive hb (fun b h=>⟨(hfr b h).1.imp id (fun h=>h.1),(hfr b h).2⟩) hown hr).put yK yU (lt_succ_self nx)⟩)
  | panicked c=>exact he.elim
  | outgrown=>exact he.elim
theorem ztM {f : FuncId} {n : Nat} {xs : Array Operand} {ts : Array TypeId} {As : List AV} {h0 : HE} {d e : Nat} {l : List α} {X : AV} (hc : zfp J.P f h0 As (.tup2 (.fresh e T l) X) .none_) (ho : o.op = .call { callee := .value (.func f), args := xs, argTypes := ts }) (hf : fnB J.P f = true) (hn : hp n = h0) (hl : h0.live) (hX : Flat X)
    (ha:zj6 J fr hp n xs.toList As) (hd:o.dst=some d) (hg:o.guard=none) (hlt:Nat.blt d J.nt=true) (H:AW J (nx+1) (fr.set d (.tup2 (.own nx) X)) ((hp.set n .none_).set nx (.row e T l)) (.ops ops rest::k)) (hu0:h0.under 0:=by exact trivial):AW J nx fr hp (.ops ops (o::rest)::k):=by
  intro a w ⟨ρ,s⟩;refine zU hg yq fun K hK=>?_
  obtain⟨fn,h1,h2,h3⟩:=zbG hf;unfold Oper.wp;rw[zfv ho h1 h2 h3,Oper.upon_enter];have hlive:(hp n).live:=ycg;refine Calls.mono (zkn (fn:=fn) (ts:=ts) hc hf hn hl ha s hu0) fun en w' he=>?_
  have hu:=AV.under0_spec hX.1;cases en with
  | returned v =>
    obtain⟨hb,_,x,y,rfl,⟨xs,hown,hfr,hr⟩,hy⟩:=he;rw[bU_none] at hr hy;rw[hd];have s':=s.taken hlive hb (fun b h=>⟨(hfr b h).1.imp id (fun h=>h.1),(hfr b h).2⟩) hown hr;refine hK _ _ (H _ _ ⟨_,s'.put yK ⟨x,y,rfl,yU,hX.2 _ _ _ _ _ _ _ _ _ _ _ hy⟩ ⟨lt_succ_self nx,AV.under_mono (uf _) hu⟩⟩)
  | panicked c=>exact he.elim
  | outgrown=>exact he.elim
theorem zi6 (s:SimR J nx ρ fr hp a w) {v:Value} {e:Nat} {l:List α} (hb:Below w.heap.size w w') (he:(AV.fresh e T l).rel ρ0 (fun b=>w.heap.size<=b) (Uu J ρ hp) (Uu J ρ hp) w' v):SimR J (nx+1) (ren ρ nx v) fr (hp.set nx (.row e T l)) a w':=by
  obtain⟨cs,hown,hfr,hr⟩:=he;refine s.bind (p:=v) (x:=.row e T l) hb hfr fun kp=>⟨cs,hown,?_⟩
  have hNn:∀b,Nn (ren ρ nx v) (hp.set nx (.row e T l)) b->Nn ρ hp b\/zaH v=some b:=fun b ⟨m,hl,e⟩=>by
    rw[zn] at hl;unfold ren at e;by_cases c:m=nx
    . rw[ut c] at e;exact .inr e
    rw[ur c] at hl e;exact .inl ⟨m,hl,e⟩
  exact hr.mono ⟨fun _ h=>h,ug _,fun _ _ _=>rfl,fun b _ hu=>hu.elim (fun h=>.inl (.inl h)) (fun h=>(hNn b h).imp .inr id),fun b _ h=>(hNn b h).imp .inr id⟩
theorem ziF {f : FuncId} {xs : Array Operand} {ts : Array TypeId} {As : List AV} {d e : Nat} {l : List α} {X : AV} (hc : Tells J.P f As (.tup2 (.fresh e T l) X)) (ho : o.op = .call { callee := .value (.func f), args := xs, argTypes := ts }) (hf : fnB J.P f = true) (ha : zhY J fr hp xs.toList As) (hX : Flat X)
    (hd:o.dst=some d) (hg:o.guard=none) (hlt:Nat.blt d J.nt=true) (H:AW J (nx+1) (fr.set d (.tup2 (.own nx) X)) (hp.set nx (.row e T l)) (.ops ops rest::k)):AW J nx fr hp (.ops ops (o::rest)::k):=by
  intro a w ⟨ρ,s⟩;refine zU hg yq fun K hK=>?_
  obtain⟨fn,h1,h2,h3⟩:=zbG hf;unfold Oper.wp;rw[zfv ho h1 h2 h3,Oper.upon_enter];have hargs:=zgs (s:=s.toSimH) (a:=a) (fun y hy=>zak s y) ha;have eq:(xs.toList.map a.eval).toArray=xs.map a.eval:=yca
  have:=hc (Uu J ρ hp) w _ (fun b hb=>s.uu_lt hb) hargs
  rw[eq] at this;refine Calls.mono this fun en w' he=>?_
  cases en with
  | returned v =>
    obtain⟨hb,x,y,rfl,hx,hy⟩:=he;rw[hd];exact hK _ _ (H _ _ ⟨_,(zi6 s hb hx).put yK ⟨x,y,rfl,yU,hX.2 _ _ _ _ _ _ _ _ _ _ _ hy⟩ ⟨lt_succ_self nx,AV.under_mono (uf _) (AV.under0_spec hX.1)⟩⟩)
  | panicked c=>exact he.elim
  | outgrown=>exact he.elim
theorem ztL {f : FuncId} {xs : Array Operand} {ts : Array TypeId} {As : List AV} {d e : Nat} {l : List α} {X Y : AV} (hc : Tells J.P f As (.tup3 (.fresh e T l) X Y)) (ho : o.op = .call { callee := .value (.func f), args := xs, argTypes := ts }) (hf : fnB J.P f = true) (ha : zhY J fr hp xs.toList As) (hX : Flat X) (hY : Flat Y)
    (hd:o.dst=some d) (hg:o.guard=none) (hlt:Nat.blt d J.nt=true) (H:AW J (nx+1) (fr.set d (.tup3 (.own nx) X Y)) (hp.set nx (.row e T l)) (.ops ops rest::k)):AW J nx fr hp (.ops ops (o::rest)::k):=by
  intro a w ⟨ρ,s⟩;refine zU hg yq fun K hK=>?_
  obtain⟨fn,h1,h2,h3⟩:=zbG hf;unfold Oper.wp;rw[zfv ho h1 h2 h3,Oper.upon_enter];have hargs:=zgs (s:=s.toSimH) (a:=a) (fun y hy=>zak s y) ha;have eq:(xs.toList.map a.eval).toArray=xs.map a.eval:=yca
  have:=hc (Uu J ρ hp) w _ (fun b hb=>s.uu_lt hb) hargs
  rw[eq] at this;refine Calls.mono this fun en w' he=>?_
  cases en with
  | returned v =>
    obtain⟨hb,x,y,z,rfl,hx,hy,hz⟩:=he;rw[hd];exact hK _ _ (H _ _ ⟨_,(zi6 s hb hx).put yK ⟨x,y,z,rfl,yU,hX.2 _ _ _ _ _ _ _ _ _ _ _ hy,hY.2 _ _ _ _ _ _ _ _ _ _ _ hz⟩ ⟨lt_succ_self nx,AV.under_mono (uf _) (AV.under0_spec hX.1),AV.under_mono (uf _) (AV.under0_spec hY.1)⟩⟩)
  | panicked c=>exact he.elim
  | outgrown=>exact he.elim
end
end Go.Ab
namespace Go.Ab
open Go.RowKit
theorem wrap_u8 (n:Int):IntKind.u8.wrap n=n%256:=ych
theorem ziL (n:Int):IntKind.u32.wrap n=n%4294967296:=ych
theorem zfq (n:Int):IntKind.u64.wrap n=n%18446744073709551616:=ych
theorem zf2 {k:IntKind} {m:Nat} (hk:k.signed=false) (h:m<2^k.bits):k.wrap (m:Int)=m:=by
  have h':(m:Int)<2^k.bits:=by exact_mod_cast h
  simp only[IntKind.wrap,hk,Bool.false_and,false_eq_true,if_false];exact Int.emod_eq_of_lt ya h'
section
variable {J:Job} {fr:Fr} {hp:Hp} {o:Oper} {t t':TypeId} {x y:Operand}
def zaF (n:Int):UInt8:=UInt8.ofNat (n%256).toNat
section
variable {α:Type} {S:GoT α} [IntL S] {a:UInt8} {n:α}
theorem zmE {s d:TypeId} (ho:o.op = .convert s d x) (hd:J.P.underlying d=some (.int .u8)) (hs:(J.P.underlying s).isSome=true) (hx:fr.ev x = .val S n):OpG J o fr hp (.val u8T (zaF (IntL.toI S n))):=by
  refine .of_run (fun {_ _ ac _} sm hr _=>?_) (fun _ _=>trivial);have h:=hr x ym;rw[hx] at h;refine⟨_,?_,zrX.2 rfl⟩;unfold execOp;rw[ho];obtain⟨ds,hs⟩:=isSome_iff_exists.1 hs;simp only[convert,IntL.val_ h,Sem.run_bind,run_underlying hs,run_underlying hd,Result.andThen_ok,Conv.intToInt,Sem.run_pure,wrap_u8];have hn:=emod_nonneg (IntL.toI S n) (show(256:Int)≠0 by decide);have hl:=emod_lt_of_pos (IntL.toI S n) (show(0:Int)<256 by decide);congr 3;unfold zaF;rw[UInt8.toNat_ofNat_of_lt' (by show(IntL.toI S n%256).toNat<256;omega)];omega
end
def zsm (x:UInt32) (n:Nat):UInt32:=UInt32.ofNat (x.toNat*2^min n 32)
def zd0 (x:UInt32) (n:Nat):UInt32:=UInt32.ofNat (x.toNat/2^min n 32)
def zdS (n:Int):UInt32:=UInt32.ofNat (n%4294967296).toNat
section
variable {a b:UInt32}
theorem zrt (ho:o.op = .binOp .add t x y t') (hx:fr.ev x = .val u32T a) (hy:fr.ev y = .val u32T b):OpG J o fr hp (.val u32T (a+b)) :=
  zd2 (Z:=.val u32T _) ho hx hy (fun hu hv=>by
    rw[zaJ.1 hu,zaJ.1 hv];refine⟨_,rfl,zM ..,zaJ.2 (congrArg _ ?_)⟩;have ha:a.toNat<4294967296:=a.toNat_lt;have hb:b.toNat<4294967296:=b.toNat_lt;rw[ziL,UInt32.toNat_add];omega) (fun _=>trivial)
theorem g_sub32 (ho:o.op = .binOp .sub t x y t') (hx:fr.ev x = .val u32T a) (hy:fr.ev y = .val u32T b):OpG J o fr hp (.val u32T (a-b)) :=
  zd2 (Z:=.val u32T _) ho hx hy (fun hu hv=>by
    rw[zaJ.1 hu,zaJ.1 hv];refine⟨_,rfl,zM ..,zaJ.2 (congrArg _ ?_)⟩;have ha:a.toNat<4294967296:=a.toNat_lt;have hb:b.toNat<4294967296:=b.toNat_lt;rw[ziL,UInt32.toNat_sub];omega) (fun _=>trivial)
theorem zom (ho:o.op = .binOp .mul t x y t') (hx:fr.ev x = .val u32T a) (hy:fr.ev y = .val u32T b):OpG J o fr hp (.val u32T (a*b)) :=
  zd2 (Z:=.val u32T _) ho hx hy (fun hu hv=>by
    rw[zaJ.1 hu,zaJ.1 hv];refine⟨_,rfl,zM ..,zaJ.2 (congrArg _ ?_)⟩;have ha:a.toNat<4294967296:=a.toNat_lt;have hb:b.toNat<4294967296:=b.toNat_lt;rw[ziL,UInt32.toNat_mul];simp) (fun _=>trivial)
theorem zol (ho:o.op = .binOp .quo t x y t') (hx:fr.ev x = .val u32T a) (hy:fr.ev y = .val u32T b) (h0:b.toNat≠0):OpG J o fr hp (.val u32T (a/b)) :=
  zd2 (Z:=.val u32T _) ho hx hy (fun hu hv=>by
    rw[zaJ.1 hu,zaJ.1 hv];have ha:a.toNat<4294967296:=a.toNat_lt;have hle:=div_le_self a.toNat b.toNat
    refine⟨.int .u32 ((a/b).toNat:Int),?_,zM ..,zaJ.2 rfl⟩;simp only[binOp,ne_eq,not_true_eq_false,if_false,Op.intDiv,ur (show ¬(b.toNat:Int)=0 by omega),Int.tdiv_eq_ediv_of_nonneg (natCast_nonneg _)];rw[ziL,<-Int.natCast_ediv,UInt32.toNat_div,Int.emod_eq_of_lt (natCast_nonneg _) (show((a.toNat/b.toNat:Nat):Int)<4294967296 from Int.ofNat_lt.2 (lt_of_le_of_lt hle ha))];rfl) (fun _=>trivial)
theorem g_rem32 (ho:o.op = .binOp .rem t x y t') (hx:fr.ev x = .val u32T a) (hy:fr.ev y = .val u32T b) (h0:b.toNat≠0):OpG J o fr hp (.val u32T (a%b)) :=
  zd2 (Z:=.val u32T _) ho hx hy (fun hu hv=>by
    rw[zaJ.1 hu,zaJ.1 hv];refine⟨.int .u32 ((a%b).toNat:Int),?_,zM ..,zaJ.2 rfl⟩;simp only[binOp,ne_eq,not_true_eq_false,if_false,Op.intDiv,ur (show ¬(b.toNat:Int)=0 by omega),Int.tmod_eq_emod_of_nonneg (natCast_nonneg _)];rw[<-Int.natCast_emod,UInt32.toNat_mod];rfl) (fun _=>trivial)
theorem g_and32 (ho:o.op = .binOp .and t x y t') (hx:fr.ev x = .val u32T a) (hy:fr.ev y = .val u32T b):OpG J o fr hp (.val u32T (a&&&b)) :=
  zd2 (Z:=.val u32T _) ho hx hy (fun hu hv=>by
    rw[zaJ.1 hu,zaJ.1 hv];refine⟨_,rfl,zM ..,zaJ.2 (congrArg _ ?_)⟩;have ha:a.toNat<4294967296:=a.toNat_lt;have hb:b.toNat<4294967296:=b.toNat_lt;rw[zf2 rfl (BitVec.isLt _)]
    first|(simp[ofInt_natCast,IntKind.bits,mod_eq_of_lt ha,mod_eq_of_lt hb];done)|(simp[ofInt_natCast,IntKind.bits];rfl)) (fun _=>trivial)
theorem zp0 (ho:o.op = .binOp .or t x y t') (hx:fr.ev x = .val u32T a) (hy:fr.ev y = .val u32T b):OpG J o fr hp (.val u32T (a|||b)) :=
  zd2 (Z:=.val u32T _) ho hx hy (fun hu hv=>by
    rw[zaJ.1 hu,zaJ.1 hv];refine⟨_,rfl,zM ..,zaJ.2 (congrArg _ ?_)⟩;have ha:a.toNat<4294967296:=a.toNat_lt;have hb:b.toNat<4294967296:=b.toNat_lt;rw[zf2 rfl (BitVec.isLt _)]
    first|(simp[ofInt_natCast,IntKind.bits,mod_eq_of_lt ha,mod_eq_of_lt hb];done)|(simp[ofInt_natCast,IntKind.bits];rfl)) (fun _=>trivial)
theorem zoe (ho:o.op = .binOp .xor t x y t') (hx:fr.ev x = .val u32T a) (hy:fr.ev y = .val u32T b):OpG J o fr hp (.val u32T (a^^^b)) :=
  zd2 (Z:=.val u32T _) ho hx hy (fun hu hv=>by
    rw[zaJ.1 hu,zaJ.1 hv];refine⟨_,rfl,zM ..,zaJ.2 (congrArg _ ?_)⟩;have ha:a.toNat<4294967296:=a.toNat_lt;have hb:b.toNat<4294967296:=b.toNat_lt;rw[zf2 rfl (BitVec.isLt _)]
    first|(simp[ofInt_natCast,IntKind.bits,mod_eq_of_lt ha,mod_eq_of_lt hb];done)|(simp[ofInt_natCast,IntKind.bits];rfl)) (fun _=>trivial)
theorem g_not32 (ho:o.op = .unOp .xor t x) (hx:fr.ev x = .val u32T a):OpG J o fr hp (.val u32T (~~~ a)):=by
  refine .of_run (fun {_ _ ac _} s hr _=>?_) (fun _ _=>trivial);have h:=hr x ym;rw[hx] at h;refine⟨_,?_,zaJ.2 rfl⟩;unfold execOp;rw[ho];have e:ac.eval x=_:=zaJ.1 h;have ha:a.toNat<4294967296:=a.toNat_lt;have he:IntKind.u32.wrap ((BitVec.ofInt 8 0:BitVec 8).toNat)=0:=yl;have hk:IntKind.u32.wrap (((BitVec.ofInt IntKind.u32.bits (if IntKind.u32.signed then -1 else IntKind.u32.max))^^^(BitVec.ofInt IntKind.u32.bits (a.toNat:Int))).toNat:Int)=((~~~ a).toNat:Int):=by
    rw[zf2 rfl (BitVec.isLt _)];refine congrArg _ ?_;rw[show((~~~ a).toNat)=(~~~ a.toBitVec).toNat from rfl,<-allOnes_xor];refine congrArg BitVec.toNat ?_;have e1:(BitVec.ofInt IntKind.u32.bits (if IntKind.u32.signed then -1 else IntKind.u32.max))=BitVec.allOnes 32:=(show(BitVec.ofInt 32 (4294967295:Int))=BitVec.allOnes 32 by decide);have e2:BitVec.ofInt IntKind.u32.bits (a.toNat:Int)=a.toBitVec:=by simp[ofInt_natCast,IntKind.bits]
    rw[e1,e2];rfl
  simp only[e,Op.unary,Op.intBits,Sem.run_bind,Sem.run_pure,Result.andThen_ok,hk]
end
section
variable {α:Type} {S:GoT α} [IntL S] {a:UInt32} {n:α}
theorem zrm (ho:o.op = .binOp .shl t x y t') (hx:fr.ev x = .val u32T a) (hy:fr.ev y = .val S n) (hn:0<=IntL.toI S n) {z:UInt32} (hz:zsm a (IntL.toI S n).toNat=z):OpG J o fr hp (.val u32T z):=by
  subst hz;exact zd2 (Z:=.val u32T _) ho hx hy (fun hu hv=>by
    rw[zaJ.1 hu,IntL.val_ hv];refine⟨.int .u32 (IntKind.u32.wrap ((a.toNat:Int)*2^(min (IntL.toI S n).toNat 32))),?_,zM ..,zaJ.2 (congrArg _ ?_)⟩
    . simp only[binOp,Op.shift,ur (Int.not_lt.2 hn)];rfl
    rw[ziL];unfold zsm;simp) (fun _=>trivial)
theorem zoj (ho:o.op = .binOp .shr t x y t') (hx:fr.ev x = .val u32T a) (hy:fr.ev y = .val S n) (hn:0<=IntL.toI S n) {z:UInt32} (hz:zd0 a (IntL.toI S n).toNat=z):OpG J o fr hp (.val u32T z):=by
  subst hz;exact zd2 (Z:=.val u32T _) ho hx hy (fun hu hv=>by
    rw[zaJ.1 hu,IntL.val_ hv];refine⟨.int .u32 ((a.toNat:Int).fdiv (2^(min (IntL.toI S n).toNat 32))),?_,zM ..,zaJ.2 (congrArg _ ?_)⟩
    . simp only[binOp,Op.shift,ur (Int.not_lt.2 hn)];rfl
    have ha:a.toNat<4294967296:=a.toNat_lt;unfold zd0;rw[UInt32.toNat_ofNat_of_lt' (lt_of_le_of_lt (div_le_self _ _) ha),Int.fdiv_eq_ediv_of_nonneg _ (by exact_mod_cast uf _)];simp) (fun _=>trivial)
theorem g_cv32 {s d:TypeId} (ho:o.op = .convert s d x) (hd:J.P.underlying d=some (.int .u32)) (hs:(J.P.underlying s).isSome=true) (hx:fr.ev x = .val S n):OpG J o fr hp (.val u32T (zdS (IntL.toI S n))):=by
  refine .of_run (fun {_ _ ac _} sm hr _=>?_) (fun _ _=>trivial);have h:=hr x ym;rw[hx] at h;refine⟨_,?_,zaJ.2 rfl⟩;unfold execOp;rw[ho];obtain⟨ds,hs⟩:=isSome_iff_exists.1 hs;simp only[convert,IntL.val_ h,Sem.run_bind,run_underlying hs,run_underlying hd,Result.andThen_ok,Conv.intToInt,Sem.run_pure,ziL];have hn:=emod_nonneg (IntL.toI S n) (show(4294967296:Int)≠0 by decide);have hl:=emod_lt_of_pos (IntL.toI S n) (show(0:Int)<4294967296 by decide);congr 3;unfold zdS;rw[UInt32.toNat_ofNat_of_lt' (by show(IntL.toI S n%4294967296).toNat<4294967296;omega)];omega
end
def zgv (x:UInt64) (n:Nat):UInt64:=UInt64.ofNat (x.toNat*2^min n 64)
def zax (x:UInt64) (n:Nat):UInt64:=UInt64.ofNat (x.toNat/2^min n 64)
def zK (n:Int):UInt64:=UInt64.ofNat (n%18446744073709551616).toNat
section
variable {a b:UInt64}
theorem zrs (ho:o.op = .binOp .add t x y t') (hx:fr.ev x = .val u64T a) (hy:fr.ev y = .val u64T b):OpG J o fr hp (.val u64T (a+b)) :=
  zd2 (Z:=.val u64T _) ho hx hy (fun hu hv=>by
    rw[zas.1 hu,zas.1 hv];refine⟨_,rfl,zM ..,zas.2 (congrArg _ ?_)⟩;have ha:a.toNat<18446744073709551616:=a.toNat_lt;have hb:b.toNat<18446744073709551616:=b.toNat_lt;rw[zfq,UInt64.toNat_add];omega) (fun _=>trivial)
theorem g_sub64 (ho:o.op = .binOp .sub t x y t') (hx:fr.ev x = .val u64T a) (hy:fr.ev y = .val u64T b):OpG J o fr hp (.val u64T (a-b)) :=
  zd2 (Z:=.val u64T _) ho hx hy (fun hu hv=>by
    rw[zas.1 hu,zas.1 hv];refine⟨_,rfl,zM ..,zas.2 (congrArg _ ?_)⟩;have ha:a.toNat<18446744073709551616:=a.toNat_lt;have hb:b.toNat<18446744073709551616:=b.toNat_lt;rw[zfq,UInt64.toNat_sub];omega) (fun _=>trivial)
theorem g_mul64 (ho:o.op = .binOp .mul t x y t') (hx:fr.ev x = .val u64T a) (hy:fr.ev y = .val u64T b):OpG J o fr hp (.val u64T (a*b)) :=
  zd2 (Z:=.val u64T _) ho hx hy (fun hu hv=>by
    rw[zas.1 hu,zas.1 hv];refine⟨_,rfl,zM ..,zas.2 (congrArg _ ?_)⟩;have ha:a.toNat<18446744073709551616:=a.toNat_lt;have hb:b.toNat<18446744073709551616:=b.toNat_lt;rw[zfq,UInt64.toNat_mul];simp) (fun _=>trivial)
theorem zok (ho:o.op = .binOp .quo t x y t') (hx:fr.ev x = .val u64T a) (hy:fr.ev y = .val u64T b) (h0:b.toNat≠0):OpG J o fr hp (.val u64T (a/b)) :=
  zd2 (Z:=.val u64T _) ho hx hy (fun hu hv=>by
    rw[zas.1 hu,zas.1 hv];have ha:a.toNat<18446744073709551616:=a.toNat_lt;have hle:=div_le_self a.toNat b.toNat
    refine⟨.int .u64 ((a/b).toNat:Int),?_,zM ..,zas.2 rfl⟩;simp only[binOp,ne_eq,not_true_eq_false,if_false,Op.intDiv,ur (show ¬(b.toNat:Int)=0 by omega),Int.tdiv_eq_ediv_of_nonneg (natCast_nonneg _)];rw[zfq,<-Int.natCast_ediv,UInt64.toNat_div,Int.emod_eq_of_lt (natCast_nonneg _) (show((a.toNat/b.toNat:Nat):Int)<18446744073709551616 from Int.ofNat_lt.2 (lt_of_le_of_lt hle ha))];rfl) (fun _=>trivial)
theorem zrn (ho:o.op = .binOp .rem t x y t') (hx:fr.ev x = .val u64T a) (hy:fr.ev y = .val u64T b) (h0:b.toNat≠0):OpG J o fr hp (.val u64T (a%b)) :=
  zd2 (Z:=.val u64T _) ho hx hy (fun hu hv=>by
    rw[zas.1 hu,zas.1 hv];refine⟨.int .u64 ((a%b).toNat:Int),?_,zM ..,zas.2 rfl⟩;simp only[binOp,ne_eq,not_true_eq_false,if_false,Op.intDiv,ur (show ¬(b.toNat:Int)=0 by omega),Int.tmod_eq_emod_of_nonneg (natCast_nonneg _)];rw[<-Int.natCast_emod,UInt64.toNat_mod];rfl) (fun _=>trivial)
theorem zrr (ho:o.op = .binOp .and t x y t') (hx:fr.ev x = .val u64T a) (hy:fr.ev y = .val u64T b):OpG J o fr hp (.val u64T (a&&&b)) :=
  zd2 (Z:=.val u64T _) ho hx hy (fun hu hv=>by
    rw[zas.1 hu,zas.1 hv];refine⟨_,rfl,zM ..,zas.2 (congrArg _ ?_)⟩;have ha:a.toNat<18446744073709551616:=a.toNat_lt;have hb:b.toNat<18446744073709551616:=b.toNat_lt;rw[zf2 rfl (BitVec.isLt _)]
    first|(simp[ofInt_natCast,IntKind.bits,mod_eq_of_lt ha,mod_eq_of_lt hb];done)|(simp[ofInt_natCast,IntKind.bits];rfl)) (fun _=>trivial)
theorem zs6 (ho:o.op = .binOp .or t x y t') (hx:fr.ev x = .val u64T a) (hy:fr.ev y = .val u64T b):OpG J o fr hp (.val u64T (a|||b)) :=
  zd2 (Z:=.val u64T _) ho hx hy (fun hu hv=>by
    rw[zas.1 hu,zas.1 hv];refine⟨_,rfl,zM ..,zas.2 (congrArg _ ?_)⟩;have ha:a.toNat<18446744073709551616:=a.toNat_lt;have hb:b.toNat<18446744073709551616:=b.toNat_lt;rw[zf2 rfl (BitVec.isLt _)]
    first|(simp[ofInt_natCast,IntKind.bits,mod_eq_of_lt ha,mod_eq_of_lt hb];done)|(simp[ofInt_natCast,IntKind.bits];rfl)) (fun _=>trivial)
theorem zro (ho:o.op = .unOp .xor t x) (hx:fr.ev x = .val u64T a):OpG J o fr hp (.val u64T (~~~ a)):=by
  refine .of_run (fun {_ _ ac _} s hr _=>?_) (fun _ _=>trivial);have h:=hr x ym;rw[hx] at h;refine⟨_,?_,zas.2 rfl⟩;unfold execOp;rw[ho];have e:ac.eval x=_:=zas.1 h;have ha:a.toNat<18446744073709551616:=a.toNat_lt;have he:IntKind.u64.wrap ((BitVec.ofInt 8 0:BitVec 8).toNat)=0:=yl;have hk:IntKind.u64.wrap (((BitVec.ofInt IntKind.u64.bits (if IntKind.u64.signed then -1 else IntKind.u64.max))^^^(BitVec.ofInt IntKind.u64.bits (a.toNat:Int))).toNat:Int)=((~~~ a).toNat:Int):=by
    rw[zf2 rfl (BitVec.isLt _)];refine congrArg _ ?_;rw[show((~~~ a).toNat)=(~~~ a.toBitVec).toNat from rfl,<-allOnes_xor];refine congrArg BitVec.toNat ?_;have e1:(BitVec.ofInt IntKind.u64.bits (if IntKind.u64.signed then -1 else IntKind.u64.max))=BitVec.allOnes 64:=(show(BitVec.ofInt 64 (18446744073709551615:Int))=BitVec.allOnes 64 by decide);have e2:BitVec.ofInt IntKind.u64.bits (a.toNat:Int)=a.toBitVec:=by simp[ofInt_natCast,IntKind.bits]
    rw[e1,e2];rfl
  simp only[e,Op.unary,Op.intBits,Sem.run_bind,Sem.run_pure,Result.andThen_ok,hk]
end
section
variable {α:Type} {S:GoT α} [IntL S] {a:UInt64} {n:α}
theorem zlL (ho:o.op = .binOp .shl t x y t') (hx:fr.ev x = .val u64T a) (hy:fr.ev y = .val S n) (hn:0<=IntL.toI S n) {z:UInt64} (hz:zgv a (IntL.toI S n).toNat=z):OpG J o fr hp (.val u64T z):=by
  subst hz;exact zd2 (Z:=.val u64T _) ho hx hy (fun hu hv=>by
    rw[zas.1 hu,IntL.val_ hv];refine⟨.int .u64 (IntKind.u64.wrap ((a.toNat:Int)*2^(min (IntL.toI S n).toNat 64))),?_,zM ..,zas.2 (congrArg _ ?_)⟩
    . simp only[binOp,Op.shift,ur (Int.not_lt.2 hn)];rfl
    rw[zfq];unfold zgv;simp) (fun _=>trivial)
theorem zcm (ho:o.op = .binOp .shr t x y t') (hx:fr.ev x = .val u64T a) (hy:fr.ev y = .val S n) (hn:0<=IntL.toI S n) {z:UInt64} (hz:zax a (IntL.toI S n).toNat=z):OpG J o fr hp (.val u64T z):=by
  subst hz;exact zd2 (Z:=.val u64T _) ho hx hy (fun hu hv=>by
    rw[zas.1 hu,IntL.val_ hv];refine⟨.int .u64 ((a.toNat:Int).fdiv (2^(min (IntL.toI S n).toNat 64))),?_,zM ..,zas.2 (congrArg _ ?_)⟩
    . simp only[binOp,Op.shift,ur (Int.not_lt.2 hn)];rfl
    have ha:a.toNat<18446744073709551616:=a.toNat_lt;unfold zax;rw[UInt64.toNat_ofNat_of_lt' (lt_of_le_of_lt (div_le_self _ _) ha),Int.fdiv_eq_ediv_of_nonneg _ (by exact_mod_cast uf _)];simp) (fun _=>trivial)
theorem zg0 {s d:TypeId} (ho:o.op = .convert s d x) (hd:J.P.underlying d=some (.int .u64)) (hs:(J.P.underlying s).isSome=true) (hx:fr.ev x = .val S n):OpG J o fr hp (.val u64T (zK (IntL.toI S n))):=by
  refine .of_run (fun {_ _ ac _} sm hr _=>?_) (fun _ _=>trivial);have h:=hr x ym;rw[hx] at h;refine⟨_,?_,zas.2 rfl⟩;unfold execOp;rw[ho];obtain⟨ds,hs⟩:=isSome_iff_exists.1 hs;simp only[convert,IntL.val_ h,Sem.run_bind,run_underlying hs,run_underlying hd,Result.andThen_ok,Conv.intToInt,Sem.run_pure,zfq];have hn:=emod_nonneg (IntL.toI S n) (show(18446744073709551616:Int)≠0 by decide);have hl:=emod_lt_of_pos (IntL.toI S n) (show(0:Int)<18446744073709551616 by decide);congr 3;unfold zK;rw[UInt64.toNat_ofNat_of_lt' (by show(IntL.toI S n%18446744073709551616).toNat<18446744073709551616;omega)];omega
end
section
variable {α:Type} {S:GoT α} [IntL S] {n:α}
theorem g_shlI {a:Int} (ho:o.op = .binOp .shl t x y t') (hx:fr.ev x = .val i64T a) (hy:fr.ev y = .val S n) (hn:0<=IntL.toI S n) {c:Int} (hc:IntKind.i64.wrap (a*2^(min (IntL.toI S n).toNat 64))=c):OpG J o fr hp (.val i64T c):=by
  subst hc;exact zd2 (Z:=.val i64T _) ho hx hy (fun hu hv=>by
    rw[(zO.1 hu).1,IntL.val_ hv];refine⟨.int .i64 (IntKind.i64.wrap (a*2^(min (IntL.toI S n).toNat 64))),?_,zM ..,zO.2 ⟨rfl,zln _⟩⟩;simp only[binOp,Op.shift,ur (Int.not_lt.2 hn)];rfl) (fun _=>trivial)
theorem zhs {s d:TypeId} (ho:o.op = .convert s d x) (hd:J.P.underlying d=some (.int .i64)) (hs:(J.P.underlying s).isSome=true) (hx:fr.ev x = .val S n) {c:Int} (hc:IntKind.i64.wrap (IntL.toI S n)=c):OpG J o fr hp (.val i64T c):=by
  subst hc;refine .of_run (fun {_ _ ac _} sm hr _=>?_) (fun _ _=>trivial);have h:=hr x ym;rw[hx] at h;refine⟨_,?_,zO.2 ⟨rfl,zln _⟩⟩;unfold execOp;rw[ho];obtain⟨ds,hs⟩:=isSome_iff_exists.1 hs;simp only[convert,IntL.val_ h,Sem.run_bind,run_underlying hs,run_underlying hd,Result.andThen_ok,Conv.intToInt,Sem.run_pure]
end
section
variable {a b:Int}
theorem g_quo (ho:o.op = .binOp .quo t x y t') (hx:fr.ev x = .val i64T a) (hy:fr.ev y = .val i64T b) (h0:0<=a) (h1:0<b) {c:Int} (hc:a/b=c):OpG J o fr hp (.val i64T c):=by
  subst hc;exact zd2 (Z:=.val i64T _) ho hx hy (fun hu hv=>by
    obtain⟨rfl,hr⟩:=zO.1 hu;obtain⟨rfl,_⟩:=zO.1 hv;rw[zdo] at hr;have h2:a/b<=a:=Int.ediv_le_self _ h0;have h3:0<=a/b:=Int.ediv_nonneg h0 ya;refine⟨.int .i64 (a/b),?_,zM ..,zO.2 ⟨rfl,by rw[zdo];omega⟩⟩;simp only[binOp,ne_eq,not_true_eq_false,if_false,Op.intDiv,ur (show ¬b=0 by omega),Int.tdiv_eq_ediv_of_nonneg h0];rw[z8 ya];rfl) (fun _=>trivial)
theorem g_rem (ho:o.op = .binOp .rem t x y t') (hx:fr.ev x = .val i64T a) (hy:fr.ev y = .val i64T b) (h0:0<=a) (h1:0<b) {c:Int} (hc:a%b=c):OpG J o fr hp (.val i64T c):=by
  subst hc;exact zd2 (Z:=.val i64T _) ho hx hy (fun hu hv=>by
    obtain⟨rfl,_⟩:=zO.1 hu;obtain⟨rfl,hr⟩:=zO.1 hv;rw[zdo] at hr;have h2:=emod_lt_of_pos a h1;have h3:=emod_nonneg a (show b≠0 by omega);refine⟨.int .i64 (a%b),?_,zM ..,zO.2 ⟨rfl,by rw[zdo];omega⟩⟩;simp only[binOp,ne_eq,not_true_eq_false,if_false,Op.intDiv,ur (show ¬b=0 by omega),Int.tmod_eq_emod_of_nonneg h0];rfl) (fun _=>trivial)
theorem g_neg (ho:o.op = .unOp .neg t x) (hx:fr.ev x = .val i64T a) {c:Int} (hc:IntKind.i64.wrap (0-a)=c):OpG J o fr hp (.val i64T c):=by
  subst hc;refine .of_run (fun {_ _ ac _} sm hr _=>?_) (fun _ _=>trivial);have h:=hr x ym;rw[hx] at h;refine⟨_,?_,zO.2 ⟨rfl,zln _⟩⟩;unfold execOp;rw[ho];simp[(zO.1 h).1,Op.unary,Op.intArith,Sem.run_bind]
theorem g_min {ts:Array TypeId} (ho:o.op = .call { callee:=.builtin .min,args:=#[x,y],argTypes:=ts }) (hx:fr.ev x = .val i64T a) (hy:fr.ev y = .val i64T b):OpG J o fr hp (.val i64T (min a b)):=by
  refine .of_run (fun {_ _ ac _} sm hr _=>?_) (fun _ _=>trivial);have h1:=hr x yy;have h2:=hr y yy;rw[hx] at h1;rw[hy] at h2;obtain⟨e1,r1⟩:=zO.1 h1;obtain⟨e2,r2⟩:=zO.1 h2;refine⟨.int .i64 (min a b),?_,zO.2 ⟨rfl,by rw[zdo] at *;omega⟩⟩;unfold execOp;rw[ho];have e3:(if b<a then b else a)=min a b:=by by_cases h:b<a<;>simp[h]<;>omega
  simp[resolve,Deferred.ofValue,invoke,builtin,Builtin.min_,Builtin.min2,e1,e2,Sem.run_bind,e3]
end
end
end Go.Ab
namespace Go.Ab
open Go.RowKit
section
variable {J:Job} {nx:Nat} {ρ:Nat->Value} {fr:Fr} {hp:Hp} {a:Act} {w w':World} {k:List It} {ops:Array Oper} {rest:List Oper} {o:Oper}
variable {α Z γ:Type} {T:GoT α} {S:GoT Z} {get:α->Z} {set:α->Z->α}
theorem Lens.elem [Inhabited α] {n i:Nat} {h:0<n} (hi:i<n) (T:GoT α):Lens (arrT n h T) (i*T.size) T (fun l=>l.getD i default) (fun l y=>l.set i y) where
  fit:=by
    show i*T.size+T.size<=n*T.size
    have:=mul_le_mul_right T.size (show i+1<=n by omega)
    rw[add_mul,one_mul] at this;exact this
  get_ {U N w x cs} hr:=by
    obtain⟨hl,hr⟩:=hr;have hx:x[i]?=some (x.getD i default):=by
      rw[uq,ub ya];rfl
    exact hr.get hx
  set_ {U N w x cs y ds} hr hk:=by
    obtain⟨hl,hr⟩:=hr;refine⟨by simp[hl],?_⟩
    have:=hr.set (i:=i) ya hk
    rw[add_mul,one_mul] at this;exact this
theorem g_ia_b {t e m sz n off i:Nat} {x y:Operand} {j:Int} (ho:o.op = .indexAddr t x y) (hx:fr.ev x = .ptr n off) (hy:fr.ev y = .val i64T j) (hj:j=(i:Int)) (ha:arrB J.P t m e sz=true) (hi:i<m) {off':Nat} (he:off+i*sz=off'):OpG J o fr hp (.ptr n off'):=by
  subst he;subst hj;refine .of_run (fun {_ _ _ w} s hr _=>?_) (fun h hn=>by have:=hn x ym;rw[hx] at this;exact this);have h:=hr x ym;have h':=hr y ym;rw[hx] at h;rw[hy] at h';obtain⟨g,e1,e2⟩:=h;obtain⟨h1,h2⟩:=zds ha w;refine⟨_,?_,g,e1,rfl⟩;unfold execOp;rw[ho];have hlt:(i:Int)<(m:Int):=ya;simp[Instr.indexAt,asIntOf,Sem.run_bind,run_underlying h1,e2,(zO.1 h').1,Instr.sureAddr,hlt,h2,zbO,hi]
theorem zy {t e m sz n i:Nat} {x y:Operand} {j:Int} (ho:o.op = .indexAddr t x y) (hx:fr.ev x = .ptr n 0) (hy:fr.ev y = .val i64T j) (hj:j=(i:Int)) (ha:arrB J.P t m e sz=true) (hi:i<m):OpG J o fr hp (.ptr n (i*sz)):=g_ia_b ho hx hy hj ha hi (zero_add _)
theorem g_ia_ra {t e m i:Nat} {hm:0<m} {x y:Operand} {j:Int} {l:List α} {c:α} (ho:o.op = .indexAddr t x y) (hx:fr.ev x = .rptr (arrT m hm T) l) (hy:fr.ev y = .val i64T j) (hj:j=(i:Int)) (ha:arrB J.P t m e T.size=true) (hc:l[i]?=some c):OpG J o fr hp (.rptr T c):=by
  subst hj;refine .of_run (fun {_ _ _ w} s hr _=>?_) (fun _ _=>trivial);have h:=hr x ym;have h':=hr y ym;rw[hx] at h;rw[hy] at h';obtain⟨ad,e1,hN,cs,⟨hl,hr'⟩,hcell⟩:=h;obtain⟨h1,h2⟩:=zds ha w;have hi:i<m:=by rw[<-hl];exact(ul.1 hc).1
  have hlt:(i:Int)<(m:Int):=ya;refine⟨.pointer (some (ad.add (i*T.size))),?_,_,rfl,by rw[zbM];exact hN,_,hr'.get hc,fun q v hq=>?_⟩
  . unfold execOp;rw[ho]
    simp[Instr.indexAt,asIntOf,Sem.run_bind,run_underlying h1,e1,(zO.1 h').1,Instr.sureAddr,hlt,h2,hi]
  rw[zbO];rw[List.getElem?_take,List.getElem?_drop] at hq
  split at hq
  . exact hcell _ v hq
  simp at hq
theorem g_nc {x:Operand} {n off:Nat} (ho:o.op = .nilCheck x) (hx:fr.ev x = .ptr n off):OpG J o fr hp (.ptr n off):=by
  refine .of_run (fun {_ _ _ w} s hr _=>?_) (fun h hn=>by have:=hn x ym;rw[hx] at this;exact this);have h:=hr x ym;rw[hx] at h;refine⟨_,?_,h⟩;obtain⟨g,e1,e2⟩:=h;unfold execOp;rw[ho];simp[e2]
theorem zvg {U N:Nat->Prop} {x:α} {cs:List Value} (h:T.rel U N w x cs):T.val U N w x (if T.agg then .agg cs.toArray else cs.headD undef):=by
  cases hb:T.agg with
  | true=>exact⟨cs,h,.inl ⟨hb,by simp⟩⟩
  | false =>
    have hl:=T.len h;rw[T.sc hb] at hl;obtain⟨v,rfl⟩:=List.length_eq_one_iff.1 hl;exact⟨[v],h,.inr ⟨hb,by simp⟩⟩
theorem zlM {t e m:Nat} {hm:0<m} {x y:Operand} {j:Int} {i:Nat} {l:List α} {c:α} (ho:o.op = .index t x y) (hx:fr.ev x = .val (arrT m hm T) l) (hy:fr.ev y = .val i64T j) (hj:j=(i:Int)) (ha:arrB J.P t m e T.size=true) (ht:tyB J.P e T.size T.agg=true) (hc:l[i]?=some c):OpG J o fr hp (.val T c):=by
  subst hj;refine .of_run (fun {_ _ _ w} s hr _=>?_) (fun _ _=>trivial);have h:=hr x ym;have h':=hr y ym;rw[hx] at h;rw[hy] at h';obtain⟨cs,⟨hl,hr⟩,hv⟩:=h;have hv:_=Value.agg cs.toArray:=hv.elim (fun h=>h.2) (fun h=>by cases h.1);obtain⟨h1,h2⟩:=zds ha w;have hi:i<m:=by rw[<-hl];exact(ul.1 hc).1
  have hlt:(i:Int)<(m:Int):=ya;have hlen:=hr.len;have hfit:i*T.size+T.size<=cs.length:=by
    rw[hlen,hl]
    have:=mul_le_mul_right T.size (show i+1<=m by omega)
    rw[add_mul,one_mul] at this;exact this
  have hp:=ziP (w:=w) (off:=i*T.size) ht T.sc T.pos hfit;have hg:=hr.get hc;refine⟨_,?_,zvg hg⟩;unfold execOp;rw[ho];simp[Instr.index,asIntOf,Sem.run_bind,run_underlying h1,(zO.1 h').1,hv,hlt,h2,hp,hi]
theorem g_field {Z:Type} {S:GoT Z} {get:α->Z} {set:α->Z->α} {s f off ft:Nat} {x:Operand} {y:α} (ho:o.op = .field s x f) (hx:fr.ev x = .val T y) (hf:fieldB J.P s f off ft=true) (L:Lens T off S get set) (ht:tyB J.P ft S.size S.agg=true) (hT:T.agg=true:=by rfl):OpG J o fr hp (.val S (get y)):=by
  refine .of_run (fun {_ _ _ w} s hr _=>?_) (fun _ _=>trivial);have h:=hr x ym;rw[hx] at h;obtain⟨cs,hr,hv⟩:=h;have hv:_=Value.agg cs.toArray:=hv.elim (fun h=>h.2) (fun h=>by rw[hT] at h;cases h.1);obtain⟨fs,fd,h1,h2,h3,h4⟩:=zhv hf;have hfit:off+S.size<=cs.length:=by rw[T.len hr];exact L.fit
  have hp:=ziP (w:=w) (off:=off) ht S.sc S.pos hfit;refine⟨_,?_,zvg (L.get_ hr)⟩;unfold execOp;rw[ho];simp[Instr.field,Sem.run_bind,run_underlying h1,hv,h2,h3,h4,hp,asAgg]
theorem g_sindex {t:TypeId} {tx:ByteArray} {y:Operand} {i:UInt8} {c:UInt8} (ho:o.op = .index t (.const (.string tx)) y) (hy:fr.ev y = .val u8T i) (ht:J.P.underlying t=some .string) (hc:tx[i.toNat]?=some c):OpG J o fr hp (.val u8T c):=by
  refine .of_run (fun {_ _ a w} s hr _=>?_) (fun _ _=>trivial);have h':=hr y ym;rw[hy] at h';refine⟨.int .u8 c.toNat,?_,zrX.2 rfl⟩;have he:a.eval (.const (.string tx)) = .string tx:=rfl;unfold execOp;rw[ho];simp[Instr.index,asIntOf,Sem.run_bind,run_underlying ht,zrX.1 h',he,hc]
theorem zdU {t:TypeId} {tx:ByteArray} {y:Operand} {i:UInt8} (f:Nat->UInt8) (ho:o.op = .index t (.const (.string tx)) y) (hy:fr.ev y = .val u8T i) (ht:J.P.underlying t=some .string) (hc:∀n:Nat,n<256->tx[n]?=some (f n)):OpG J o fr hp (.val u8T (f i.toNat)) :=
  g_sindex ho hy ht (hc _ i.toNat_lt)
theorem zcL {e n:Nat} {l:List α} (h:SimH J nx ρ hp w) (hn:hp n = .row e T l) (h0:0<l.length):∃g cap cur xs,ρ n = .slice (some ⟨g,0,none⟩) l.length cap/\w.heap[g]?=some (.cells cur e (0,0))/\l.length<=cap/\cap<=maxLen/\cur.size=cap*T.size/\cur.toList.take (l.length*T.size)=xs/\zai T (Uu J ρ hp) (Nn ρ hp) w l xs/\xs.length=l.length*T.size:=by
  have hh:=h.hrel n;rw[hn] at hh;obtain⟨xs,⟨h1,h2⟩,hr⟩:=hh;rcases h2 with ⟨_,h2⟩|⟨g,cap,cur,hv,_,hg,hle,hm,hs,ht⟩
  . omega
  exact⟨g,cap,cur,xs,hv,hg,hle,hm,hs,ht,hr,h1⟩
theorem zau {t e n:Nat} {x y:Operand} {j:Int} {i:Nat} {l:List α} (ho:o.op = .indexAddr t x y) (hx:fr.ev x = .own n) (hn:hp n = .row e T l) (hy:fr.ev y = .val i64T j) (hj:j=(i:Int)) (hs:sliceB J.P t e T.size=true) (hi:i<l.length):OpG J o fr hp (.eptr n i T.size 0):=by
  subst hj;refine .of_run (fun {_ _ _ w} s hr _=>?_) (fun h hn=>by have:=hn x ym;rw[hx] at this;exact this);have h:=hr x ym;have h':=hr y ym;rw[hx] at h;rw[hy] at h';have h:_=_:=h;obtain⟨g,cap,cur,xs,e1,_⟩:=zcL s hn ya;obtain⟨hs1,hs2,_⟩:=za4 hs w;refine⟨_,?_,g,_,_,e1,rfl⟩;unfold execOp;rw[ho];have hlt:(i:Int)<(l.length:Int):=ya;simp[Instr.indexAt,asIntOf,Sem.run_bind,run_underlying hs1,h,e1,(zO.1 h').1,hlt,hs2,hi]
theorem row_at {e n i:Nat} {l:List α} {c:α} (h:SimH J nx ρ hp w) (hn:hp n = .row e T l) (hc:l[i]?=some c):∃g len cap,ρ n = .slice (some ⟨g,0,none⟩) len cap/\T.at_ (Uu J ρ hp) (Nn ρ hp) w ((⟨g,0,none⟩:Addr).add (i*T.size)) c:=by
  have hi:i<l.length:=(ul.1 hc).1;obtain⟨g,cap,cur,xs,e1,hg,hle,hm,hs,ht,hr,hl⟩:=zcL h hn ya;refine⟨g,_,cap,e1,_,hr.get hc,fun j v hj=>?_⟩;rw[zbO,zgz,cell_of_row w g _ cur e (0,0) hg];rw[List.getElem?_take] at hj
  split at hj
  . rw[List.getElem?_drop,<-ht,List.getElem?_take] at hj
    split at hj
    . simpa using hj
    simp at hj
  simp at hj
theorem zc8 {t e n i sz off:Nat} {x:Operand} {l:List α} {c:α} (ho:o.op = .load t x) (hx:fr.ev x = .eptr n i sz off) (hn:hp n = .row e T l) (hsz:sz=T.size) (hc:l[i]?=some c) (L:Lens T off S get set) (ht:tyB J.P t S.size S.agg=true):OpG J o fr hp (.val S (get c)):=by
  subst hsz;refine .of_run (fun {_ _ _ w} s hr _=>?_) (fun _ _=>trivial);have h:=hr x ym;rw[hx] at h;obtain⟨g,len,cap,e1,e2⟩:=h;obtain⟨g',len',cap',e3,hat⟩:=row_at s hn hc;rw[e1] at e3;injection e3 with e3 _ _;injection e3 with e3;injection e3 with e3;subst e3;have h2:=zut L hat
  rw[zbO] at h2;obtain⟨v,hv,hx⟩:=zcD (P:=J.P) ht h2;refine⟨v,?_,hx⟩;unfold execOp;rw[ho];simp[Instr.loadAt,e2,Instr.sureAddr,Sem.run_bind,hv]
theorem zda {t e n i sz off:Nat} {x y:Operand} {l:List α} {c:α} {z:Z} (ho:o.op = .store t x y) (hd:o.dst=none) (hg:o.guard=none) (hx:fr.ev x = .eptr n i sz off) (hn:hp n = .row e T l) (hsz:sz=T.size) (hc:l[i]?=some c) (L:Lens T off S get set)
    (ht:tyB J.P t S.size S.agg=true) (hy:fr.ev y = .val S z) (H:AW J nx fr (hp.set n (.row e T (l.set i (set c z)))) (.ops ops rest::k)):AW J nx fr hp (.ops ops (o::rest)::k):=by
  subst hsz;intro a w ⟨ρ,s⟩;refine zU hg yq fun K hK=>?_
  have h:=zak s x;have h':=zak s y;rw[hx] at h;rw[hy] at h';obtain⟨g,len,cap,e1,e2⟩:=h;have hi:i<l.length:=(ul.1 hc).1;obtain⟨g',cap',cur,xs,e3,hgc,hle,hm,hcs,hxs,hr,hxl⟩:=zcL s.toSimH hn ya;rw[e1] at e3;injection e3 with e3 e4 e5;injection e3 with e3;injection e3 with e3;subst e3;subst e4;subst e5;have hyr:=GoT.val_cells h';have hlen:(a.eval y).cells.size=S.size:=by simpa using S.len hyr
  have hfit:=L.fit;have hpos:0<l.length:=ya;have hrow:i*T.size+T.size<=l.length*T.size:=by
    have:=mul_le_mul_right T.size (show i+1<=l.length by omega)
    rw[add_mul,one_mul] at this;exact this
  have hcl:l.length*T.size<=cap*T.size:=mul_le_mul_right _ hle;have hrun:=zb5 (w:=w) (off:=i*T.size+off) ht hlen (S.one hyr) hgc ya;have hex:(execOp a.eval o).run J.P w = .ok .skip (w.setRow g (cur.toList.take (i*T.size+off)++(a.eval y).cells.toList++cur.toList.drop (i*T.size+off+S.size)).toArray):=by
    unfold execOp;rw[ho];simp only[e2,Instr.storeAt,Instr.sureAddr,Sem.run_bind,Sem.run_pure,Result.andThen_ok,hrun]
  unfold Oper.wp;rw[hex,Oper.upon_skip,hd];refine hK _ _ ?_;refine H _ _ ⟨ρ,s.modify hn trivial trivial yw rfl rfl rfl (fun b hb=>setRow_other w g b _ (fun e=>hb yaq)) fun kp=>?_⟩
  letI:Inhabited α:=⟨c⟩
  have hA:(arrT l.length hpos T).rel (Uu J ρ hp) (Nn ρ hp) w l xs:=⟨rfl,hr⟩;have LL:=(Lens.elem (h:=hpos) hi T).comp L;have h2:=LL.set_ hA hyr;have hgd:l.getD i default=c:=by rw[uq,hc];rfl
  simp only[hgd] at h2;obtain⟨_,h2⟩:=h2;have hlen2:(l.set i (set c z)).length=l.length:=yw;refine⟨xs.take (i*T.size+off)++(a.eval y).cells.toList++xs.drop (i*T.size+off+S.size),⟨by rw[h2.len],?_⟩,h2.mono kp⟩;refine .inr ⟨g,cap,_,by rw[e1,hlen2],uf _,setRow_heap w g cur _ e _ hgc,by rw[hlen2];exact hle,hm,?_,?_⟩
  . simp only[size_toArray,ue,um,length_drop,length_toList,hlen];omega
  rw[hlen2,<-hxs];have hls:(a.eval y).cells.toList.length=S.size:=by simpa using hlen
  apply ext_getElem?;intro j;simp only[List.getElem?_append,List.getElem?_take,List.getElem?_drop,ue,um,length_drop,length_toList,hls];rw[min_eq_left (show i*T.size+off<=cur.size by omega),min_eq_left (show l.length*T.size<=cur.size by omega),min_eq_left (show i*T.size+off<=l.length*T.size by omega)];by_cases c1:j<l.length*T.size
  . rw[ut c1]
    by_cases c2:j<i*T.size+off
    . rw[ut ya,ut c2,ut c2,ut ya,ut c2,ut c2,ut c1]
    by_cases c3:j<i*T.size+off+S.size
    . rw[ut c3,ur c2,ut c3,ur c2]
    rw[ur c3,ur c3,ut ya]
  rw[ur c1];rw[ur ya,ur ya]
theorem zjK {U N:Nat->Prop} {x:α} {z:Value} (hz:∀U N w,T.rel U N w x z.cells.toList) (n:Nat):zai T U N w (List.replicate n x) ((List.replicate n z.cells.toList).flatten):=zqv (fun U N w=>hz U N w) U N w n
theorem zn3 (cs:Array Value) (h0:0<cs.size):∀n,(madeCells cs (n*cs.size)).toList=(List.replicate n cs.toList).flatten
  | 0=>by simp[madeCells]
  | n+1=>by
    have ih:=zn3 cs h0 n;simp only[madeCells,Array.toList_map,Array.toList_range] at ih ⊢;rw[add_mul,one_mul,List.range_add,List.map_append,ih,List.replicate_succ',List.flatten_append];congr 1;simp only[List.map_map,List.flatten_cons,List.flatten_nil,List.append_nil];apply ext_getElem?;intro i;simp only[List.getElem?_map,List.getElem?_range',Function.comp_def];by_cases c:i<cs.size
    . rw[List.getElem?_range c]
      simp[mod_eq_of_lt c,c]
    rw[List.getElem?_eq_none ybP,List.getElem?_eq_none ybP];rfl
theorem zrT (cs:Array Value) (h0:0<cs.size) (n:Nat):(Builtin.zeroCells cs n).toList=(List.replicate n cs.toList).flatten:=zn3 cs h0 n
theorem zwR {t e d bytes n:Nat} {x y:Operand} {z0:α} {i j:Int} (ho:o.op = .makeSlice t x y) (hd:o.dst=some d) (hg:o.guard=none) (hlt:Nat.blt d J.nt=true) (hx:fr.ev x = .val i64T i) (hy:fr.ev y = .val i64T j) (hi:i=(n:Int)) (hj:j=(n:Int)) (ht:rowB J.P t e T.size bytes=true) (hz:zaw J.P e T z0)
    (hb:bytes*n<=281474976710656/\n<=9223372036854775807/\n*T.size<=16777216) (H:AW J (nx+1) (fr.set d (.own nx)) (hp.set nx (.row e T (List.replicate n z0))) (.ops ops rest::k)):AW J nx fr hp (.ops ops (o::rest)::k):=by
  intro a w ⟨ρ,s⟩;subst hi;subst hj;refine zU hg yq fun K hK=>?_
  have h1:=zak s x;have h2:=zak s y;rw[hx] at h1;rw[hy] at h2;obtain⟨hu,inf,z,hinf,hzi,hsz,hby,hzs⟩:=zdk ht;obtain⟨z',hz',hzr⟩:=hz
  have:z=z':=by rw[hinf] at hz';simpa [hzi] using hz'
  subst this;obtain⟨w',hr,hown,hgr⟩:=run_makeSlice_full (P:=J.P) w 0 t e inf z T.size hu hinf hzi hsz .i64 .i64 n hb.2.2 (by rw[hby];exact hb.1) (by unfold maxLen;omega) (uf _);have hex:(execOp a.eval o).run J.P w = .ok (.value (.slice (some ⟨w.heap.size,0,none⟩) n n)) w':=by
    unfold execOp;rw[ho];simp only[(zO.1 h1).1,(zO.1 h2).1,Sem.run_bind,hr];rfl
  unfold Oper.wp;rw[hex,Oper.upon_value,hd];have hbl:Below w.heap.size w w':=⟨⟨hgr.os,hgr.tape,hgr.output,hgr.size,fun b hlt=>hgr.block b hlt yw⟩,znF _ hr⟩;have hsz':w.heap.size<w'.heap.size:=by
    rcases hown.2 with ⟨h,_⟩|⟨g,cap,cur,hv,_,hg,_⟩
    . cases h
    injection hv with hv _ _;injection hv with hv;injection hv with hv;rw[hv];exact(Array.getElem?_eq_some_iff.1 hg).1
  refine hK _ _ (H _ _ ⟨_,(s.bind (p:=.slice (some ⟨w.heap.size,0,none⟩) n n) (x:=.row e T (List.replicate n z0)) hbl (fun b hb'=>by simp only[zaH,Option.some.injEq] at hb';omega) fun kp=>⟨_,by rw[length_replicate];exact hown,?_⟩).put yK yU (lt_succ_self nx)⟩);rw[<-hzs,zn3 z.cells (by rw[hzs];exact T.pos)];exact zjK (fun U N w=>hzr U N w) n
section
variable {t e n lo len:Nat} {x y z:Operand} {l:List α} {i j:Int} {p q:Nat}
theorem zq2 {sz cap L g:Nat} (h:ρ n = .slice (some ⟨g,0,none⟩) L cap) (hc:lo+len<=cap):(AV.osub n sz lo len).rel ρ J.B (Uu J ρ hp) (Nn ρ hp) w (.slice (some (if cap=lo then ⟨g,0,none⟩ else (⟨g,0,none⟩:Addr).add (lo*sz))) len (cap-lo)):=⟨g,L,cap,h,hc,rfl⟩
theorem zpZ (ho:o.op = .slice t x none (some z) none) (hx:fr.ev x = .own n) (hn:hp n = .row e T l) (hz:fr.ev z = .val i64T j) (hs:sliceB J.P t e T.size=true) (hq:j=(q:Int)) (h:0<l.length/\q<=l.length):OpG J o fr hp (.osub n T.size 0 q):=by
  subst hq;refine .of_run (fun {_ _ _ w} s hr _=>?_) (fun h hn=>by have:=hn x ym;rw[hx] at this;exact this);have h1:=hr x ym;have h2:=hr z ym;rw[hx] at h1;rw[hz] at h2;have h1:_=_:=h1;obtain⟨g,cap,cur,xs,e1,hg,hle,hm,_⟩:=zcL s hn h.1;obtain⟨hs1,hs2,_⟩:=za4 hs w;refine⟨_,?_,zq2 (w:=w) (lo:=0) (len:=q) e1 ya⟩;unfold execOp;rw[ho];have hb:(q:Int)<=(cap:Int):=ya;have hq:q<=cap:=ya;simp[Instr.sliceAt,Instr.slice,Sem.run_bind,run_underlying hs1,h1,e1,(zO.1 h2).1,Instr.sliceBounds,Instr.sliceBound,asIntOf,hb,hs2,hq,add_zero]
theorem g_os_l (ho:o.op = .slice t x (some y) none none) (hx:fr.ev x = .own n) (hn:hp n = .row e T l) (hy:fr.ev y = .val i64T i) (hs:sliceB J.P t e T.size=true) (hp':i=(p:Int)) (h:0<l.length/\p<=l.length):OpG J o fr hp (.osub n T.size p (l.length-p)):=by
  subst hp';refine .of_run (fun {_ _ _ w} s hr _=>?_) (fun h hn=>by have:=hn x ym;rw[hx] at this;exact this);have h1:=hr x ym;have h2:=hr y ym;rw[hx] at h1;rw[hy] at h2;have h1:_=_:=h1;obtain⟨g,cap,cur,xs,e1,hg,hle,hm,_⟩:=zcL s hn h.1;obtain⟨hs1,hs2,_⟩:=za4 hs w;refine⟨_,?_,zq2 (w:=w) (lo:=p) (len:=l.length-p) e1 ya⟩;unfold execOp;rw[ho];have hb:(p:Int)<=(l.length:Int):=ya;simp[Instr.sliceAt,Instr.slice,Sem.run_bind,run_underlying hs1,h1,e1,(zO.1 h2).1,Instr.sliceBounds,Instr.sliceBound,asIntOf,hb,hs2,h.2]
  split<;>rfl
theorem g_os_lh (ho:o.op = .slice t x (some y) (some z) none) (hx:fr.ev x = .osub n T.size 0 len) (hn:hp n = .row e T l) (hy:fr.ev y = .val i64T i) (hz:fr.ev z = .val i64T j) (hs:sliceB J.P t e T.size=true) (hp':i=(p:Int)) (hq:j=(q:Int)) (h:0<l.length/\p<=q/\q<=l.length):OpG J o fr hp (.osub n T.size p (q-p)):=by
  subst hp';subst hq;refine .of_run (fun {_ _ _ w} s hr _=>?_) (fun h hn=>by have:=hn x ym;rw[hx] at this;exact this);have h1:=hr x ym;have h2:=hr y ym;have h3:=hr z ym;rw[hx] at h1;rw[hy] at h2;rw[hz] at h3;obtain⟨g,cap,cur,xs,e1,hg,hle,hm,_⟩:=zcL s hn h.1;obtain⟨g',L',cap',e2,hc,e3⟩:=h1;rw[e1] at e2;injection e2 with e2 e4 e5;injection e2 with e2;injection e2 with e2;subst e2;subst e4;subst e5;obtain⟨hs1,hs2,_⟩:=za4 hs w;refine⟨_,?_,zq2 (w:=w) (lo:=p) (len:=q-p) e1 ya⟩;have hb:(q:Int)<=(cap:Int):=ya;have hb2:q<=cap:=ya;have hc0:cap≠0:=ya;unfold execOp;rw[ho];have e3':(if cap=0 then (⟨g,0,none⟩:Addr) else (⟨g,0,none⟩:Addr).add (0*T.size))=⟨g,0,none⟩:=by rw[ur hc0,zero_mul,add_zero]
  rw[e3',sub_zero] at e3;simp[Instr.sliceAt,Instr.slice,Sem.run_bind,run_underlying hs1,e3,(zO.1 h2).1,(zO.1 h3).1,Instr.sliceBounds,Instr.sliceBound,asIntOf,hb,hb2,hs2,h.2.1]
  split<;>rfl
end
theorem g_os_chk {t e n:Nat} {x y z m:Operand} {l:List α} {i j c:Int} {p q r:Nat} (ho:o.op = .slice t x (some y) (some z) (some m)) (hx:fr.ev x = .own n) (hn:hp n = .row e T l) (hy:fr.ev y = .val i64T i) (hz:fr.ev z = .val i64T j) (hm':fr.ev m = .val i64T c) (hs:sliceB J.P t e T.size=true)
    (hp':i=(p:Int)) (hq:j=(q:Int)) (hr':c=(r:Int)) (h:0<l.length/\p<=q/\q<=r/\r<=l.length):OpG J o fr hp .idk:=by
  subst hp';subst hq;subst hr';refine .of_run (fun {_ _ _ w} s hr _=>?_) (fun _ _=>trivial);have h1:=hr x ym;have h2:=hr y ym;have h3:=hr z ym;have h4:=hr m ym;rw[hx] at h1;rw[hy] at h2;rw[hz] at h3;rw[hm'] at h4;have h1:_=_:=h1;obtain⟨g,cap,cur,xs,e1,hg,hle,hm,_⟩:=zcL s hn h.1;obtain⟨hs1,hs2,_⟩:=za4 hs w;have hb:(r:Int)<=(cap:Int):=ya;have hb2:r<=cap:=ya;refine⟨.slice (if r=p then some ⟨g,0,none⟩ else some ((⟨g,0,none⟩:Addr).add (p*T.size))) (q-p) (r-p),?_,trivial⟩;unfold execOp;rw[ho];simp[Instr.sliceAt,Instr.slice,Sem.run_bind,run_underlying hs1,h1,e1,(zO.1 h2).1,(zO.1 h3).1,(zO.1 h4).1,Instr.sliceBounds,Instr.sliceBound,asIntOf,hb,hb2,hs2,h.2.1,h.2.2.1]
theorem g_len_s {t:TypeId} {x:Operand} {n sz lo len:Nat} (ho:o.op = .call { callee:=.builtin .len,args:=#[x],argTypes:=#[t] }) (hx:fr.ev x = .osub n sz lo len) (hl:len<=9223372036854775807) (hs:(match J.P.underlying t with|some (.slice _)=>true|_=>false)=true):OpG J o fr hp (.val i64T len):=by
  refine .of_run (fun {_ ρ a w} s hr _=>?_) (fun _ _=>trivial);have h:=hr x yy;rw[hx] at h;obtain⟨g,L,cap,e1,hc,e2⟩:=h;refine⟨_,?_,zO.2 ⟨rfl,by rw[zdo];omega⟩⟩;cases hu:J.P.underlying t with
  | none=>simp[hu] at hs
  | some d =>
    cases d<;>simp[hu] at hs;unfold execOp;rw[ho];simp[resolve,invoke,builtin,Builtin.len_,e2,Sem.run_bind,run_underlying hu,goInt]
theorem zeb {t:TypeId} {x:Operand} (ho:o.op = .call { callee:=.builtin .len,args:=#[x],argTypes:=#[t] }) (hx:fr.ev x = .lit (.slice none 0 0)) (hs:(match J.P.underlying t with|some (.slice _)=>true|_=>false)=true):OpG J o fr hp (.val i64T 0):=by
  refine .of_run (fun {_ ρ a w} s hr _=>?_) (fun _ _=>trivial);have h:=hr x yy;rw[hx] at h;have h:_=_:=h;refine⟨_,?_,zO.2 ⟨rfl,by rw[zdo];omega⟩⟩;cases hu:J.P.underlying t with
  | none=>simp[hu] at hs
  | some d =>
    cases d<;>simp[hu] at hs;unfold execOp;rw[ho];simp[resolve,invoke,builtin,Builtin.len_,h,Sem.run_bind,run_underlying hu,goInt]
theorem zkU {t:TypeId} {x:Operand} (ho:o.op = .call { callee:=.builtin .cap,args:=#[x],argTypes:=#[t] }) (hx:fr.ev x = .lit (.slice none 0 0)) (hs:(match J.P.underlying t with|some (.slice _)=>true|_=>false)=true):OpG J o fr hp (.val i64T 0):=by
  refine .of_run (fun {_ ρ a w} s hr _=>?_) (fun _ _=>trivial);have h:=hr x yy;rw[hx] at h;have h:_=_:=h;refine⟨_,?_,zO.2 ⟨rfl,by rw[zdo];omega⟩⟩;cases hu:J.P.underlying t with
  | none=>simp[hu] at hs
  | some d =>
    cases d<;>simp[hu] at hs;unfold execOp;rw[ho];simp[resolve,invoke,builtin,Builtin.cap_,h,Sem.run_bind,run_underlying hu,goInt]
theorem zhr {t e:Nat} {x z:Operand} {sz:Nat} {j:Int} (ho:o.op = .slice t x none (some z) none) (hx:fr.ev x = .lit (.slice none 0 0)) (hz:fr.ev z = .val i64T j) (hj:j=0) (hs:sliceB J.P t e sz=true):OpG J o fr hp (.lit (.slice none 0 0)):=by
  subst hj;refine .of_run (fun {_ _ _ w} s hr _=>?_) (fun _ _=>trivial);have h1:=hr x ym;have h2:=hr z ym;rw[hx] at h1;rw[hz] at h2;have h1:_=_:=h1;obtain⟨hs1,hs2,_⟩:=za4 hs w;refine⟨_,?_,rfl⟩;unfold execOp;rw[ho];simp[Instr.sliceAt,Instr.slice,Sem.run_bind,run_underlying hs1,h1,(zO.1 h2).1,Instr.sliceBounds,Instr.sliceBound,asIntOf,hs2]
theorem ztP {s x : Operand} {t e n d bytes p q m : Nat} {l : List α} (ho : o.op = .call { callee := .builtin .append, args := #[s, x], argTypes := #[t, t] }) (hd : o.dst = some d) (hg : o.guard = none) (hlt : Nat.blt d J.nt = true)
    (hs:fr.ev s = .osub n T.size 0 p) (hx:fr.ev x = .osub n T.size q m) (hn:hp n = .row e T l) (ht:rowB J.P t e T.size bytes=true) (hlen:0<l.length/\p<=q/\q+m=l.length)
    (H:AW J nx (fr.set d (.osub n T.size 0 (p+m))) (hp.set n (.row e T (l.take p++l.drop q++l.drop (p+m)))) (.ops ops rest::k)):AW J nx fr hp (.ops ops (o::rest)::k):=by
  intro a w ⟨ρ,h⟩;refine zU hg yq fun K hK=>?_
  have hsv:=zak h s;have hxv:=zak h x;rw[hs] at hsv;rw[hx] at hxv;obtain⟨g,cap,cur,xs,e1,hgc,hle,hm,hcs,hxs,hr,hxl⟩:=zcL h.toSimH hn hlen.1;obtain⟨hu,i,z,hi,hz,hsz,hby,hzs⟩:=zdk ht;have hTpos:=T.pos;obtain⟨g1,L1,c1,f1,f2,f3⟩:=hsv;obtain⟨g2,L2,c2,k1,k2,k3⟩:=hxv;rw[e1] at f1 k1;injection f1 with f1 f4 f5;injection f1 with f1;injection f1 with f1;injection k1 with k1 k4 k5;injection k1 with k1;injection k1 with k1;subst f1;subst f4;subst f5;subst k1;subst k4;subst k5;have hc0:cap≠0:=ya;rw[ur hc0,zero_mul,add_zero,sub_zero] at f3;have hmul:p*T.size+m*T.size<=cap*T.size:=by rw[<-add_mul];exact mul_le_mul_right _ ya
  have hqm:q*T.size+m*T.size=l.length*T.size:=by rw[<-add_mul,hlen.2.2]
  have hpq:p*T.size<=q*T.size:=mul_le_mul_right _ hlen.2.1;have hlc:l.length*T.size<=cap*T.size:=mul_le_mul_right _ hle;have hds:zai T (Uu J ρ hp) (Nn ρ hp) w (l.drop q) (xs.drop (q*T.size)):=hr.drop q;have hdl:(xs.drop (q*T.size)).length=m*T.size:=by rw[length_drop,hxl];omega
  have hrun:(Builtin.append_ #[t,t] o.type #[a.eval s,a.eval x]).run J.P w = .ok (.slice (some ⟨g,0,none⟩) (p+m) cap) (w.setRow g (cur.toList.take (p*T.size)++xs.drop (q*T.size)++cur.toList.drop (p*T.size+m*T.size)).toArray):=by
    have:=run_append_room (P:=J.P) w t o.type e i hu hi g p cap cur hgc (if cap=q then ⟨g,0,none⟩ else (⟨g,0,none⟩:Addr).add (q*T.size)) m (cap-q) (xs.drop (q*T.size)) (by rw[hsz];exact hdl) (fun j u hj=>by
      by_cases c:cap=q
      . exfalso
        have:m=0:=ya
        have h0:(xs.drop (q*T.size)).length=0:=by rw[hdl,this,zero_mul]
        rw[List.length_eq_zero_iff.1 h0] at hj;simp at hj
      rw[ur c,zbO,zgz,cell_of_row w g _ cur e (0,0) hgc];rw[List.getElem?_drop,<-hxs,List.getElem?_take] at hj
      split at hj
      . simpa using hj
      simp at hj) hds.one ya (by rw[hsz,hdl,hcs];exact hmul)
    rw[hsz,hdl] at this;rw[f3,k3];exact this
  unfold Oper.wp;rw[zc1 ho hrun,Oper.upon_value,hd];have hll:(l.take p++l.drop q++l.drop (p+m)).length=l.length:=yB;refine hK _ _ (H _ _ ⟨ρ,SimR.put (x:=.osub n T.size 0 (p+m)) (h.modify (w':=w.setRow g (cur.toList.take (p*T.size)++xs.drop (q*T.size)++cur.toList.drop (p*T.size+m*T.size)).toArray) (x:=.row e T (l.take p++l.drop q++l.drop (p+m))) hn trivial trivial yw rfl rfl rfl (fun b hb=>setRow_other w g b _ (fun e=>hb yaq)) fun kp=>?_) yK ⟨g,l.length,cap,e1,by omega,by rw[ur hc0,zero_mul,add_zero,sub_zero]⟩ (by
    show n<nx;exact lt_of_not_le fun hle=>by
      have:=h.hnx n hle
      rw[hn] at this;cases this)⟩)
  have e5:(p+m)*T.size=p*T.size+m*T.size:=add_mul ..;refine⟨xs.take (p*T.size)++xs.drop (q*T.size)++xs.drop ((p+m)*T.size),⟨?_,.inr ⟨g,cap,_,by rw[e1,hll],uf _,setRow_heap w g cur _ e _ hgc,by rw[hll];exact hle,hm,?_,?_⟩⟩,(((hr.take p).append hds).append (hr.drop (p+m))).mono kp⟩
  . rw[hll];simp only[ue,um,length_drop,hxl];rw[e5];omega
  . simp only[size_toArray,ue,um,length_toList,length_drop,hdl,hxl]
    omega
  rw[hll];rw[<-hxs,e5];apply ext_getElem?;intro j;simp only[List.getElem?_append,List.getElem?_take,List.getElem?_drop,ue,um,length_drop,length_toList];rw[hcs,min_eq_left (show p*T.size<=cap*T.size by omega),min_eq_left (show l.length*T.size<=cap*T.size by omega),min_eq_left (show p*T.size<=l.length*T.size by omega)];have e6:l.length*T.size-q*T.size=m*T.size:=ya;rw[e6];by_cases c1:j<l.length*T.size
  . rw[ut c1]
    by_cases c2:j<p*T.size
    . rw[ut ya,ut c2,ut c2,ut ya,ut c2,ut c2,ut c1]
    by_cases c3:j<p*T.size+m*T.size
    . rw[ut c3,ur c2,ut c3,ur c2]
    rw[ur c3,ur c3,ut ya]
  rw[ur c1,ur ya,ur ya]
theorem zrO {s x : Operand} {t e n d bytes p : Nat} {b : Bool} {l ys : List α} (ho : o.op = .call { callee := .builtin .append, args := #[s, x], argTypes := #[t, t] }) (hd : o.dst = some d) (hg : o.guard = none) (hlt : Nat.blt d J.nt = true)
    (hs:fr.ev s = .osub n T.size 0 p) (hx:fr.ev x = .val (slT b T) ys) (hn:hp n = .row e T l) (ht:rowB J.P t e T.size bytes=true) (hlen:0<ys.length/\p+ys.length<=l.length)
    (H:AW J nx (fr.set d (.osub n T.size 0 (p+ys.length))) (hp.set n (.row e T (l.take p++ys++l.drop (p+ys.length)))) (.ops ops rest::k)):AW J nx fr hp (.ops ops (o::rest)::k):=by
  intro a w ⟨ρ,h⟩;refine zU hg yq fun K hK=>?_
  have hsv:=zak h s;have hxv:=zak h x;rw[hs] at hsv;rw[hx] at hxv;obtain⟨g,cap,cur,xs,e1,hgc,hle,hm,hcs,hxs,hr,hxl⟩:=zcL h.toSimH hn ya;obtain⟨hu,i,z,hi,hz,hsz,hby,hzs⟩:=zdk ht;have hTpos:=T.pos;obtain⟨g1,L1,c1,f1,f2,f3⟩:=hsv;rw[e1] at f1;injection f1 with f1 f4 f5;injection f1 with f1;injection f1 with f1;subst f1;subst f4;subst f5;have hc0:cap≠0:=ya;rw[ur hc0,zero_mul,add_zero,sub_zero] at f3;have hmul:p*T.size+ys.length*T.size<=l.length*T.size:=by rw[<-add_mul];exact mul_le_mul_right _ hlen.2
  have hlc:l.length*T.size<=cap*T.size:=mul_le_mul_right _ hle;obtain⟨ad,c,ds,hxe,hds,hcell⟩:∃ad c ds,a.eval x = .slice (some ad) ys.length c/\zai T (Uu J ρ hp) (Nn ρ hp) w ys ds/\∀j v,ds[j]?=some v->w.cell? (ad.add j)=some v:=by
    rcases zke hxv with ⟨c,h0,_⟩|⟨ad,c,ds,h1,h2,h3⟩
    . rw[h0] at hlen;simp at hlen
    exact⟨ad,c,ds,h1,h2,h3⟩
  have hdl:ds.length=ys.length*T.size:=hds.len;have hrun:(Builtin.append_ #[t,t] o.type #[a.eval s,a.eval x]).run J.P w = .ok (.slice (some ⟨g,0,none⟩) (p+ys.length) cap) (w.setRow g (cur.toList.take (p*T.size)++ds++cur.toList.drop (p*T.size+ys.length*T.size)).toArray):=by
    have:=run_append_room (P:=J.P) w t o.type e i hu hi g p cap cur hgc ad ys.length c ds (by rw[hsz];exact hdl) hcell hds.one ya (by rw[hsz,hdl,hcs];omega)
    rw[hsz,hdl] at this;rw[f3,hxe];exact this
  unfold Oper.wp;rw[zc1 ho hrun,Oper.upon_value,hd];have hll:(l.take p++ys++l.drop (p+ys.length)).length=l.length:=yB;refine hK _ _ (H _ _ ⟨ρ,SimR.put (x:=.osub n T.size 0 (p+ys.length)) (h.modify (w':=w.setRow g (cur.toList.take (p*T.size)++ds++cur.toList.drop (p*T.size+ys.length*T.size)).toArray) (x:=.row e T (l.take p++ys++l.drop (p+ys.length))) hn trivial trivial yw rfl rfl rfl (fun b hb=>setRow_other w g b _ (fun e=>hb yaq)) fun kp=>?_) yK ⟨g,l.length,cap,e1,by omega,by rw[ur hc0,zero_mul,add_zero,sub_zero]⟩ (by
    show n<nx;exact lt_of_not_le fun hle=>by
      have:=h.hnx n hle
      rw[hn] at this;cases this)⟩)
  have e5:(p+ys.length)*T.size=p*T.size+ys.length*T.size:=add_mul ..;refine⟨xs.take (p*T.size)++ds++xs.drop ((p+ys.length)*T.size),⟨?_,.inr ⟨g,cap,_,by rw[e1,hll],uf _,setRow_heap w g cur _ e _ hgc,by rw[hll];exact hle,hm,?_,?_⟩⟩,(((hr.take p).append hds).append (hr.drop (p+ys.length))).mono kp⟩
  . rw[hll];simp only[ue,um,length_drop,hxl];rw[e5];omega
  . simp only[size_toArray,ue,um,length_toList,length_drop,hdl,hxl]
    omega
  rw[hll];rw[<-hxs,e5];apply ext_getElem?;intro j;simp only[List.getElem?_append,List.getElem?_take,List.getElem?_drop,ue,um,length_drop,length_toList];rw[hcs,min_eq_left (show p*T.size<=cap*T.size by omega),min_eq_left (show l.length*T.size<=cap*T.size by omega),min_eq_left (show p*T.size<=l.length*T.size by omega)];rw[hdl];by_cases c1:j<l.length*T.size
  . rw[ut c1]
    by_cases c2:j<p*T.size
    . rw[ut ya,ut c2,ut c2,ut ya,ut c2,ut c2,ut c1]
    by_cases c3:j<p*T.size+ys.length*T.size
    . rw[ut c3,ur c2,ut c3,ur c2]
    rw[ur c3,ur c3,ut ya]
  rw[ur c1,ur ya,ur ya]
theorem run_clear {P:Program} {t ty e:TypeId} {i:TypeInfo} {z:Value} (ht:P.underlying t=some (.slice e)) (hi:P.info? e=some i) (hz:i.zero=some z) (hzs:z.cells.size=i.size) (hp':0<i.size) {g lo len cap:Nat} {cur:Array Value} (hgc:w.heap[g]?=some (.cells cur e (0,0))) (hlen:0<len) (hfit:lo+len*i.size<=cur.size) (h1:∀u∈z.cells.toList,u.oneCell'=true) :
    (Builtin.clear_ #[t] ty #[.slice (some ((⟨g,0,none⟩:Addr).add lo)) len cap]).run P w = .ok (.tuple #[]) (w.setRow g (cur.toList.take lo++(List.replicate len z.cells.toList).flatten++cur.toList.drop (lo+len*i.size)).toArray):=by
  have hzero:(zeroValue e).run P w = .ok z w:=by simp[zeroValue,typeInfo,hi,hz]
  have hfl:=zrT z.cells ya len;have hl:((List.replicate len z.cells.toList).flatten).length=len*i.size:=by simp[hzs]
  have hst:=run_storeCells_at P g lo e ((List.replicate len z.cells.toList).flatten) 0 cur w hgc (by rw[hl];simpa using hfit) (fun v hv=>by
    obtain⟨x,hx,hv⟩:=List.mem_flatten.1 hv;rw[(List.mem_replicate.1 hx).2] at hv;exact h1 v hv)
  rw[Nat.add_zero,hl] at hst;obtain⟨m,rfl⟩:∃m,len=m+1:=⟨len-1,by omega⟩;rw[zgz];simp only[Builtin.clear_,List.getElem?_toArray,List.getElem?_cons_zero,Sem.run_bind,run_underlying ht,Result.andThen_ok,hzero,hfl,hst,Sem.run_pure]
theorem zwU {x : Operand} {t e n bytes lo len : Nat} {z0 : α} {l : List α} (ho : o.op = .call { callee := .builtin .clear, args := #[x], argTypes := #[t] }) (hd : o.dst = none) (hg : o.guard = none) (hx : fr.ev x = .osub n T.size lo len) (hn : hp n = .row e T l) (ht : rowB J.P t e T.size bytes = true) (hz : zaw J.P e T z0)
    (hlen:0<len/\lo+len=l.length) (H:AW J nx fr (hp.set n (.row e T (l.take lo++List.replicate len z0))) (.ops ops rest::k)):AW J nx fr hp (.ops ops (o::rest)::k):=by
  intro a w ⟨ρ,h⟩;refine zU hg yq fun K hK=>?_
  have hxv:=zak h x;rw[hx] at hxv;obtain⟨g,cap,cur,xs,e1,hgc,hle,hm,hcs,hxs,hr,hxl⟩:=zcL h.toSimH hn ya;obtain⟨hu,i,z,hi,hzi,hsz,hby,hzs⟩:=zdk ht;obtain⟨z',hz',hzr⟩:=hz
  have:z=z':=by rw[hi] at hz';simpa [hzi] using hz'
  subst this;have hTpos:=T.pos;obtain⟨g2,L2,c2,k1,k2,k3⟩:=hxv;rw[e1] at k1;injection k1 with k1 k4 k5;injection k1 with k1;injection k1 with k1;subst k1;subst k4;subst k5;rw[ur ya] at k3;have e5:lo*T.size+len*T.size=l.length*T.size:=by rw[<-add_mul,hlen.2]
  have hlc:l.length*T.size<=cap*T.size:=mul_le_mul_right _ hle;have hrun:=run_clear (ty:=o.type) (cap:=cap-lo) hu hi hzi (by rw[hzs,hsz]) ya hgc hlen.1 (lo:=lo*T.size) (by rw[hsz];omega) (T.one (hzr (Uu J ρ hp) (Nn ρ hp) w));rw[hsz] at hrun;have hex:(execOp a.eval o).run J.P w = .ok (.value (.tuple #[])) (w.setRow g (cur.toList.take (lo*T.size)++(List.replicate len z.cells.toList).flatten++cur.toList.drop (lo*T.size+len*T.size)).toArray):=by
    unfold execOp;simp only[ho,resolve,invoke,builtin,Sem.run_bind,Sem.run_pure,Result.andThen_ok,List.map_toArray,map_cons,map_nil,k3,hrun]
  unfold Oper.wp;rw[hex,Oper.upon_value,hd];have hll:(l.take lo++List.replicate len z0).length=l.length:=yB;have hfl:((List.replicate len z.cells.toList).flatten).length=len*T.size:=by simp[hzs]
  refine hK _ _ (H _ _ ⟨ρ,h.modify (x:=.row e T (l.take lo++List.replicate len z0)) hn trivial trivial yw rfl rfl rfl (fun b hb=>setRow_other w g b _ (fun e=>hb yaq)) fun kp=>?_⟩);refine⟨xs.take (lo*T.size)++(List.replicate len z.cells.toList).flatten,⟨?_,.inr ⟨g,cap,_,by rw[e1,hll],uf _,setRow_heap w g cur _ e _ hgc,by rw[hll];exact hle,hm,?_,?_⟩⟩,((hr.take lo).append (zjK hzr len)).mono kp⟩
  . rw[hll];simp only[ue,um,hxl,hfl];omega
  . simp only[size_toArray,ue,um,length_toList,length_drop,hfl];omega
  rw[hll,<-hxs];apply ext_getElem?;intro j;simp only[List.getElem?_append,List.getElem?_take,List.getElem?_drop,ue,um,length_drop,length_toList,hfl];rw[hcs,min_eq_left (show lo*T.size<=cap*T.size by omega),min_eq_left (show l.length*T.size<=cap*T.size by omega),min_eq_left (show lo*T.size<=l.length*T.size by omega)];by_cases c1:j<l.length*T.size
  . rw[ut c1,ut ya]
    by_cases c2:j<lo*T.size
    . simp only[ut c2,ut c1]
    simp only[ur c2]
  rw[ur c1,ur ya,List.getElem?_eq_none (by rw[hfl];omega)]
theorem zq0 {e n len:Nat} {l:List α} {v:Value} (s:SimH J nx ρ hp w) (hn:hp n = .row e T l) (hl:len<=l.length) (hv:(AV.osub n T.size 0 len).rel ρ J.B (Uu J ρ hp) (Nn ρ hp) w v) (h0:0<l.length):∃xs,w.ownsRow 0 e T.size v len xs/\zaH v=zaH (ρ n)/\zai T (Uu J ρ hp) (Nn ρ hp) w (l.take len) xs:=by
  obtain⟨g,cap,cur,xs,e1,hgc,hle,hm,hcs,hxs,hr,hxl⟩:=zcL s hn h0;obtain⟨g2,L2,c2,k1,k2,k3⟩:=hv;rw[e1] at k1;injection k1 with k1 k4 k5;injection k1 with k1;injection k1 with k1;subst k1;subst k4;subst k5;rw[ur ya,zero_mul,add_zero,sub_zero] at k3;have hmul:len*T.size<=l.length*T.size:=mul_le_mul_right _ hl;refine⟨xs.take (len*T.size),⟨by rw[um,hxl];omega,.inr ⟨g,cap,cur,k3,uf _,hgc,by omega,hm,hcs,?_⟩⟩,by rw[k3,e1];rfl,hr.take len⟩;rw[<-hxs,List.take_take,min_eq_left hmul]
theorem znO [Strict T] {X:AV} {n e len:Nat} {l l':List α} (h:X = .osub n T.size 0 len) (hn:hp n = .row e T l) (hl:0<l.length/\len<=l.length) (he:l.take len=l'):zfC J hp X (.fresh e T l'):=fun nx ρ w v s hx=>by
  subst h;subst he;obtain⟨xs,ho,hb,hr⟩:=zq0 s hn hl.2 hx hl.1;have hlen:(l.take len).length=len:=yB;refine⟨xs,by rw[hlen];exact ho,fun b hb'=>s.new n b (by rw[hn];trivial) (by rw[<-hb];exact hb'),(hr.strict (N':=Uu J ρ hp)).mono ⟨fun _ h=>h,ug _,fun _ _ _=>rfl,fun b _ h=>h.imp id (fun h=>⟨n,by rw[hn];trivial,hb▸h⟩),fun b _ h=>h.imp id (fun h=>⟨n,by rw[hn];trivial,hb▸h⟩)⟩⟩
theorem zsA [Strict T] {X:AV} {n e len:Nat} {l l':List α} (h:X = .osub n T.size 0 len) (hn:hp n = .row e T l) (hl:0<l.length/\len<=l.length) (he:l.take len=l'):ziJ J hp .none_ X (.fresh e T l'):=fun nx ρ w v p hk hρ hgr s hx=>by
  subst h;subst he;obtain⟨xs,ho,hb,hr⟩:=zq0 s hn hl.2 hx hl.1;have hlen:(l.take len).length=len:=yB;have hlive:(hp n).live:=ycf;refine⟨xs,by rw[hlen];exact ho,fun b hb'=>?_,(hr.strict (N':=Uu J ρ hp)).mono ⟨fun _ h=>h,ug _,fun _ _ _=>rfl,fun b _ h=>h.elim (zqn (h':=.none_) hk hρ (fun h=>False.elim h) s b) (fun h=>.inr ⟨n,hlive,hb▸h⟩),fun b _ h=>h.elim (zqn (h':=.none_) hk hρ (fun h=>False.elim h) s b) (fun h=>.inr ⟨n,hlive,hb▸h⟩)⟩⟩
  have:=s.new n b hlive (by rw[<-hb];exact hb')
  refine⟨this.1.imp id fun h=>⟨by rw[hgr] at h;exact h,fun h=>h⟩,this.2⟩
theorem zlV {n e:Nat} {l:List α} (hn:hp n = .row e T l) (H:l.length<=9223372036854775807->AW J nx fr hp k):AW J nx fr hp k:=fun a w ⟨ρ,s⟩=>by
  refine H ?_ a w ⟨ρ,s⟩;by_cases c:0<l.length
  . obtain⟨g,cap,cur,xs,_,_,h1,h2,_⟩:=zcL s.toSimH hn c
    unfold maxLen at h2;omega
  omega
end
end Go.Ab
namespace Go.Ab
open Go.RowKit
section
variable {J:Job} {nx:Nat} {ρ:Nat->Value} {fr:Fr} {hp:Hp} {a:Act} {w w':World} {k:List It} {ops:Array Oper} {rest:List Oper} {o:Oper}
variable {α Z γ:Type} {T:GoT α} {S:GoT Z} {get:α->Z} {set:α->Z->α}
theorem zwg {R:Operand->α->Prop} {t e m:Nat} {hm:0<m} {ps:List (Nat×Operand)} {xs x0:List α} (ho:o.op = .build t ps.toArray) (ha:arrB J.P t m e T.size=true) (hz:zaw J.P t (arrT m hm T) x0) (hv:zrR R 0 ps xs) (hR:∀{ρ B U N w y x v},R y x->(fr.ev y).rel ρ B U N w v->T.val U N w x v) (hl:Nat.beq ps.length m=true):OpG J o fr hp (.val (arrT m hm T) xs):=by
  refine .of_run (fun {_ ρ a w} s hr _=>?_) (fun _ _=>trivial);obtain⟨h1,h2⟩:=zds ha w;obtain⟨z,hz1,hz2⟩:=hz;obtain⟨i,hi,hiz⟩:=bind_eq_some_iff.1 hz1;have hlen:=zmK hv;have hl:ps.length=m:=Nat.eq_of_beq_eq_true hl;have hsz:z.cells.size=m*T.size:=by
    have:=(arrT m hm T).len (hz2 (Uu J ρ hp) (Nn ρ hp) w)
    rw[length_toList] at this;exact this
  obtain⟨out,mid,f1,f2,f3⟩:=zm7 (w:=w) (a:=a) (U:=Uu J ρ hp) (N:=Nn ρ hp) ps xs 0 z.cells hv (fun p hp' x hx=>hR hx (hr p.2 yaH)) (by rw[hsz,<-hl,hlen];simp);have hout:out=mid:=by
    rw[f2]
    have:(0+xs.length)*T.size=z.cells.toList.length:=by
      have e1:z.cells.toList.length=m*T.size:=by rw[<-hsz];rfl
      rw[e1,zero_add,<-hlen,hl]
    rw[this];simp
  refine⟨.agg out.toArray,?_,out,⟨by rw[<-hlen,hl],by rw[hout];exact f3⟩,.inl ⟨rfl,rfl⟩⟩;have hzr:(zeroValue t).run J.P w = .ok z w:=by simp[zeroValue,typeInfo,hi,hiz]
  have hp:(ps.toArray.map fun (i,x)=>(i,a.eval x)).toList=ps.map fun p=>(p.1,a.eval p.2):=yw
  unfold execOp;rw[ho];simp only[Instr.build,Sem.run_bind,hzr,Result.andThen_ok,run_underlying h1,h2,hp,f1,Sem.run_pure]
theorem ziV {t e m:Nat} {hm:0<m} {ps:List (Nat×Operand)} {xs x0:List α} (ho:o.op = .build t ps.toArray) (ha:arrB J.P t m e T.size=true) (hz:zaw J.P t (arrT m hm T) x0) (hv:zw3 fr T 0 ps xs) (hl:Nat.beq ps.length m=true):OpG J o fr hp (.val (arrT m hm T) xs) :=
  zwg (R:=fun y x=>fr.ev y = .val T x) ho ha hz hv (fun hx h=>by rw[hx] at h;exact h) hl
theorem g_buildP {t e m:Nat} {hm:0<m} {ps:List (Nat×Operand)} {xs x0 ys:List α} (ho:o.op = .build t ps.toArray) (ha:arrB J.P t m e T.size=true) (hz:zaw J.P t (arrT m hm T) x0) (hv:zw3 fr T 0 ps xs) (hl:Nat.ble ps.length m=true) (hy:xs++x0.drop xs.length=ys):OpG J o fr hp (.val (arrT m hm T) ys):=by
  subst hy;refine .of_run (fun {_ ρ a w} s hr _=>?_) (fun _ _=>trivial);obtain⟨h1,h2⟩:=zds ha w;obtain⟨z,hz1,hz2⟩:=hz;obtain⟨i,hi,hiz⟩:=bind_eq_some_iff.1 hz1;have hlen:=zmK hv;have hl:ps.length<=m:=Nat.le_of_ble_eq_true hl;have hzw:=hz2 (Uu J ρ hp) (Nn ρ hp) w;have hsz:z.cells.size=m*T.size:=by
    have:=(arrT m hm T).len hzw
    rw[length_toList] at this;exact this
  obtain⟨out,mid,f1,f2,f3⟩:=zm7 (w:=w) (a:=a) (U:=Uu J ρ hp) (N:=Nn ρ hp) ps xs 0 z.cells hv (fun p hp' x hx=>by
    have:=hr p.2 yaH
    rw[hx] at this;exact this) (by rw[hsz,zero_add,<-hlen];exact mul_le_mul_right _ hl)
  have hout:out=mid++z.cells.toList.drop (xs.length*T.size):=by rw[f2];simp
  refine⟨.agg out.toArray,?_,out,⟨?_,?_⟩,.inl ⟨rfl,rfl⟩⟩
  . have hzr:(zeroValue t).run J.P w = .ok z w:=by simp[zeroValue,typeInfo,hi,hiz]
    have hp:(ps.toArray.map fun (i,x)=>(i,a.eval x)).toList=ps.map fun p=>(p.1,a.eval p.2):=yw
    unfold execOp;rw[ho];simp only[Instr.build,Sem.run_bind,hzr,Result.andThen_ok,run_underlying h1,h2,hp,f1,Sem.run_pure]
  . have:=hzw.1
    rw[ue,length_drop,this];omega
  rw[hout];exact zai.append f3 (hzw.2.drop xs.length)
theorem zrp {t e m sz:Nat} {x0:α} (ho:o.op = .build t #[]) (ha:arrB J.P t m e sz=true) (hz:zaw J.P t T x0) (hagg:T.agg=true):OpG J o fr hp (.val T x0):=by
  refine .of_run (fun {_ ρ a w} s hr _=>?_) (fun _ _=>trivial);obtain⟨h1,h2⟩:=zds ha w;obtain⟨z,hz1,hz2⟩:=hz;obtain⟨i,hi,hiz⟩:=bind_eq_some_iff.1 hz1;refine⟨.agg z.cells,?_,z.cells.toList,hz2 _ _ _,.inl ⟨hagg,by simp⟩⟩;have hzr:(zeroValue t).run J.P w = .ok z w:=by simp[zeroValue,typeInfo,hi,hiz]
  unfold execOp;rw[ho];simp[Instr.build,Sem.run_bind,hzr,run_underlying h1,h2,Instr.fill]
theorem zmO {t ty n tb:Nat} {fn:Func} {x:α} (h:SimR J nx ρ fr hp a w) (hfn:fn.results = #[.cell t ty]) (ht:fr t = .ptr n 0) (hn:hp n = .box tb T x) (hty:tyB J.P ty T.size T.agg=true):∃v,(results fn a.tmps).run J.P w = .ok v w/\T.val (Uu J ρ hp) (Nn ρ hp) w x v:=by
  have h1:=h.frel t;rw[ht] at h1;have h2:=zoN h.toSimH hn (Lens.self T) h1;obtain⟨ad,_,hv,hat⟩:=h2;obtain⟨v,hl,hx⟩:=zcD (P:=J.P) hty hat
  refine⟨v,?_,hx⟩;rw[results,hfn];have hv':a.tmps[t]?.getD undef=_:=(Array.getD_eq_getD_getElem? ..).symm.trans hv;simp[hv',asAddr,Sem.run_bind,hl]
theorem zrP [Strict T] {t ty n tb:Nat} {x y:α} (hR:J.R=za8 J.ext J.gr J.w0 (.val T y)) (hfn:J.fn.results = #[.cell t ty]) (ht:fr t = .ptr n 0) (hn:hp n = .box tb T x) (hty:tyB J.P ty T.size T.agg=true) (e:x=y) (hds:J.ds=[]/\J.rd=none:=by exact⟨rfl,rfl⟩):AR J nx fr hp:=by
  subst e;intro a w ⟨ρ,s⟩;obtain⟨v,h1,h2⟩:=zmO s hfn ht hn hty;refine J.fin hds.2 _ _ _ (s.defers.trans hds.1) h1 s.below ?_;rw[hR];exact⟨s.below,GoT.val_mono (zkK s.toSimH) (GoT.val_strict h2)⟩
theorem zE [Strict T] {t ty n tb:Nat} {x y:α} (hR:J.R=za8 J.ext J.gr J.w0 (.val T y)) (hfn:J.fn.results = #[.cell t ty]) (ht:fr t = .ptr n 0) (hn:hp n = .box tb T x) (hty:tyB J.P ty T.size T.agg=true) (e:x=y) (hds:J.ds=[]/\J.rd=none:=by exact⟨rfl,rfl⟩):AW J nx fr hp (.code .ret::k):=zaA (zrP hR hfn ht hn hty e hds)
def oneRes (tmps:Array Value):ResultVar->Sem Value
  | .tmp t=>pure (tmps.getD t undef)
  | .cell a t=>do loadVar t (<-asAddr (tmps.getD a undef))
def RvOk (J:Job) (fr:Fr) (hp:Hp) (r:ResultVar) (A:AV):Prop:=∀nx ρ a w,SimR J nx ρ fr hp a w->∃v,(oneRes a.tmps r).run J.P w = .ok v w/\A.rel ρ0 J.B J.ext J.ext w v
theorem zC {t:Nat} {A:AV} (h:zfC J hp (fr t) A):RvOk J fr hp (.tmp t) A:=fun _ _ _ _ s=>⟨_,rfl,h _ _ _ _ s.toSimH (s.frel t)⟩
theorem zm [Strict T] {t ty n tb:Nat} {x y:α} (ht:fr t = .ptr n 0) (hn:hp n = .box tb T x) (hty:tyB J.P ty T.size T.agg=true) (e:x=y):RvOk J fr hp (.cell t ty) (.val T y):=fun _ _ a _ h=>by
  subst e;have h1:=h.frel t;rw[ht] at h1;have h2:=zoN h.toSimH hn (Lens.self T) h1;obtain⟨ad,_,hv,hat⟩:=h2;obtain⟨v,hl,hx⟩:=zcD (P:=J.P) hty hat
  refine⟨v,?_,GoT.val_mono (zkK h.toSimH) (GoT.val_strict hx)⟩;have hv':a.tmps[t]?.getD undef=_:=(Array.getD_eq_getD_getElem? ..).symm.trans hv;unfold oneRes;simp[hv',asAddr,Sem.run_bind,hl]
theorem zpF (fn:Func) (tmps:Array Value):results fn tmps=(do let vs <-fn.results.mapM (oneRes tmps);pure (if h:vs.size=1 then vs[0] else .tuple vs)):=by
  unfold results;congr 2
theorem zld {r1 r2:ResultVar} {A B:AV} (hR:J.R=za8 J.ext J.gr J.w0 (.tup2 A B)) (hfn:J.fn.results = #[r1,r2]) (h1:RvOk J fr hp r1 A) (h2:RvOk J fr hp r2 B) (hds:J.ds=[]/\J.rd=none:=by exact⟨rfl,rfl⟩):AR J nx fr hp:=by
  intro a w ⟨ρ,s⟩;obtain⟨v1,e1,k1⟩:=h1 _ _ _ _ s;obtain⟨v2,e2,k2⟩:=h2 _ _ _ _ s;refine J.fin hds.2 _ _ (.tuple #[v1,v2]) (s.defers.trans hds.1) ?_ s.below ?_
  . rw[zpF,hfn];simp[Sem.run_bind,e1,e2]
  rw[hR];exact⟨s.below,v1,v2,rfl,k1,k2⟩
theorem zi {r1 r2:ResultVar} {A B:AV} (hR:J.R=za8 J.ext J.gr J.w0 (.tup2 A B)) (hfn:J.fn.results = #[r1,r2]) (h1:RvOk J fr hp r1 A) (h2:RvOk J fr hp r2 B) (hds:J.ds=[]/\J.rd=none:=by exact⟨rfl,rfl⟩):AW J nx fr hp (.code .ret::k):=zaA (zld hR hfn h1 h2 hds)
theorem ar_retr3 {r1 r2 r3:ResultVar} {A B C:AV} (hR:J.R=za8 J.ext J.gr J.w0 (.tup3 A B C)) (hfn:J.fn.results = #[r1,r2,r3]) (h1:RvOk J fr hp r1 A) (h2:RvOk J fr hp r2 B) (h3:RvOk J fr hp r3 C) (hds:J.ds=[]/\J.rd=none:=by exact⟨rfl,rfl⟩):AR J nx fr hp:=by
  intro a w ⟨ρ,s⟩;obtain⟨v1,e1,k1⟩:=h1 _ _ _ _ s;obtain⟨v2,e2,k2⟩:=h2 _ _ _ _ s;obtain⟨v3,e3,k3⟩:=h3 _ _ _ _ s;refine J.fin hds.2 _ _ (.tuple #[v1,v2,v3]) (s.defers.trans hds.1) ?_ s.below ?_
  . rw[zpF,hfn];simp[Sem.run_bind,e1,e2,e3]
  rw[hR];exact⟨s.below,v1,v2,v3,rfl,k1,k2,k3⟩
theorem zne {r1 r2 r3:ResultVar} {A B C:AV} (hR:J.R=za8 J.ext J.gr J.w0 (.tup3 A B C)) (hfn:J.fn.results = #[r1,r2,r3]) (h1:RvOk J fr hp r1 A) (h2:RvOk J fr hp r2 B) (h3:RvOk J fr hp r3 C) (hds:J.ds=[]/\J.rd=none:=by exact⟨rfl,rfl⟩):AW J nx fr hp (.code .ret::k):=zaA (ar_retr3 hR hfn h1 h2 h3 hds)
theorem zqr {s x : Operand} {t t2 e d bytes n : Nat} {j : Int} {z0 : α} (ho : o.op = .call { callee := .builtin .append, args := #[s, x], argTypes := #[t, t2] }) (hd : o.dst = some d) (hg : o.guard = none) (hlt : Nat.blt d J.nt = true)
    (hs:fr.ev s = .lit (.slice none 0 0)) (hx:fr.ev x = .val i64T j) (hj:j=(n:Int)) (ht:rowB J.P t e T.size bytes=true) (hz:zaw J.P e T z0) (h2:J.P.underlying t2=some (.int .i64)) (hlen:0<n/\n*bytes<=140737488355328/\n<=9223372036854775807)
    (H:AW J (nx+1) (fr.set d (.own nx)) (hp.set nx (.row e T (List.replicate n z0))) (.ops ops rest::k)):AW J nx fr hp (.ops ops (o::rest)::k):=by
  intro a w ⟨ρ,h⟩;subst hj;refine zU hg yq fun K hK=>?_
  have hsv:=zak h s;have hxv:=zak h x;rw[hs] at hsv;rw[hx] at hxv;have hsv:a.eval s = .slice none 0 0:=hsv;obtain⟨hu,i,z,hi,hzi,hsz,hby,hzs⟩:=zdk ht;obtain⟨z',hz',hzr⟩:=hz
  have:z=z':=by rw[hi] at hz';simpa [hzi] using hz'
  subst this;have hTpos:=T.pos;have hr:=Lib.run_append_nil_zeros (P:=J.P) w t t2 o.type e i z .i64 .i64 hu h2 hi hzi n hlen.1 ya ya (by rw[hby];omega);refine Lib.wp_append_run w s x t t2 ho _ _ hsv (zO.1 hxv).1 _ _ hr ?_;rw[hd];have hbl:Below w.heap.size w (w.drew.alloc (.cells (Builtin.zeroCells z.cells n++Builtin.zeroCells z.cells (grownCap w n 0 e-n)) e)):=by
    have h1:Below w.heap.size w w.drew:=⟨⟨rfl,rfl,rfl,ug _,fun _ _=>rfl⟩,le_succ _⟩;exact h1.trans (zbl w.drew _)
  have hcap:=grownCap_ge w n 0 e;have hcm:=grownCap_le_maxLen w n 0 e (by unfold maxLen;omega);have hflat:=zrT z.cells ya n;refine hK _ _ (H _ _ ⟨_,(h.bind (p:=.slice (some ⟨w.heap.size,0,none⟩) n (grownCap w n 0 e)) (x:=.row e T (List.replicate n z0)) hbl (fun b hb=>by simp only[zaH,Option.some.injEq] at hb;subst hb;exact⟨ug _,by simp⟩) fun kp=>⟨(List.replicate n z.cells.toList).flatten,⟨by simp[hzs],.inr ⟨w.heap.size,grownCap w n 0 e,_,by rw[length_replicate],uf _,heap_alloc_new w.drew _,by rw[length_replicate];exact hcap,?_,?_,?_⟩⟩,zjK hzr n⟩).put yK yU (lt_succ_self nx)⟩)
  . exact hcm
  . simp[Builtin.zeroCells,hzs]
    rw[<-add_mul];congr 1;omega
  rw[length_replicate,Array.toList_append,hflat,List.take_left' (by simp[hzs])]
theorem zop [Strict T] {e:TypeId} {l:List α} {ext:Nat->Prop} {w0 w:World} {v:Value} (hlt:∀b,ext b->b<w0.heap.size) (h:(AV.fresh e T l).rel ρ0 (fun b=>w0.heap.size<=b) ext ext w v):(AV.val (sl T) l).rel ρ0 (fun b=>w0.heap.size<=b) ext ext w v:=by
  obtain⟨xs,ho,hf,hr⟩:=h;refine zfL (b:=false) ho rfl (hr.mono ⟨fun _ h=>h,ug _,fun _ _ _=>rfl,fun _ _ h=>.inl h,fun _ _ h=>.inl h⟩) (fun g hg he=>?_)
  have:=(hf g hg).1
  have:=hlt g he
  omega
theorem zu [Strict T] {P:Program} {f:FuncId} {As:List AV} {e:TypeId} {l:List α} (h:Tells P f As (.fresh e T l)):Tells P f As (.val (sl T) l):=fun ext w vs hlt ha =>
  Calls.mono (h ext w vs hlt ha) fun en w' he=>by
    cases en with
    | returned v=>exact⟨he.1,zop hlt he.2⟩
    | panicked c=>exact he
    | outgrown=>exact he
theorem zbi [Strict T] {P:Program} {f:FuncId} {As:List AV} {e:TypeId} {l:List α} {X:AV} (h:Tells P f As (.tup2 (.fresh e T l) X)):Tells P f As (.tup2 (.val (sl T) l) X):=fun ext w vs hlt ha =>
  Calls.mono (h ext w vs hlt ha) fun en w' he=>by
    cases en with
    | returned v =>
      obtain⟨hb,x,y,rfl,hx,hy⟩:=he;exact⟨hb,x,y,rfl,zop hlt hx,hy⟩
    | panicked c=>exact he
    | outgrown=>exact he
theorem zps [Strict T] {P:Program} {f:FuncId} {As:List AV} {e:TypeId} {l:List α} {X Y:AV} (h:Tells P f As (.tup3 (.fresh e T l) X Y)):Tells P f As (.tup3 (.val (sl T) l) X Y):=fun ext w vs hlt ha =>
  Calls.mono (h ext w vs hlt ha) fun en w' he=>by
    cases en with
    | returned v =>
      obtain⟨hb,x,y,z,rfl,hx,hy⟩:=he;exact⟨hb,x,y,z,rfl,zop hlt hx,hy⟩
    | panicked c=>exact he
    | outgrown=>exact he
end
end Go.Ab
namespace Go.Ab
open Go.RowKit
def swp (m n i:Nat) (f:Nat->AV):AV:=bif Nat.beq i m then f n else bif Nat.beq i n then .idk else f i
def AV.ren (m n:Nat):AV->AV
  | .own i=>swp m n i fun j=>.own j
  | .ptr i off=>swp m n i fun j=>.ptr j off
  | .bnd f i=>swp m n i fun j=>.bnd f j
  | .eptr i a b c=>swp m n i fun j=>.eptr j a b c
  | .vw i a b=>swp m n i fun j=>.vw j a b
  | .osub i a b c=>swp m n i fun j=>.osub j a b c
  | .clo f caps=>bif caps.all (fun i=>!(Nat.beq i m) && !(Nat.beq i n)) then .clo f caps else .idk
  | .tup2 a b=>.tup2 (a.ren m n) (b.ren m n)
  | .cat a b=>.cat (a.ren m n) (b.ren m n)
  | .ifc t a=>.ifc t (a.ren m n)
  | .tup3 a b c=>.tup3 (a.ren m n) (b.ren m n) (c.ren m n)
  | x=>x
def Fr.ren (m n:Nat) (f:Fr):Fr:=fun t=>(f t).ren m n
def HE.ren (m n:Nat):HE->HE
  | .parts ty xs=>.parts ty (xs.map (AV.ren m n))
  | x=>x
def Hp.ren (m n:Nat) (f:Hp):Hp:=fun t=>(f t).ren m n
theorem HE.ren_live {m n:Nat}:∀{x:HE},(x.ren m n).live↔x.live
  | .none_=>Iff.rfl
  | .box ..=>Iff.rfl
  | .row ..=>Iff.rfl
  | .parts ..=>Iff.rfl
  | .objAt ..=>Iff.rfl
section
variable {J:Job} {nx:Nat} {ρ:Nat->Value} {fr:Fr} {hp:Hp} {a:Act} {w w':World} {k:List It}
theorem zlr {ρ ρ':Nat->Value} {B U N:Nat->Prop} {m n i:Nat} {f:Nat->AV} {v:Value} (hf:∀i j,ρ' j=ρ i->(f i).rel ρ B U N w v->(f j).rel ρ' B U N w v) (hn:ρ' n=ρ m) (hi:∀i,i≠n->ρ' i=ρ i) (h:(f i).rel ρ B U N w v):(swp m n i f).rel ρ' B U N w v:=by
  unfold swp;rw[zej (γ:=AV) i m];by_cases c:i=m
  . rw[ut c];subst c;exact hf _ _ hn h
  rw[ur c,zej (γ:=AV) i n];by_cases c':i=n
  . rw[ut c'];trivial
  rw[ur c'];exact hf _ _ (hi i c') h
theorem zgM {m n i:Nat} {f:Nat->AV} (hf:∀j,(f j).cells=1):(swp m n i f).cells=1:=by
  unfold swp;rw[zej (γ:=AV) i m];by_cases c:i=m
  . rw[ut c];exact hf _
  rw[ur c,zej (γ:=AV) i n];by_cases c':i=n
  . rw[ut c'];rfl
  rw[ur c'];exact hf _
theorem AV.ren_cells {m n:Nat}:∀{x:AV},(x.ren m n).cells=x.cells
  | .idk=>rfl
  | .lit _=>rfl
  | .val ..=>rfl
  | .rptr ..=>rfl
  | .fresh ..=>rfl
  | .fn1 ..=>rfl
  | .fn2 ..=>rfl
  | .own i=>zgM (f:=fun j=>.own j) fun _=>rfl
  | .ptr i off=>zgM (f:=fun j=>.ptr j off) fun _=>rfl
  | .bnd f i=>zgM (f:=fun j=>.bnd f j) fun _=>rfl
  | .eptr i a b c=>zgM (f:=fun j=>.eptr j a b c) fun _=>rfl
  | .vw i a b=>zgM (f:=fun j=>.vw j a b) fun _=>rfl
  | .osub i a b c=>zgM (f:=fun j=>.osub j a b c) fun _=>rfl
  | .clo f caps=>by
    show(AV.cells (bif caps.all (fun i=>!(Nat.beq i m) && !(Nat.beq i n)) then .clo f caps else .idk))=1;cases caps.all (fun i=>!(Nat.beq i m) && !(Nat.beq i n))<;>rfl
  | .tup2 ..=>rfl
  | .cat a b=>by show(a.ren m n).cells+(b.ren m n).cells=a.cells+b.cells;rw[AV.ren_cells,AV.ren_cells]
  | .ifc ..=>rfl
  | .tup3 ..=>rfl
theorem AV.rel_swp {ρ ρ':Nat->Value} {B U N:Nat->Prop} {m n:Nat} (hn:ρ' n=ρ m) (hi:∀i,i≠n->ρ' i=ρ i):∀{x:AV} {v:Value},x.rel ρ B U N w v->(x.ren m n).rel ρ' B U N w v
  | .idk,_,_=>trivial
  | .lit _,_,h=>h
  | .val ..,_,h=>h
  | .rptr ..,_,h=>h
  | .fresh ..,_,h=>h
  | .fn1 ..,_,h=>h
  | .fn2 ..,_,h=>h
  | .own i,_,h=>zlr (f:=fun j=>.own j) (fun i j e (h:_=_)=>show _=_ from h.trans e.symm) hn hi h
  | .ptr i off,_,h=>zlr (f:=fun j=>.ptr j off) (fun i j e h=>by obtain⟨g,e1,e2⟩:=h;exact⟨g,e.trans e1,e2⟩) hn hi h
  | .bnd f i,_,h=>zlr (f:=fun j=>.bnd f j) (fun i j e h=>by obtain⟨g,e1,e2⟩:=h;exact⟨g,e.trans e1,e2⟩) hn hi h
  | .eptr i a b c,_,h=>zlr (f:=fun j=>.eptr j a b c) (fun i j e h=>by obtain⟨g,l,cp,e1,e2⟩:=h;exact⟨g,l,cp,e.trans e1,e2⟩) hn hi h
  | .vw i a b,_,h=>zlr (f:=fun j=>.vw j a b) (fun i j e h=>by obtain⟨g,cp,e1,e2⟩:=h;exact⟨g,cp,e.trans e1,e2⟩) hn hi h
  | .osub i a b c,_,h=>zlr (f:=fun j=>.osub j a b c) (fun i j e h=>by obtain⟨g,l,cp,e1,e2⟩:=h;exact⟨g,l,cp,e.trans e1,e2⟩) hn hi h
  | .clo f caps,v,h=>by
    show(AV.rel ρ' B U N w (bif caps.all (fun i=>!(Nat.beq i m) && !(Nat.beq i n)) then .clo f caps else .idk) v);cases hc:caps.all (fun i=>!(Nat.beq i m) && !(Nat.beq i n)) with
    | false=>trivial
    | true =>
      have e:caps.map ρ'=caps.map ρ:=List.map_congr_left fun c hm=>hi c (fun e=>by
        have:=List.all_eq_true.1 hc c hm
        rw[e] at this;simp at this)
      show v = .func (.func f) #[] (caps.map ρ').toArray;rw[e];exact h
  | .tup2 a b,_,⟨x,y,e,h1,h2⟩=>⟨x,y,e,AV.rel_swp hn hi h1,AV.rel_swp hn hi h2⟩
  | .cat a b,_,⟨x,y,e,h1,h2,h3,h4⟩=>⟨x,y,e,AV.rel_swp hn hi h1,AV.rel_swp hn hi h2,⟨h3.1.trans AV.ren_cells.symm,h3.2.trans AV.ren_cells.symm⟩,h4⟩
  | .ifc _ a,_,⟨x,e,h1⟩=>⟨x,e,AV.rel_swp hn hi (x:=a) h1⟩
  | .tup3 a b c,_,⟨x,y,z,e,h1,h2,h3⟩=>⟨x,y,z,e,AV.rel_swp hn hi h1,AV.rel_swp hn hi h2,AV.rel_swp hn hi h3⟩
theorem zgL {nx' m n i:Nat} {f:Nat->AV} (hf:∀j,j<nx'->(f j).under nx') (hn:n<nx') (hi:i<nx'):(swp m n i f).under nx':=by
  unfold swp;rw[zej (γ:=AV) i m];by_cases c:i=m
  . rw[ut c];exact hf _ hn
  rw[ur c,zej (γ:=AV) i n];by_cases c':i=n
  . rw[ut c'];trivial
  rw[ur c'];exact hf _ hi
theorem AV.ren_under {nx' m n:Nat} (hn:n<nx'):∀{x:AV},x.under nx'->(x.ren m n).under nx'
  | .idk,_=>trivial
  | .lit _,_=>trivial
  | .val ..,_=>trivial
  | .rptr ..,_=>trivial
  | .fresh ..,h=>h.elim
  | .fn1 ..,_=>trivial
  | .fn2 ..,_=>trivial
  | .own i,h=>zgL (f:=fun j=>.own j) (fun _ h=>h) hn h
  | .ptr i off,h=>zgL (f:=fun j=>.ptr j off) (fun _ h=>h) hn h
  | .bnd f i,h=>zgL (f:=fun j=>.bnd f j) (fun _ h=>h) hn h
  | .eptr i a b c,h=>zgL (f:=fun j=>.eptr j a b c) (fun _ h=>h) hn h
  | .vw i a b,h=>zgL (f:=fun j=>.vw j a b) (fun _ h=>h) hn h
  | .osub i a b c,h=>zgL (f:=fun j=>.osub j a b c) (fun _ h=>h) hn h
  | .clo f caps,h=>by
    show(AV.under nx' (bif caps.all (fun i=>!(Nat.beq i m) && !(Nat.beq i n)) then .clo f caps else .idk));cases caps.all (fun i=>!(Nat.beq i m) && !(Nat.beq i n)) with
    | false=>trivial
    | true=>exact h
  | .tup2 a b,h=>⟨AV.ren_under hn h.1,AV.ren_under hn h.2⟩
  | .cat a b,h=>⟨AV.ren_under hn h.1,AV.ren_under hn h.2⟩
  | .ifc _ a,h=>AV.ren_under hn (x:=a) h
  | .tup3 a b c,h=>⟨AV.ren_under hn h.1,AV.ren_under hn h.2.1,AV.ren_under hn h.2.2⟩
theorem AV.relL_swp {ρ ρ':Nat->Value} {B U N:Nat->Prop} {m n:Nat} (hn:ρ' n=ρ m) (hi:∀i,i≠n->ρ' i=ρ i):∀{xs:List AV} {vs:List Value},AV.relL ρ B U N w xs vs->AV.relL ρ' B U N w (xs.map (AV.ren m n)) vs
  | [],_,h=>h
  | x::xs,_,⟨v,us,e,h1,h2,h3,h4⟩=>⟨v,us,e,AV.rel_swp hn hi h1,h2.trans AV.ren_cells.symm,h3,AV.relL_swp hn hi h4⟩
theorem HE.rel_swp {ρ ρ':Nat->Value} {B U N:Nat->Prop} {m n:Nat} {p:Value} (hn:ρ' n=ρ m) (hi:∀i,i≠n->ρ' i=ρ i):∀{x:HE},x.rel ρ B U N w p->(x.ren m n).rel ρ' B U N w p
  | .none_,_=>trivial
  | .box ..,h=>h
  | .row ..,h=>h
  | .objAt ..,h=>h
  | .parts ..,⟨g,vs,e,hg,hr⟩=>⟨g,vs,e,hg,AV.relL_swp hn hi hr⟩
theorem HE.ren_under {nx' m n:Nat} (hn:n<nx'):∀{x:HE},x.under nx'->(x.ren m n).under nx'
  | .none_,_=>trivial
  | .box ..,_=>trivial
  | .row ..,_=>trivial
  | .objAt ..,_=>trivial
  | .parts ty xs,h=>fun x hx=>by
    obtain⟨y,hy,rfl⟩:=mem_map.1 hx;exact AV.ren_under hn (h y hy)
theorem zeE (n:Nat) (H:AW J nx fr (hp.set n .none_) k):AW J nx fr hp k:=fun a w ⟨ρ,s⟩=>H a w ⟨ρ,s.drop n⟩
theorem za7 {α:Type} {T:GoT α} {d:Nat} (e:Nat) (hs:fr d = .lit (.slice none 0 0)) (H:AW J (nx+1) (fr.set d (.own nx)) (hp.set nx (.row e T [])) k):AW J nx fr hp k:=fun a w ⟨ρ,h⟩=>by
  have hv:=h.frel d;rw[hs] at hv;have s2:=h.bind (p:=.slice none 0 0) (x:=.row e T []) (Below.refl _ _) (fun b hb=>by cases hb) fun kp=>⟨[],World.ownsRow_nil w 0 e T.size,rfl⟩
  refine H _ _ ⟨_,{ s2.toSimH with size:=s2.size,defers:=s2.defers,frel:=fun t=>?_,fnx:=fun t=>?_,brel:=s2.brel }⟩
  . rw[zan]
    by_cases c:t=d
    . rw[ut c,c]
      show _=ren _ _ _ _;rw[show ren ρ nx (Value.slice none 0 0) nx=Value.slice none 0 0 by unfold ren;simp];exact hv
    rw[ur c];exact s2.frel t
  rw[zan];by_cases c:t=d
  . rw[ut c];exact lt_succ_self nx
  rw[ur c];exact s2.fnx t
theorem ztI {α:Type} {T:GoT α} {d n e sz len:Nat} {l:List α} (hd:fr d = .osub n sz 0 len) (hn:hp n = .row e T l) (hsz:sz=T.size) (hl:0<l.length/\len<=l.length)
    (H:AW J (nx+1) (fr.set d (.own nx)) ((hp.set n .none_).set nx (.row e T (l.take len))) k):AW J nx fr hp k:=fun a w ⟨ρ,s⟩=>by
  subst hsz;have hv:=s.frel d;rw[hd] at hv;obtain⟨v,hve⟩:∃v,v=a.tmps.getD d undef:=⟨_,rfl⟩;rw[<-hve] at hv;obtain⟨xs,ho,hb,hr⟩:=zq0 s.toSimH hn hl.2 hv hl.1;have hlv:(hp n).live:=ycf;have hnn:n<nx:=lt_of_not_le fun h=>by rw[s.hnx n h] at hlv;exact hlv
  have hnx0:¬(hp nx).live:=fun h=>by rw[s.hnx nx (ug _)] at h;exact h
  have e1:ren ρ nx v nx=v:=by unfold ren;rw[ut rfl]
  have e2:∀i,i≠nx->ren ρ nx v i=ρ i:=fun i hi=>by unfold ren;rw[ur hi]
  have hset:∀i,((hp.set n .none_).set nx (.row e T (l.take len))) i=if i=nx then .row e T (l.take len) else if i=n then .none_ else hp i:=fun i=>by rw[zn,zn]
  have hback:∀i b,(((hp.set n .none_).set nx (.row e T (l.take len))) i).live->zaH (ren ρ nx v i)=some b->∃j,(hp j).live/\zaH (ρ j)=some b/\((i=nx/\j=n)\/(i≠nx/\i≠n/\j=i)):=fun i b hl' hbk=>by
    rw[hset] at hl';by_cases c:i=nx
    . rw[c,e1,hb] at hbk;exact⟨n,hlv,hbk,.inl ⟨c,rfl⟩⟩
    rw[ur c] at hl';by_cases c':i=n
    . rw[ut c'] at hl';exact hl'.elim
    rw[ur c'] at hl';rw[e2 i c] at hbk;exact⟨i,hl',hbk,.inr ⟨c,c',rfl⟩⟩
  have hN:Nn (ren ρ nx v) ((hp.set n .none_).set nx (.row e T (l.take len)))=Nn ρ hp:=funext fun b=>propext (by
    constructor
    . rintro ⟨i,h1,h2⟩
      obtain⟨j,h3,h4,_⟩:=hback i b h1 h2;exact⟨j,h3,h4⟩
    rintro ⟨i,h1,h2⟩
    by_cases c:i=n
    . refine⟨nx,by rw[hset,ut rfl];trivial,?_⟩
      rw[e1,hb,<-c];exact h2
    have c':i≠nx:=fun h=>hnx0 (h▸h1)
    exact⟨i,by rw[hset,ur c',ur c];exact h1,by rw[e2 i c'];exact h2⟩)
  have hU:Uu J (ren ρ nx v) ((hp.set n .none_).set nx (.row e T (l.take len)))=Uu J ρ hp:=funext fun b=>by unfold Uu;rw[hN]
  refine H a w ⟨ren ρ nx v,{ kle:=Nat.le_succ_of_le s.kle,ble:=Nat.le_succ_of_le s.ble,named:=fun i hi=>(e2 i (by have:=s.kle;omega)).trans (s.named i hi),below:=s.below,hrel:=fun i=>?_,hun:=fun i=>?_,hnx:=fun i hi=>?_,new:=fun i b h1 h2=>?_,inj:=fun i j b h1 h2 h3 h4=>?_,size:=s.size,defers:=s.defers,frel:=fun t=>?_,fnx:=fun t=>?_,brel:=fun q hq t=>?_ }⟩
  . rw[hU,hN,hset]
    by_cases c:i=nx
    . rw[ut c,c,e1]
      have hlen:(l.take len).length=len:=yB;exact⟨xs,by rw[hlen];exact ho,hr⟩
    rw[ur c,e2 i c];by_cases c':i=n
    . rw[ut c'];trivial
    rw[ur c'];exact HE.rel_ren (nx:=nx) (fun m hm=>e2 m ya) (s.hun i) (s.hrel i)
  . rw[hset]
    by_cases c:i=nx
    . rw[ut c];trivial
    rw[ur c];by_cases c':i=n
    . rw[ut c'];trivial
    rw[ur c'];exact HE.under_mono (le_succ nx) (s.hun i)
  . rw[hset,ur ya,ur ya];exact s.hnx i ya
  . obtain⟨j,h3,h4,_⟩:=hback i b h1 h2
    exact s.new j b h3 h4
  . obtain⟨i',g1,g2,g3⟩:=hback i b h1 h3
    obtain⟨j',g4,g5,g6⟩:=hback j b h2 h4
    have:=s.inj i' j' b g1 g4 g2 g5
    omega
  . rw[hU,hN,zan]
    by_cases c:t=d
    . rw[ut c,c,<-hve];exact e1.symm
    rw[ur c];exact AV.rel_ren (fun m hm=>e2 m ya) (s.fnx t) (s.frel t)
  . rw[zan]
    by_cases c:t=d
    . rw[ut c];exact lt_succ_self nx
    rw[ur c];exact AV.under_mono (le_succ nx) (s.fnx t)
  rw[hU,hN];exact AV.rel_ren (nx:=J.bn) (fun m hm=>e2 m (by have:=s.ble;omega)) (J.bgb q hq t) (s.brel q hq t)
theorem zco (m n nx':Nat) {x:HE} (h0:hp n = .none_) (hm:hp m=x) (hne:Nat.beq m n=false) (hle:Nat.ble nx nx'=true) (hn:Nat.blt n nx'=true) (hk:Nat.ble (max J.kg J.bn) n=true) (H:AW J nx' (fr.ren m n) (Hp.ren m n ((hp.set m .none_).set n x)) k):AW J nx fr hp k:=fun a w ⟨ρ,s⟩=>by
  subst hm;have hle:nx<=nx':=by simpa using hle
  have hn:n<nx':=ycc;have hkb:max J.kg J.bn<=n:=Nat.le_of_ble_eq_true hk;have hk:J.kg<=n:=ya;have hne:m≠n:=fun e=>by rw[e] at hne;simp at hne
  obtain⟨ρ',hρ⟩:∃ρ':Nat->Value,ρ'=fun i=>if i=n then ρ m else ρ i:=⟨_,rfl⟩
  have e1:ρ' n=ρ m:=by rw[hρ];simp
  have e2:∀i,i≠n->ρ' i=ρ i:=fun i hi=>by rw[hρ];simp[hi]
  have hset:∀i,((hp.set m .none_).set n (hp m)) i=if i=n then hp m else if i=m then .none_ else hp i:=fun i=>by rw[zn,zn]
  have hback:∀i,(((hp.set m .none_).set n (hp m)) i).live->∃j,(hp j).live/\ρ' i=ρ j/\((i=n/\j=m)\/(i≠n/\i≠m/\j=i)):=fun i hl=>by
    rw[hset] at hl;by_cases c:i=n
    . rw[ut c] at hl;exact⟨m,hl,by rw[c,e1],.inl ⟨c,rfl⟩⟩
    rw[ur c] at hl;by_cases c':i=m
    . rw[ut c'] at hl;exact hl.elim
    rw[ur c'] at hl;exact⟨i,hl,e2 i c,.inr ⟨c,c',rfl⟩⟩
  have hN:∀b,Nn ρ' ((hp.set m .none_).set n (hp m)) b↔Nn ρ hp b:=fun b=>by
    constructor
    . rintro ⟨i,hl,hb⟩
      obtain⟨j,h1,h2,_⟩:=hback i hl;exact⟨j,h1,by rw[<-h2];exact hb⟩
    rintro ⟨i,hl,hb⟩
    by_cases c:i=m
    . exact⟨n,by rw[hset,ut rfl,<-c];exact hl,by rw[e1,<-c];exact hb⟩
    have hin:i≠n:=fun e=>by rw[e,h0] at hl;exact hl
    exact⟨i,by rw[hset,ur hin,ur c];exact hl,by rw[e2 i hin];exact hb⟩
  have hNe:Nn ρ' (Hp.ren m n ((hp.set m .none_).set n (hp m)))=Nn ρ hp:=funext fun b=>propext (Iff.trans ⟨fun ⟨i,h1,h2⟩=>⟨i,HE.ren_live.1 h1,h2⟩,fun ⟨i,h1,h2⟩=>⟨i,HE.ren_live.2 h1,h2⟩⟩ (hN b))
  have hUe:Uu J ρ' (Hp.ren m n ((hp.set m .none_).set n (hp m)))=Uu J ρ hp:=funext fun b=>by unfold Uu;rw[hNe]
  refine H a w ⟨ρ',{ kle:=Nat.le_trans s.kle hle,ble:=Nat.le_trans s.ble hle,brel:=fun q hq t=>?_,named:=fun i hi=>(e2 i ya).trans (s.named i hi),below:=s.below,hrel:=fun i=>?_,hun:=fun i=>?_,hnx:=fun i hi=>?_,new:=fun i b hl hb=>?_,inj:=fun i j b h1 h2 g1 g2=>?_,size:=s.size,defers:=s.defers,frel:=fun t=>?_,fnx:=fun t=>?_ }⟩
  . rw[hUe,hNe]
    show((((hp.set m .none_).set n (hp m)) i).ren m n).rel _ _ _ _ _ _;refine HE.rel_swp e1 e2 ?_;rw[hset];by_cases c:i=n
    . rw[ut c,c,e1];exact s.hrel m
    rw[ur c,e2 i c];by_cases c':i=m
    . rw[ut c'];trivial
    rw[ur c'];exact s.hrel i
  . refine HE.ren_under hn ?_
    rw[hset];by_cases c:i=n
    . rw[ut c];exact HE.under_mono hle (s.hun m)
    rw[ur c];by_cases c':i=m
    . rw[ut c'];trivial
    rw[ur c'];exact HE.under_mono hle (s.hun i)
  . show(((hp.set m .none_).set n (hp m)) i).ren m n = .none_
    rw[hset,ur ya]
    split
    . rfl
    rw[s.hnx i ya];rfl
  . obtain⟨j,h1,h2,_⟩:=hback i (HE.ren_live.1 hl)
    exact s.new j b h1 (by rw[<-h2];exact hb)
  . obtain⟨i',a1,a2,a3⟩:=hback i (HE.ren_live.1 h1)
    obtain⟨j',b1,b2,b3⟩:=hback j (HE.ren_live.1 h2)
    have:=s.inj i' j' b a1 b1 (by rw[<-a2];exact g1) (by rw[<-b2];exact g2)
    omega
  . rw[hUe,hNe];exact AV.rel_swp e1 e2 (s.frel t)
  . exact AV.ren_under hn (AV.under_mono hle (s.fnx t))
  rw[hUe,hNe];exact AV.rel_ren (nx:=J.bn) (fun i hi=>e2 i ya) (J.bgb q hq t) (s.brel q hq t)
end
end Go.Ab
