/- The program's structs, read as Lean structures. PRINTED BY gen_types.py. -/
import Derived.Test.YtmfgemnmelbflaaWr
namespace Go.Ab
set_option linter.unusedVariables false
set_option linter.unusedSimpArgs false

/-- A number below 2^256: its four parts, the lowest first. -/
abbrev Wide := List UInt64
def wideT : GoT Wide := arrT 4 (by decide) u64T
instance : Strict wideT := inferInstanceAs (Strict (arrT ..))
def zId : Id := List.replicate 32 0
def zIdC : List Value := (List.replicate 32 [Value.int .u8 0]).flatten
def zWide : Wide := List.replicate 4 0
def zWideC : List Value := (List.replicate 4 [Value.int .u64 0]).flatten
theorem zero_wide : Zero wideT zWide zWideC := zero_arr (by decide) zero_u64

structure In where
  tx : Id
  i : Int
  deriving DecidableEq, Inhabited

def inT : GoT In := viaT (pairT idT i64T) fun x => (x.tx, x.i)
instance : Strict inT := inferInstanceAs (Strict (viaT ..))
def In.mk_ (p : Id × Int) : In := ⟨p.1, p.2⟩
def zIn : In := ⟨zId, 0⟩
def zInC : List Value := zIdC ++ ([.int .i64 0])
theorem zero_In : Zero inT zIn zInC := zero_pair zero_id (zero_i64)
theorem eqx_In : ∀ x y : In, ((decide (x.tx = y.tx) && (decide (x.i = y.i) && true))) = decide (x = y) := fun x y => by cases x; cases y; simp [Bool.decide_and]
theorem L_In_tx : Lens inT 0 idT (fun x => x.tx) (fun x y => { x with tx := y }) := ((Lens.fst _ _).via (fun x : In => (x.tx, x.i)) In.mk_ (fun _ => rfl)).cast rfl (fun _ => rfl) (fun _ _ => rfl)
theorem L_In_i : Lens inT 32 i64T (fun x => x.i) (fun x y => { x with i := y }) := ((Lens.snd _ _).via (fun x : In => (x.tx, x.i)) In.mk_ (fun _ => rfl)).cast rfl (fun _ => rfl) (fun _ _ => rfl)

structure Out where
  v : Int
  to : Int
  deriving DecidableEq, Inhabited

def outT : GoT Out := viaT (pairT i64T i64T) fun x => (x.v, x.to)
instance : Strict outT := inferInstanceAs (Strict (viaT ..))
def Out.mk_ (p : Int × Int) : Out := ⟨p.1, p.2⟩
def zOut : Out := ⟨0, 0⟩
def zOutC : List Value := [.int .i64 0] ++ ([.int .i64 0])
theorem zero_Out : Zero outT zOut zOutC := zero_pair zero_i64 (zero_i64)
theorem eqx_Out : ∀ x y : Out, ((decide (x.v = y.v) && (decide (x.to = y.to) && true))) = decide (x = y) := fun x y => by cases x; cases y; simp [Bool.decide_and]
theorem L_Out_v : Lens outT 0 i64T (fun x => x.v) (fun x y => { x with v := y }) := ((Lens.fst _ _).via (fun x : Out => (x.v, x.to)) Out.mk_ (fun _ => rfl)).cast rfl (fun _ => rfl) (fun _ _ => rfl)
theorem L_Out_to : Lens outT 1 i64T (fun x => x.to) (fun x y => { x with to := y }) := ((Lens.snd _ _).via (fun x : Out => (x.v, x.to)) Out.mk_ (fun _ => rfl)).cast rfl (fun _ => rfl) (fun _ _ => rfl)

structure Tx where
  ins : List In
  outs : List Out
  deriving DecidableEq, Inhabited

def txT : GoT Tx := viaT (pairT (sl inT) (sl outT)) fun x => (x.ins, x.outs)
instance : Strict txT := inferInstanceAs (Strict (viaT ..))
def Tx.mk_ (p : (List In) × (List Out)) : Tx := ⟨p.1, p.2⟩
def zTx : Tx := ⟨[], []⟩
def zTxC : List Value := [.slice none 0 0] ++ ([.slice none 0 0])
theorem zero_Tx : Zero txT zTx zTxC := zero_pair zero_sl (zero_sl)
theorem L_Tx_ins : Lens txT 0 (sl inT) (fun x => x.ins) (fun x y => { x with ins := y }) := ((Lens.fst _ _).via (fun x : Tx => (x.ins, x.outs)) Tx.mk_ (fun _ => rfl)).cast rfl (fun _ => rfl) (fun _ _ => rfl)
theorem L_Tx_outs : Lens txT 1 (sl outT) (fun x => x.outs) (fun x y => { x with outs := y }) := ((Lens.snd _ _).via (fun x : Tx => (x.ins, x.outs)) Tx.mk_ (fun _ => rfl)).cast rfl (fun _ => rfl) (fun _ _ => rfl)

structure Coin where
  inn : In
  out : Out
  deriving DecidableEq, Inhabited

def coinT : GoT Coin := viaT (pairT inT outT) fun x => (x.inn, x.out)
instance : Strict coinT := inferInstanceAs (Strict (viaT ..))
def Coin.mk_ (p : In × Out) : Coin := ⟨p.1, p.2⟩
def zCoin : Coin := ⟨zIn, zOut⟩
def zCoinC : List Value := zInC ++ (zOutC)
theorem zero_Coin : Zero coinT zCoin zCoinC := zero_pair zero_In (zero_Out)
theorem eqx_Coin : ∀ x y : Coin, ((decide (x.inn = y.inn) && (decide (x.out = y.out) && true))) = decide (x = y) := fun x y => by cases x; cases y; simp [Bool.decide_and]
theorem L_Coin_inn : Lens coinT 0 inT (fun x => x.inn) (fun x y => { x with inn := y }) := ((Lens.fst _ _).via (fun x : Coin => (x.inn, x.out)) Coin.mk_ (fun _ => rfl)).cast rfl (fun _ => rfl) (fun _ _ => rfl)
theorem L_Coin_out : Lens coinT 33 outT (fun x => x.out) (fun x y => { x with out := y }) := ((Lens.snd _ _).via (fun x : Coin => (x.inn, x.out)) Coin.mk_ (fun _ => rfl)).cast rfl (fun _ => rfl) (fun _ _ => rfl)

structure Total where
  h : Id
  w : Wide
  n : Int
  deriving DecidableEq, Inhabited

def totalT : GoT Total := viaT (pairT idT (pairT wideT i64T)) fun x => (x.h, (x.w, x.n))
instance : Strict totalT := inferInstanceAs (Strict (viaT ..))
def Total.mk_ (p : Id × Wide × Int) : Total := ⟨p.1, p.2.1, p.2.2⟩
def zTotal : Total := ⟨zId, zWide, 0⟩
def zTotalC : List Value := zIdC ++ (zWideC ++ ([.int .i64 0]))
theorem zero_Total : Zero totalT zTotal zTotalC := zero_pair zero_id (zero_pair zero_wide (zero_i64))
theorem eqx_Total : ∀ x y : Total, ((decide (x.h = y.h) && (decide (x.w = y.w) && (decide (x.n = y.n) && true)))) = decide (x = y) := fun x y => by cases x; cases y; simp [Bool.decide_and]
theorem L_Total_h : Lens totalT 0 idT (fun x => x.h) (fun x y => { x with h := y }) := ((Lens.fst _ _).via (fun x : Total => (x.h, (x.w, x.n))) Total.mk_ (fun _ => rfl)).cast rfl (fun _ => rfl) (fun _ _ => rfl)
theorem L_Total_w : Lens totalT 32 wideT (fun x => x.w) (fun x y => { x with w := y }) := (((Lens.snd _ _).comp (Lens.fst _ _)).via (fun x : Total => (x.h, (x.w, x.n))) Total.mk_ (fun _ => rfl)).cast rfl (fun _ => rfl) (fun _ _ => rfl)
theorem L_Total_n : Lens totalT 36 i64T (fun x => x.n) (fun x y => { x with n := y }) := (((Lens.snd _ _).comp (Lens.snd _ _)).via (fun x : Total => (x.h, (x.w, x.n))) Total.mk_ (fun _ => rfl)).cast rfl (fun _ => rfl) (fun _ _ => rfl)

structure Head where
  height : Int
  prev : Id
  links : Id
  txs : Id
  past : Id
  work : Wide
  bits : UInt32
  nonce : UInt64
  deriving DecidableEq, Inhabited

def headT : GoT Head := viaT (pairT i64T (pairT idT (pairT idT (pairT idT (pairT idT (pairT wideT (pairT u32T u64T))))))) fun x => (x.height, (x.prev, (x.links, (x.txs, (x.past, (x.work, (x.bits, x.nonce)))))))
instance : Strict headT := inferInstanceAs (Strict (viaT ..))
def Head.mk_ (p : Int × Id × Id × Id × Id × Wide × UInt32 × UInt64) : Head := ⟨p.1, p.2.1, p.2.2.1, p.2.2.2.1, p.2.2.2.2.1, p.2.2.2.2.2.1, p.2.2.2.2.2.2.1, p.2.2.2.2.2.2.2⟩
def zHead : Head := ⟨0, zId, zId, zId, zId, zWide, 0, 0⟩
def zHeadC : List Value := [.int .i64 0] ++ (zIdC ++ (zIdC ++ (zIdC ++ (zIdC ++ (zWideC ++ ([.int .u32 0] ++ ([.int .u64 0])))))))
theorem zero_Head : Zero headT zHead zHeadC := zero_pair zero_i64 (zero_pair zero_id (zero_pair zero_id (zero_pair zero_id (zero_pair zero_id (zero_pair zero_wide (zero_pair zero_u32 (zero_u64)))))))
theorem eqx_Head : ∀ x y : Head, ((decide (x.height = y.height) && (decide (x.prev = y.prev) && (decide (x.links = y.links) && (decide (x.txs = y.txs) && (decide (x.past = y.past) && (decide (x.work = y.work) && (decide (x.bits = y.bits) && (decide (x.nonce = y.nonce) && true))))))))) = decide (x = y) := fun x y => by cases x; cases y; simp [Bool.decide_and]
theorem L_Head_height : Lens headT 0 i64T (fun x => x.height) (fun x y => { x with height := y }) := ((Lens.fst _ _).via (fun x : Head => (x.height, (x.prev, (x.links, (x.txs, (x.past, (x.work, (x.bits, x.nonce)))))))) Head.mk_ (fun _ => rfl)).cast rfl (fun _ => rfl) (fun _ _ => rfl)
theorem L_Head_prev : Lens headT 1 idT (fun x => x.prev) (fun x y => { x with prev := y }) := (((Lens.snd _ _).comp (Lens.fst _ _)).via (fun x : Head => (x.height, (x.prev, (x.links, (x.txs, (x.past, (x.work, (x.bits, x.nonce)))))))) Head.mk_ (fun _ => rfl)).cast rfl (fun _ => rfl) (fun _ _ => rfl)
theorem L_Head_links : Lens headT 33 idT (fun x => x.links) (fun x y => { x with links := y }) := (((Lens.snd _ _).comp ((Lens.snd _ _).comp (Lens.fst _ _))).via (fun x : Head => (x.height, (x.prev, (x.links, (x.txs, (x.past, (x.work, (x.bits, x.nonce)))))))) Head.mk_ (fun _ => rfl)).cast rfl (fun _ => rfl) (fun _ _ => rfl)
theorem L_Head_txs : Lens headT 65 idT (fun x => x.txs) (fun x y => { x with txs := y }) := (((Lens.snd _ _).comp ((Lens.snd _ _).comp ((Lens.snd _ _).comp (Lens.fst _ _)))).via (fun x : Head => (x.height, (x.prev, (x.links, (x.txs, (x.past, (x.work, (x.bits, x.nonce)))))))) Head.mk_ (fun _ => rfl)).cast rfl (fun _ => rfl) (fun _ _ => rfl)
theorem L_Head_past : Lens headT 97 idT (fun x => x.past) (fun x y => { x with past := y }) := (((Lens.snd _ _).comp ((Lens.snd _ _).comp ((Lens.snd _ _).comp ((Lens.snd _ _).comp (Lens.fst _ _))))).via (fun x : Head => (x.height, (x.prev, (x.links, (x.txs, (x.past, (x.work, (x.bits, x.nonce)))))))) Head.mk_ (fun _ => rfl)).cast rfl (fun _ => rfl) (fun _ _ => rfl)
theorem L_Head_work : Lens headT 129 wideT (fun x => x.work) (fun x y => { x with work := y }) := (((Lens.snd _ _).comp ((Lens.snd _ _).comp ((Lens.snd _ _).comp ((Lens.snd _ _).comp ((Lens.snd _ _).comp (Lens.fst _ _)))))).via (fun x : Head => (x.height, (x.prev, (x.links, (x.txs, (x.past, (x.work, (x.bits, x.nonce)))))))) Head.mk_ (fun _ => rfl)).cast rfl (fun _ => rfl) (fun _ _ => rfl)
theorem L_Head_bits : Lens headT 133 u32T (fun x => x.bits) (fun x y => { x with bits := y }) := (((Lens.snd _ _).comp ((Lens.snd _ _).comp ((Lens.snd _ _).comp ((Lens.snd _ _).comp ((Lens.snd _ _).comp ((Lens.snd _ _).comp (Lens.fst _ _))))))).via (fun x : Head => (x.height, (x.prev, (x.links, (x.txs, (x.past, (x.work, (x.bits, x.nonce)))))))) Head.mk_ (fun _ => rfl)).cast rfl (fun _ => rfl) (fun _ _ => rfl)
theorem L_Head_nonce : Lens headT 134 u64T (fun x => x.nonce) (fun x y => { x with nonce := y }) := (((Lens.snd _ _).comp ((Lens.snd _ _).comp ((Lens.snd _ _).comp ((Lens.snd _ _).comp ((Lens.snd _ _).comp ((Lens.snd _ _).comp (Lens.snd _ _))))))).via (fun x : Head => (x.height, (x.prev, (x.links, (x.txs, (x.past, (x.work, (x.bits, x.nonce)))))))) Head.mk_ (fun _ => rfl)).cast rfl (fun _ => rfl) (fun _ _ => rfl)

structure Block where
  h : Head
  l : List Id
  t : List Tx
  deriving DecidableEq, Inhabited

def blockT : GoT Block := viaT (pairT headT (pairT (sl idT) (sl txT))) fun x => (x.h, (x.l, x.t))
instance : Strict blockT := inferInstanceAs (Strict (viaT ..))
def Block.mk_ (p : Head × (List Id) × (List Tx)) : Block := ⟨p.1, p.2.1, p.2.2⟩
def zBlock : Block := ⟨zHead, [], []⟩
def zBlockC : List Value := zHeadC ++ ([.slice none 0 0] ++ ([.slice none 0 0]))
theorem zero_Block : Zero blockT zBlock zBlockC := zero_pair zero_Head (zero_pair zero_sl (zero_sl))
theorem L_Block_h : Lens blockT 0 headT (fun x => x.h) (fun x y => { x with h := y }) := ((Lens.fst _ _).via (fun x : Block => (x.h, (x.l, x.t))) Block.mk_ (fun _ => rfl)).cast rfl (fun _ => rfl) (fun _ _ => rfl)
theorem L_Block_l : Lens blockT 135 (sl idT) (fun x => x.l) (fun x y => { x with l := y }) := (((Lens.snd _ _).comp (Lens.fst _ _)).via (fun x : Block => (x.h, (x.l, x.t))) Block.mk_ (fun _ => rfl)).cast rfl (fun _ => rfl) (fun _ _ => rfl)
theorem L_Block_t : Lens blockT 136 (sl txT) (fun x => x.t) (fun x y => { x with t := y }) := (((Lens.snd _ _).comp (Lens.snd _ _)).via (fun x : Block => (x.h, (x.l, x.t))) Block.mk_ (fun _ => rfl)).cast rfl (fun _ => rfl) (fun _ _ => rfl)

structure Tip where
  b : Block
  p : List Total
  c : List Coin
  deriving DecidableEq, Inhabited

def tipT : GoT Tip := viaT (pairT blockT (pairT (sl totalT) (sl coinT))) fun x => (x.b, (x.p, x.c))
instance : Strict tipT := inferInstanceAs (Strict (viaT ..))
def Tip.mk_ (p : Block × (List Total) × (List Coin)) : Tip := ⟨p.1, p.2.1, p.2.2⟩
def zTip : Tip := ⟨zBlock, [], []⟩
def zTipC : List Value := zBlockC ++ ([.slice none 0 0] ++ ([.slice none 0 0]))
theorem zero_Tip : Zero tipT zTip zTipC := zero_pair zero_Block (zero_pair zero_sl (zero_sl))
theorem L_Tip_b : Lens tipT 0 blockT (fun x => x.b) (fun x y => { x with b := y }) := ((Lens.fst _ _).via (fun x : Tip => (x.b, (x.p, x.c))) Tip.mk_ (fun _ => rfl)).cast rfl (fun _ => rfl) (fun _ _ => rfl)
theorem L_Tip_p : Lens tipT 137 (sl totalT) (fun x => x.p) (fun x y => { x with p := y }) := (((Lens.snd _ _).comp (Lens.fst _ _)).via (fun x : Tip => (x.b, (x.p, x.c))) Tip.mk_ (fun _ => rfl)).cast rfl (fun _ => rfl) (fun _ _ => rfl)
theorem L_Tip_c : Lens tipT 138 (sl coinT) (fun x => x.c) (fun x y => { x with c := y }) := (((Lens.snd _ _).comp (Lens.snd _ _)).via (fun x : Tip => (x.b, (x.p, x.c))) Tip.mk_ (fun _ => rfl)).cast rfl (fun _ => rfl) (fun _ _ => rfl)

structure Store where
  b : List Block
  par : List Int
  deriving DecidableEq, Inhabited

def storeT : GoT Store := viaT (pairT (sl blockT) (sl i64T)) fun x => (x.b, x.par)
instance : Strict storeT := inferInstanceAs (Strict (viaT ..))
def Store.mk_ (p : (List Block) × (List Int)) : Store := ⟨p.1, p.2⟩
def zStore : Store := ⟨[], []⟩
def zStoreC : List Value := [.slice none 0 0] ++ ([.slice none 0 0])
theorem zero_Store : Zero storeT zStore zStoreC := zero_pair zero_sl (zero_sl)
theorem L_Store_b : Lens storeT 0 (sl blockT) (fun x => x.b) (fun x y => { x with b := y }) := ((Lens.fst _ _).via (fun x : Store => (x.b, x.par)) Store.mk_ (fun _ => rfl)).cast rfl (fun _ => rfl) (fun _ _ => rfl)
theorem L_Store_par : Lens storeT 1 (sl i64T) (fun x => x.par) (fun x y => { x with par := y }) := ((Lens.snd _ _).via (fun x : Store => (x.b, x.par)) Store.mk_ (fun _ => rfl)).cast rfl (fun _ => rfl) (fun _ _ => rfl)

structure Part where
  h : Head
  l : List Id
  deriving DecidableEq, Inhabited

def partT : GoT Part := viaT (pairT headT (sl idT)) fun x => (x.h, x.l)
instance : Strict partT := inferInstanceAs (Strict (viaT ..))
def Part.mk_ (p : Head × (List Id)) : Part := ⟨p.1, p.2⟩
def zPart : Part := ⟨zHead, []⟩
def zPartC : List Value := zHeadC ++ ([.slice none 0 0])
theorem zero_Part : Zero partT zPart zPartC := zero_pair zero_Head (zero_sl)
theorem L_Part_h : Lens partT 0 headT (fun x => x.h) (fun x y => { x with h := y }) := ((Lens.fst _ _).via (fun x : Part => (x.h, x.l)) Part.mk_ (fun _ => rfl)).cast rfl (fun _ => rfl) (fun _ _ => rfl)
theorem L_Part_l : Lens partT 135 (sl idT) (fun x => x.l) (fun x y => { x with l := y }) := ((Lens.snd _ _).via (fun x : Part => (x.h, x.l)) Part.mk_ (fun _ => rfl)).cast rfl (fun _ => rfl) (fun _ _ => rfl)

structure Proof where
  m : Int
  k : Int
  p : List Part
  deriving DecidableEq, Inhabited

def proofT : GoT Proof := viaT (pairT i64T (pairT i64T (sl partT))) fun x => (x.m, (x.k, x.p))
instance : Strict proofT := inferInstanceAs (Strict (viaT ..))
def Proof.mk_ (p : Int × Int × (List Part)) : Proof := ⟨p.1, p.2.1, p.2.2⟩
def zProof : Proof := ⟨0, 0, []⟩
def zProofC : List Value := [.int .i64 0] ++ ([.int .i64 0] ++ ([.slice none 0 0]))
theorem zero_Proof : Zero proofT zProof zProofC := zero_pair zero_i64 (zero_pair zero_i64 (zero_sl))
theorem L_Proof_m : Lens proofT 0 i64T (fun x => x.m) (fun x y => { x with m := y }) := ((Lens.fst _ _).via (fun x : Proof => (x.m, (x.k, x.p))) Proof.mk_ (fun _ => rfl)).cast rfl (fun _ => rfl) (fun _ _ => rfl)
theorem L_Proof_k : Lens proofT 1 i64T (fun x => x.k) (fun x y => { x with k := y }) := (((Lens.snd _ _).comp (Lens.fst _ _)).via (fun x : Proof => (x.m, (x.k, x.p))) Proof.mk_ (fun _ => rfl)).cast rfl (fun _ => rfl) (fun _ _ => rfl)
theorem L_Proof_p : Lens proofT 2 (sl partT) (fun x => x.p) (fun x y => { x with p := y }) := (((Lens.snd _ _).comp (Lens.snd _ _)).via (fun x : Proof => (x.m, (x.k, x.p))) Proof.mk_ (fun _ => rfl)).cast rfl (fun _ => rfl) (fun _ _ => rfl)

structure Sample where
  i : Int
  h : Head
  path : List Total
  deriving DecidableEq, Inhabited

def sampleT : GoT Sample := viaT (pairT i64T (pairT headT (sl totalT))) fun x => (x.i, (x.h, x.path))
instance : Strict sampleT := inferInstanceAs (Strict (viaT ..))
def Sample.mk_ (p : Int × Head × (List Total)) : Sample := ⟨p.1, p.2.1, p.2.2⟩
def zSample : Sample := ⟨0, zHead, []⟩
def zSampleC : List Value := [.int .i64 0] ++ (zHeadC ++ ([.slice none 0 0]))
theorem zero_Sample : Zero sampleT zSample zSampleC := zero_pair zero_i64 (zero_pair zero_Head (zero_sl))
theorem L_Sample_i : Lens sampleT 0 i64T (fun x => x.i) (fun x y => { x with i := y }) := ((Lens.fst _ _).via (fun x : Sample => (x.i, (x.h, x.path))) Sample.mk_ (fun _ => rfl)).cast rfl (fun _ => rfl) (fun _ _ => rfl)
theorem L_Sample_h : Lens sampleT 1 headT (fun x => x.h) (fun x y => { x with h := y }) := (((Lens.snd _ _).comp (Lens.fst _ _)).via (fun x : Sample => (x.i, (x.h, x.path))) Sample.mk_ (fun _ => rfl)).cast rfl (fun _ => rfl) (fun _ _ => rfl)
theorem L_Sample_path : Lens sampleT 136 (sl totalT) (fun x => x.path) (fun x y => { x with path := y }) := (((Lens.snd _ _).comp (Lens.snd _ _)).via (fun x : Sample => (x.i, (x.h, x.path))) Sample.mk_ (fun _ => rfl)).cast rfl (fun _ => rfl) (fun _ _ => rfl)

structure Sampling where
  tip : Head
  s : List Sample
  deriving DecidableEq, Inhabited

def samplingT : GoT Sampling := viaT (pairT headT (sl sampleT)) fun x => (x.tip, x.s)
instance : Strict samplingT := inferInstanceAs (Strict (viaT ..))
def Sampling.mk_ (p : Head × (List Sample)) : Sampling := ⟨p.1, p.2⟩
def zSampling : Sampling := ⟨zHead, []⟩
def zSamplingC : List Value := zHeadC ++ ([.slice none 0 0])
theorem zero_Sampling : Zero samplingT zSampling zSamplingC := zero_pair zero_Head (zero_sl)
theorem L_Sampling_tip : Lens samplingT 0 headT (fun x => x.tip) (fun x y => { x with tip := y }) := ((Lens.fst _ _).via (fun x : Sampling => (x.tip, x.s)) Sampling.mk_ (fun _ => rfl)).cast rfl (fun _ => rfl) (fun _ _ => rfl)
theorem L_Sampling_s : Lens samplingT 135 (sl sampleT) (fun x => x.s) (fun x y => { x with s := y }) := ((Lens.snd _ _).via (fun x : Sampling => (x.tip, x.s)) Sampling.mk_ (fun _ => rfl)).cast rfl (fun _ => rfl) (fun _ _ => rfl)

structure Client where
  m : Int
  k : Int
  opn : List Int
  have_ : Bool
  p : Proof
  deriving DecidableEq, Inhabited

def clientT : GoT Client := viaT (pairT i64T (pairT i64T (pairT (sl i64T) (pairT boolT proofT)))) fun x => (x.m, (x.k, (x.opn, (x.have_, x.p))))
instance : Strict clientT := inferInstanceAs (Strict (viaT ..))
def Client.mk_ (p : Int × Int × (List Int) × Bool × Proof) : Client := ⟨p.1, p.2.1, p.2.2.1, p.2.2.2.1, p.2.2.2.2⟩
def zClient : Client := ⟨0, 0, [], false, zProof⟩
def zClientC : List Value := [.int .i64 0] ++ ([.int .i64 0] ++ ([.slice none 0 0] ++ ([.bool false] ++ (zProofC))))
theorem zero_Client : Zero clientT zClient zClientC := zero_pair zero_i64 (zero_pair zero_i64 (zero_pair zero_sl (zero_pair zero_bool (zero_Proof))))
theorem L_Client_m : Lens clientT 0 i64T (fun x => x.m) (fun x y => { x with m := y }) := ((Lens.fst _ _).via (fun x : Client => (x.m, (x.k, (x.opn, (x.have_, x.p))))) Client.mk_ (fun _ => rfl)).cast rfl (fun _ => rfl) (fun _ _ => rfl)
theorem L_Client_k : Lens clientT 1 i64T (fun x => x.k) (fun x y => { x with k := y }) := (((Lens.snd _ _).comp (Lens.fst _ _)).via (fun x : Client => (x.m, (x.k, (x.opn, (x.have_, x.p))))) Client.mk_ (fun _ => rfl)).cast rfl (fun _ => rfl) (fun _ _ => rfl)
theorem L_Client_opn : Lens clientT 2 (sl i64T) (fun x => x.opn) (fun x y => { x with opn := y }) := (((Lens.snd _ _).comp ((Lens.snd _ _).comp (Lens.fst _ _))).via (fun x : Client => (x.m, (x.k, (x.opn, (x.have_, x.p))))) Client.mk_ (fun _ => rfl)).cast rfl (fun _ => rfl) (fun _ _ => rfl)
theorem L_Client_have_ : Lens clientT 3 boolT (fun x => x.have_) (fun x y => { x with have_ := y }) := (((Lens.snd _ _).comp ((Lens.snd _ _).comp ((Lens.snd _ _).comp (Lens.fst _ _)))).via (fun x : Client => (x.m, (x.k, (x.opn, (x.have_, x.p))))) Client.mk_ (fun _ => rfl)).cast rfl (fun _ => rfl) (fun _ _ => rfl)
theorem L_Client_p : Lens clientT 4 proofT (fun x => x.p) (fun x y => { x with p := y }) := (((Lens.snd _ _).comp ((Lens.snd _ _).comp ((Lens.snd _ _).comp (Lens.snd _ _)))).via (fun x : Client => (x.m, (x.k, (x.opn, (x.have_, x.p))))) Client.mk_ (fun _ => rfl)).cast rfl (fun _ => rfl) (fun _ _ => rfl)

structure Msg where
  kind : Int
  who : Int
  raw : List UInt8
  deriving DecidableEq, Inhabited

def msgT : GoT Msg := viaT (pairT i64T (pairT i64T (sl u8T))) fun x => (x.kind, (x.who, x.raw))
instance : Strict msgT := inferInstanceAs (Strict (viaT ..))
def Msg.mk_ (p : Int × Int × (List UInt8)) : Msg := ⟨p.1, p.2.1, p.2.2⟩
def zMsg : Msg := ⟨0, 0, []⟩
def zMsgC : List Value := [.int .i64 0] ++ ([.int .i64 0] ++ ([.slice none 0 0]))
theorem zero_Msg : Zero msgT zMsg zMsgC := zero_pair zero_i64 (zero_pair zero_i64 (zero_sl))
theorem L_Msg_kind : Lens msgT 0 i64T (fun x => x.kind) (fun x y => { x with kind := y }) := ((Lens.fst _ _).via (fun x : Msg => (x.kind, (x.who, x.raw))) Msg.mk_ (fun _ => rfl)).cast rfl (fun _ => rfl) (fun _ _ => rfl)
theorem L_Msg_who : Lens msgT 1 i64T (fun x => x.who) (fun x y => { x with who := y }) := (((Lens.snd _ _).comp (Lens.fst _ _)).via (fun x : Msg => (x.kind, (x.who, x.raw))) Msg.mk_ (fun _ => rfl)).cast rfl (fun _ => rfl) (fun _ _ => rfl)
theorem L_Msg_raw : Lens msgT 2 (sl u8T) (fun x => x.raw) (fun x y => { x with raw := y }) := (((Lens.snd _ _).comp (Lens.snd _ _)).via (fun x : Msg => (x.kind, (x.who, x.raw))) Msg.mk_ (fun _ => rfl)).cast rfl (fun _ => rfl) (fun _ _ => rfl)

end Go.Ab
