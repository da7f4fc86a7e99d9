/- Parts of the proof: the layer that reads Go values as data, and what the functions of the program tell. -/
import Derived.Test.YtikaeepohlkjdaaGreatProg
import Derived.KernelRfl
import Derived.Test.YtikaeepohlkjdaaGreatK3
open List (drop_eq_getElem_cons ext_getElem? foldl_append length_cons length_nil length_set map_cons mem_cons mem_map range_succ take_length)
open UInt32 (add_assoc add_comm toNat_add toNat_div toNat_inj toNat_mul toNat_ofNat_of_lt' toNat_or)
set_option linter.unusedVariables false
set_option linter.unusedSimpArgs false
set_option maxRecDepth 100000
namespace Go.Proofs.YtikaeepohlkjdaaGreat
open Go.Ab
noncomputable abbrev P:Program:=Go.Proofs.Tryz.prog
theorem ty_3:tyB P 3 1 false=true:=yt
theorem ui_3:P.underlying 3=some (.int .i64):=yt
theorem us_3:(P.underlying 3).isSome=true:=yt
theorem ze_3:zaw P 3 i64T 0:=zfD zbw yt
theorem ty_4:tyB P 4 1 false=true:=yt
theorem ze_4:zaw P 4 zo false:=zfD zrU yt
theorem ty_5:tyB P 5 1 false=true:=yt
theorem ui_5:P.underlying 5=some (.int .u8):=yt
theorem us_5:(P.underlying 5).isSome=true:=yt
theorem ze_5:zaw P 5 u8T 0:=zfD zero_u8 yt
theorem st_9:P.underlying 9=some .string:=yt
theorem zji:tyB P 22 1 false=true:=yt
theorem zat:rowB P 22 5 1 1=true:=yt
theorem zb0:sliceB P 22 5 1=true:=yt
theorem zfT:(match P.underlying 22 with|some (.slice _)=>true|_=>false)=true:=yt
theorem ze_22:zaw P 22 (sl u8T) []:=zfD zcO yt
theorem zkb:tyB P 24 1 false=true:=yt
theorem zhO:rowB P 24 3 1 8=true:=yt
theorem zdG:sliceB P 24 3 1=true:=yt
theorem zpU:(match P.underlying 24 with|some (.slice _)=>true|_=>false)=true:=yt
theorem zcy:tyB P 25 1 false=true:=yt
theorem zkp:rowB P 25 72 136 208=true:=yt
theorem zcu:sliceB P 25 72 136=true:=yt
theorem zdc:(match P.underlying 25 with|some (.slice _)=>true|_=>false)=true:=yt
theorem zaO:tyB P 27 3 true=true:=yt
theorem zha:(match P.underlying 27 with|some (.struct fs)=>fs.all fun f=>(P.info? f.type).isSome|_=>false)=true:=yt
theorem zed:fieldB P 27 0 0 3=true:=yt
theorem zdJ:fieldB P 27 1 1 3=true:=yt
theorem za1:fieldB P 27 2 2 25=true:=yt
theorem zhh:zaw P 27 zP zdb:=z7 zer yt
theorem za3:tyB P 29 7 true=true:=yt
theorem bd_29:(match P.underlying 29 with|some (.struct fs)=>fs.all fun f=>(P.info? f.type).isSome|_=>false)=true:=yt
theorem ziw:fieldB P 29 0 0 3=true:=yt
theorem zlQ:fieldB P 29 1 1 3=true:=yt
theorem zec:fieldB P 29 2 2 24=true:=yt
theorem zhx:fieldB P 29 3 3 4=true:=yt
theorem zcJ:fieldB P 29 4 4 27=true:=yt
theorem ztZ:zaw P 29 zZ ze7:=z7 ztW yt
theorem zvC:rowB P 32 40 1 8=true:=yt
theorem zub:sliceB P 32 40 1=true:=yt
theorem zv7:(match P.underlying 32 with|some (.slice _)=>true|_=>false)=true:=yt
theorem ty_36:tyB P 36 3 true=true:=yt
theorem bd_36:(match P.underlying 36 with|some (.struct fs)=>fs.all fun f=>(P.info? f.type).isSome|_=>false)=true:=yt
theorem zow:fieldB P 36 0 0 3=true:=yt
theorem zfX:fieldB P 36 1 1 3=true:=yt
theorem zlP:fieldB P 36 2 2 22=true:=yt
theorem ze_36:zaw P 36 msgT zMsg:=z7 zero_Msg yt
theorem ty_37:tyB P 37 1 false=true:=yt
theorem row_37:rowB P 37 36 3 40=true:=yt
theorem sl_37:sliceB P 37 36 3=true:=yt
theorem zv6:(match P.underlying 37 with|some (.slice _)=>true|_=>false)=true:=yt
theorem ty_40:tyB P 40 1 false=true:=yt
theorem ty_46:tyB P 46 1 false=true:=yt
theorem row_46:rowB P 46 59 137 232=true:=yt
theorem zqG:sliceB P 46 59 137=true:=yt
theorem zpT:(match P.underlying 46 with|some (.slice _)=>true|_=>false)=true:=yt
theorem zY:tyB P 49 32 true=true:=yt
theorem zhL:arrB P 49 32 5 1=true:=yt
theorem ze_49:zaw P 49 idT zId:=z7 zh2 yt
theorem za2:tyB P 50 1 false=true:=yt
theorem zlp:P.underlying 50=some (.int .u64):=yt
theorem zqB:(P.underlying 50).isSome=true:=yt
theorem zag:tyB P 52 4 true=true:=yt
theorem zbm:arrB P 52 4 50 1=true:=yt
theorem zo3:zaw P 52 zV zaG:=z7 zni yt
theorem zbC:tyB P 53 1 false=true:=yt
theorem ui_53:P.underlying 53=some (.int .u32):=yt
theorem zqA:(P.underlying 53).isSome=true:=yt
theorem zbZ:tyB P 55 135 true=true:=yt
theorem zrI:(match P.underlying 55 with|some (.struct fs)=>fs.all fun f=>(P.info? f.type).isSome|_=>false)=true:=yt
theorem zcI:fieldB P 55 0 0 3=true:=yt
theorem zez:fieldB P 55 1 1 49=true:=yt
theorem zey:fieldB P 55 2 33 49=true:=yt
theorem zfW:fieldB P 55 3 65 49=true:=yt
theorem zhw:fieldB P 55 4 97 49=true:=yt
theorem zjW:fieldB P 55 5 129 52=true:=yt
theorem zdg:fieldB P 55 6 133 53=true:=yt
theorem zgF:fieldB P 55 7 134 50=true:=yt
theorem zlj:zaw P 55 zbk zlm:=z7 zh3 yt
theorem zcl:tyB P 56 1 false=true:=yt
theorem zeo:rowB P 56 49 32 32=true:=yt
theorem zce:sliceB P 56 49 32=true:=yt
theorem zdn:(match P.underlying 56 with|some (.slice _)=>true|_=>false)=true:=yt
theorem ze_56:zaw P 56 (sl idT) []:=zfD zcO yt
theorem zo4:tyB P 57 1 false=true:=yt
theorem zvB:rowB P 57 101 2 48=true:=yt
theorem zsk:sliceB P 57 101 2=true:=yt
theorem isl_57:(match P.underlying 57 with|some (.slice _)=>true|_=>false)=true:=yt
theorem zgu:tyB P 59 137 true=true:=yt
theorem bd_59:(match P.underlying 59 with|some (.struct fs)=>fs.all fun f=>(P.info? f.type).isSome|_=>false)=true:=yt
theorem zcV:fieldB P 59 0 0 55=true:=yt
theorem zgE:fieldB P 59 1 135 56=true:=yt
theorem zgD:fieldB P 59 2 136 57=true:=yt
theorem ztY:zaw P 59 zaz zrW:=z7 zli yt
theorem zqC:tyB P 60 1 false=true:=yt
theorem zgd:rowB P 60 197 37 72=true:=yt
theorem zfu:sliceB P 60 197 37=true:=yt
theorem zpS:(match P.underlying 60 with|some (.slice _)=>true|_=>false)=true:=yt
theorem zms:tyB P 61 1 false=true:=yt
theorem zpE:rowB P 61 293 35 56=true:=yt
theorem zmt:sliceB P 61 293 35=true:=yt
theorem zjr:(match P.underlying 61 with|some (.slice _)=>true|_=>false)=true:=yt
theorem zfr:tyB P 63 139 true=true:=yt
theorem zrH:(match P.underlying 63 with|some (.struct fs)=>fs.all fun f=>(P.info? f.type).isSome|_=>false)=true:=yt
theorem zfV:fieldB P 63 0 0 59=true:=yt
theorem zjV:fieldB P 63 1 137 60=true:=yt
theorem zru:fieldB P 63 2 138 61=true:=yt
theorem znk:zaw P 63 tipT zTip:=z7 zu9 yt
theorem zeR:tyB P 72 136 true=true:=yt
theorem zpk:(match P.underlying 72 with|some (.struct fs)=>fs.all fun f=>(P.info? f.type).isSome|_=>false)=true:=yt
theorem zbA:fieldB P 72 0 0 55=true:=yt
theorem zb3:fieldB P 72 1 135 56=true:=yt
theorem znj:zaw P 72 zaK zll:=z7 zero_Part yt
theorem zmr:tyB P 98 1 false=true:=yt
theorem row_98:rowB P 98 256 33 40=true:=yt
theorem znw:sliceB P 98 256 33=true:=yt
theorem zjq:(match P.underlying 98 with|some (.slice _)=>true|_=>false)=true:=yt
theorem ty_99:tyB P 99 1 false=true:=yt
theorem row_99:rowB P 99 258 2 16=true:=yt
theorem zua:sliceB P 99 258 2=true:=yt
theorem isl_99:(match P.underlying 99 with|some (.slice _)=>true|_=>false)=true:=yt
theorem zjm:tyB P 101 2 true=true:=yt
theorem bd_101:(match P.underlying 101 with|some (.struct fs)=>fs.all fun f=>(P.info? f.type).isSome|_=>false)=true:=yt
theorem zdA:fieldB P 101 0 0 98=true:=yt
theorem zi0:fieldB P 101 1 1 99=true:=yt
theorem zrV:zaw P 101 txT zTx:=z7 zero_Tx yt
theorem zr2:tyB P 108 1 false=true:=yt
theorem zp_108:(P.info? 108).bind (·.zero)=some (.pointer none):=yt
theorem bd_110:(match P.underlying 110 with|some (.struct fs)=>fs.all fun f=>(P.info? f.type).isSome|_=>false)=true:=yt
theorem zeO:fieldB P 110 0 0 27=true:=yt
theorem ze_110:zaw P 110 paperT zPaper:=z7 zero_Paper yt
theorem bd_117:(match P.underlying 117 with|some (.struct fs)=>fs.all fun f=>(P.info? f.type).isSome|_=>false)=true:=yt
theorem zhD:fieldB P 117 0 0 27=true:=yt
theorem zwD:fieldB P 117 1 3 56=true:=yt
theorem zeh:fieldB P 117 2 4 3=true:=yt
theorem ze_117:zaw P 117 zf0 zCTrial:=z7 ztX yt
theorem ty_118:tyB P 118 1 false=true:=yt
theorem ty_119:tyB P 119 1 false=true:=yt
theorem ar_120:arrB P 120 3 118 1=true:=yt
theorem ze_120:zaw P 120 (arrT 3 yl fnoT) (List.replicate 3 none):=z7 (zeK yl zqu) yt
theorem ty_124:tyB P 124 6 true=true:=yt
theorem bd_124:(match P.underlying 124 with|some (.struct fs)=>fs.all fun f=>(P.info? f.type).isSome|_=>false)=true:=yt
theorem ziZ:fieldB P 124 0 0 27=true:=yt
theorem ziY:fieldB P 124 1 3 27=true:=yt
theorem ze_124:zaw P 124 zkA zPPair:=z7 zero_PPair yt
theorem ty_142:tyB P 142 1 false=true:=yt
theorem zp_142:(P.info? 142).bind (·.zero)=some (.pointer none):=yt
theorem zvk:tyB P 144 8 true=true:=yt
theorem zdY:arrB P 144 8 53 1=true:=yt
theorem ze_144:zaw P 144 (arrT 8 yl u32T) (List.replicate 8 0):=z7 (zeK yl zqt) yt
theorem ty_153:tyB P 153 1 false=true:=yt
theorem zr1:tyB P 154 1 false=true:=yt
theorem ty_155:tyB P 155 3 true=true:=yt
theorem zwZ:arrB P 155 3 153 1=true:=yt
theorem ze_155:zaw P 155 (arrT 3 yl fnoT) (List.replicate 3 none):=z7 (zeK yl zqu) yt
theorem zhC:fieldB P 157 0 0 29=true:=yt
theorem zkZ:fieldB P 157 1 7 36=true:=yt
theorem zqS:rowB P 161 246 64 64=true:=yt
theorem sl_161:sliceB P 161 246 64=true:=yt
theorem bd_170:(match P.underlying 170 with|some (.struct fs)=>fs.all fun f=>(P.info? f.type).isSome|_=>false)=true:=yt
theorem zrv:fieldB P 170 0 0 46=true:=yt
theorem zwC:fieldB P 170 1 1 3=true:=yt
theorem zwB:fieldB P 170 2 2 3=true:=yt
theorem zwA:fieldB P 170 3 3 24=true:=yt
theorem zna:fieldB P 170 4 4 24=true:=yt
theorem zu_186:(P.info? 186).bind (·.zero)=some (.agg #[]):=yt
theorem su_186:P.underlying 186=some (.struct #[]):=yt
theorem zu_187:(P.info? 187).bind (·.zero)=some (.agg #[]):=yt
theorem su_187:P.underlying 187=some (.struct #[]):=yt
theorem ty_189:tyB P 189 1 false=true:=yt
theorem zcQ:rowB P 189 22 1 24=true:=yt
theorem zcK:sliceB P 189 22 1=true:=yt
theorem zuv:(match P.underlying 189 with|some (.slice _)=>true|_=>false)=true:=yt
theorem za9:tyB P 197 37 true=true:=yt
theorem zql:(match P.underlying 197 with|some (.struct fs)=>fs.all fun f=>(P.info? f.type).isSome|_=>false)=true:=yt
theorem zeg:fieldB P 197 0 0 49=true:=yt
theorem ziX:fieldB P 197 1 32 52=true:=yt
theorem zef:fieldB P 197 2 36 3=true:=yt
theorem zlW:zaw P 197 zar zvc:=z7 zero_Total yt
theorem row_203:rowB P 203 119 1 8=true:=yt
theorem sl_203:sliceB P 203 119 1=true:=yt
theorem isl_203:(match P.underlying 203 with|some (.slice _)=>true|_=>false)=true:=yt
theorem ar_204:arrB P 204 2 27 3=true:=yt
theorem ty_209:tyB P 209 32 true=true:=yt
theorem zwY:arrB P 209 32 3 1=true:=yt
theorem ze_209:zaw P 209 (arrT 32 yl i64T) (List.replicate 32 0):=z7 (zeK yl zbw) yt
theorem bd_217:(match P.underlying 217 with|some (.struct fs)=>fs.all fun f=>(P.info? f.type).isSome|_=>false)=true:=yt
theorem zm9:fieldB P 217 0 0 63=true:=yt
theorem zhB:fieldB P 217 1 139 59=true:=yt
theorem zkY:fieldB P 217 2 276 55=true:=yt
theorem zwz:fieldB P 217 3 411 61=true:=yt
theorem ze_217:zaw P 217 zeT zTrial:=z7 zero_Trial yt
theorem ty_218:tyB P 218 1 false=true:=yt
theorem ty_219:tyB P 219 6 true=true:=yt
theorem ar_219:arrB P 219 6 218 1=true:=yt
theorem ze_219:zaw P 219 (arrT 6 yl fnoT) (List.replicate 6 none):=z7 (zeK yl zqu) yt
theorem row_221:rowB P 221 218 1 8=true:=yt
theorem sl_221:sliceB P 221 218 1=true:=yt
theorem isl_221:(match P.underlying 221 with|some (.slice _)=>true|_=>false)=true:=yt
theorem ty_233:tyB P 233 64 true=true:=yt
theorem zle:arrB P 233 64 53 1=true:=yt
theorem zvb:zaw P 233 (arrT 64 yl u32T) (List.replicate 64 0):=z7 (zeK yl zqt) yt
theorem ui_234:P.underlying 234=some (.int .u64):=yt
theorem us_234:(P.underlying 234).isSome=true:=yt
theorem zqR:rowB P 242 4 1 1=true:=yt
theorem sl_242:sliceB P 242 4 1=true:=yt
theorem isl_242:(match P.underlying 242 with|some (.slice _)=>true|_=>false)=true:=yt
theorem ty_246:tyB P 246 64 true=true:=yt
theorem ziH:arrB P 246 2 49 32=true:=yt
theorem ze_246:zaw P 246 (arrT 2 yl idT) (List.replicate 2 zId):=z7 (zeK yl zh2) yt
theorem zeS:tyB P 256 33 true=true:=yt
theorem bd_256:(match P.underlying 256 with|some (.struct fs)=>fs.all fun f=>(P.info? f.type).isSome|_=>false)=true:=yt
theorem zhA:fieldB P 256 0 0 49=true:=yt
theorem zc9:fieldB P 256 1 32 3=true:=yt
theorem ze_256:zaw P 256 inT zIn:=z7 zero_In yt
theorem zjl:tyB P 258 2 true=true:=yt
theorem zee:fieldB P 258 0 0 3=true:=yt
theorem zhz:fieldB P 258 1 1 3=true:=yt
theorem ze_258:zaw P 258 outT zOut:=z7 zva yt
theorem bd_267:(match P.underlying 267 with|some (.struct fs)=>fs.all fun f=>(P.info? f.type).isSome|_=>false)=true:=yt
theorem zm8:fieldB P 267 0 0 22=true:=yt
theorem ze_267:zaw P 267 zui zReader:=z7 ztV yt
theorem zpo:tyB P 293 35 true=true:=yt
theorem bd_293:(match P.underlying 293 with|some (.struct fs)=>fs.all fun f=>(P.info? f.type).isSome|_=>false)=true:=yt
theorem zhy:fieldB P 293 0 0 256=true:=yt
theorem ziW:fieldB P 293 1 33 258=true:=yt
theorem ze_293:zaw P 293 zbq zCoin:=z7 zero_Coin yt
theorem ty_301:tyB P 301 1 false=true:=yt
theorem zp_301:(P.info? 301).bind (·.zero)=some (.map none):=yt
theorem mp_301:P.underlying 301=some (.map 3 186):=yt
theorem zia:rowB P 377 53 1 4=true:=yt
theorem zba:sliceB P 377 53 1=true:=yt
theorem row_391:rowB P 391 56 1 24=true:=yt
theorem sl_391:sliceB P 391 56 1=true:=yt
theorem isl_391:(match P.underlying 391 with|some (.slice _)=>true|_=>false)=true:=yt
theorem eqk_3 (d:Nat):EqOk P 3 i64T (d+1):=eq_int yt d
theorem ub_4:P.underlying 4=some .bool:=yt
theorem eqk_5 (d:Nat):EqOk P 5 u8T (d+1):=eq_u8 yt d
theorem zp7 (d:Nat):EqOk P 49 idT (d+2):=eq_arr zhL ty_5 (eqk_5 d)
theorem zix:EqTy P 49 idT:=⟨zp7 9998,rfl,by kernel_rfl⟩
theorem eqk_50 (d:Nat):EqOk P 50 u64T (d+1):=eq_u64 yt d
theorem eqk_52 (d:Nat):EqOk P 52 zV (d+2):=eq_arr zbm za2 (eqk_50 d)
theorem eqt_52:EqTy P 52 zV:=⟨eqk_52 9998,rfl,by kernel_rfl⟩
theorem eqk_53 (d:Nat):EqOk P 53 u32T (d+1):=eq_u32 yt d
theorem eqk_55 (d:Nat):EqOk P 55 zbk (d+3):=zox (n:=8) yt rfl (.cons zcI zal ty_3 (eqk_3 (d+1)) (.cons zez zbB zY (zp7 (d+0)) (.cons zey zbc zY (zp7 (d+0)) (.cons zfW zcF zY (zp7 (d+0)) (.cons zhw zcZ zY (zp7 (d+0)) (.cons zjW zeH zag (eqk_52 (d+0)) (.cons zdg zaX zbC (eqk_53 (d+1)) (.cons zgF zcd za2 (eqk_50 (d+1)) .nil)))))))) eqx_Head
theorem zmd:EqTy P 55 zbk:=⟨eqk_55 9997,rfl,by kernel_rfl⟩
theorem eqk_256 (d:Nat):EqOk P 256 inT (d+3):=zox (n:=2) yt rfl (.cons zhA zj5 zY (zp7 (d+0)) (.cons zc9 zhW ty_3 (eqk_3 (d+1)) .nil)) eqx_In
theorem zuH:EqTy P 256 inT:=⟨eqk_256 9997,rfl,by kernel_rfl⟩
theorem eqk_258 (d:Nat):EqOk P 258 outT (d+2):=zox (n:=2) yt rfl (.cons zee zf9 ty_3 (eqk_3 (d+0)) (.cons zhz zje ty_3 (eqk_3 (d+0)) .nil)) eqx_Out
theorem eqt_258:EqTy P 258 outT:=⟨eqk_258 9998,rfl,by kernel_rfl⟩
theorem fn_14:fnB P 14=true:=yt
theorem fn_15:fnB P 15=true:=yt
theorem fn_16:fnB P 16=true:=yt
theorem fn_17:fnB P 17=true:=yt
theorem fn_18:fnB P 18=true:=yt
theorem fn_19:fnB P 19=true:=yt
theorem fn_21:fnB P 21=true:=yt
theorem fn_22:fnB P 22=true:=yt
theorem fn_23:fnB P 23=true:=yt
theorem fn_25:fnB P 25=true:=yt
theorem fn_26:fnB P 26=true:=yt
theorem fn_27:fnB P 27=true:=yt
theorem fn_28:fnB P 28=true:=yt
theorem fn_29:fnB P 29=true:=yt
theorem fn_30:fnB P 30=true:=yt
theorem fn_31:fnB P 31=true:=yt
theorem fn_32:fnB P 32=true:=yt
theorem fn_34:fnB P 34=true:=yt
theorem fn_35:fnB P 35=true:=yt
theorem fn_36:fnB P 36=true:=yt
theorem fn_37:fnB P 37=true:=yt
theorem fn_38:fnB P 38=true:=yt
theorem fn_39:fnB P 39=true:=yt
theorem fn_40:fnB P 40=true:=yt
theorem fn_41:fnB P 41=true:=yt
theorem fn_43:fnB P 43=true:=yt
theorem fn_44:fnB P 44=true:=yt
theorem fn_46:fnB P 46=true:=yt
theorem fn_47:fnB P 47=true:=yt
theorem zjS:fnB P 48=true:=yt
theorem fn_49:fnB P 49=true:=yt
theorem fn_50:fnB P 50=true:=yt
theorem fn_51:fnB P 51=true:=yt
theorem fn_52:fnB P 52=true:=yt
theorem fn_53:fnB P 53=true:=yt
theorem fn_54:fnB P 54=true:=yt
theorem fn_55:fnB P 55=true:=yt
theorem fn_56:fnB P 56=true:=yt
theorem fn_57:fnB P 57=true:=yt
theorem fn_58:fnB P 58=true:=yt
theorem fn_59:fnB P 59=true:=yt
theorem fn_60:fnB P 60=true:=yt
theorem fn_61:fnB P 61=true:=yt
theorem fn_62:fnB P 62=true:=yt
theorem fn_63:fnB P 63=true:=yt
theorem fn_64:fnB P 64=true:=yt
theorem fn_65:fnB P 65=true:=yt
theorem fn_67:fnB P 67=true:=yt
theorem fn_68:fnB P 68=true:=yt
theorem fn_69:fnB P 69=true:=yt
theorem fn_70:fnB P 70=true:=yt
theorem fn_75:fnB P 75=true:=yt
theorem fn_76:fnB P 76=true:=yt
theorem fn_77:fnB P 77=true:=yt
theorem fn_78:fnB P 78=true:=yt
theorem fn_79:fnB P 79=true:=yt
theorem zs9:fnB P 80=true:=yt
theorem fn_81:fnB P 81=true:=yt
theorem fn_82:fnB P 82=true:=yt
theorem fn_83:fnB P 83=true:=yt
theorem fn_84:fnB P 84=true:=yt
theorem fn_85:fnB P 85=true:=yt
theorem fn_86:fnB P 86=true:=yt
theorem fn_87:fnB P 87=true:=yt
theorem fn_88:fnB P 88=true:=yt
theorem fn_89:fnB P 89=true:=yt
theorem fn_90:fnB P 90=true:=yt
theorem fn_91:fnB P 91=true:=yt
theorem fn_92:fnB P 92=true:=yt
theorem fn_93:fnB P 93=true:=yt
theorem fn_97:fnB P 97=true:=yt
theorem fn_98:fnB P 98=true:=yt
theorem fn_99:fnB P 99=true:=yt
theorem fn_100:fnB P 100=true:=yt
theorem fn_102:fnB P 102=true:=yt
theorem zwu:fnB P 103=true:=yt
theorem fn_104:fnB P 104=true:=yt
theorem fn_105:fnB P 105=true:=yt
theorem fn_106:fnB P 106=true:=yt
theorem fn_107:fnB P 107=true:=yt
theorem fn_108:fnB P 108=true:=yt
theorem zdd:fnB P 109=true:=yt
theorem zwt:fnB P 110=true:=yt
theorem fn_111:fnB P 111=true:=yt
theorem zws:fnB P 112=true:=yt
theorem fn_113:fnB P 113=true:=yt
theorem fn_114:fnB P 114=true:=yt
theorem fn_115:fnB P 115=true:=yt
theorem fn_116:fnB P 116=true:=yt
theorem fn_117:fnB P 117=true:=yt
theorem fn_118:fnB P 118=true:=yt
theorem fn_119:fnB P 119=true:=yt
theorem fn_120:fnB P 120=true:=yt
theorem fn_121:fnB P 121=true:=yt
theorem fn_122:fnB P 122=true:=yt
theorem zwr:fnB P 123=true:=yt
theorem fn_125:fnB P 125=true:=yt
theorem fn_126:fnB P 126=true:=yt
theorem fn_127:fnB P 127=true:=yt
theorem fn_128:fnB P 128=true:=yt
theorem fn_129:fnB P 129=true:=yt
theorem fn_130:fnB P 130=true:=yt
theorem fn_131:fnB P 131=true:=yt
theorem fn_132:fnB P 132=true:=yt
theorem fn_133:fnB P 133=true:=yt
theorem fn_134:fnB P 134=true:=yt
theorem fn_135:fnB P 135=true:=yt
theorem fn_136:fnB P 136=true:=yt
theorem fn_137:fnB P 137=true:=yt
theorem zp3:fnB P 138=true:=yt
theorem zwq:fnB P 139=true:=yt
theorem fn_147:fnB P 147=true:=yt
theorem fn_148:fnB P 148=true:=yt
theorem fn_149:fnB P 149=true:=yt
theorem fn_150:fnB P 150=true:=yt
theorem fn_151:fnB P 151=true:=yt
theorem fn_152:fnB P 152=true:=yt
theorem fn_153:fnB P 153=true:=yt
theorem fn_154:fnB P 154=true:=yt
theorem fn_155:fnB P 155=true:=yt
theorem fn_156:fnB P 156=true:=yt
theorem fn_157:fnB P 157=true:=yt
theorem fn_158:fnB P 158=true:=yt
theorem fn_159:fnB P 159=true:=yt
theorem fn_160:fnB P 160=true:=yt
theorem fn_161:fnB P 161=true:=yt
theorem fn_164:fnB P 164=true:=yt
theorem fn_167:fnB P 167=true:=yt
theorem fn_168:fnB P 168=true:=yt
theorem fn_169:fnB P 169=true:=yt
theorem fn_170:fnB P 170=true:=yt
theorem fn_171:fnB P 171=true:=yt
theorem fn_172:fnB P 172=true:=yt
theorem fn_173:fnB P 173=true:=yt
theorem ztf:fnB P 174=true:=yt
theorem fn_175:fnB P 175=true:=yt
theorem fn_176:fnB P 176=true:=yt
theorem zwp:fnB P 177=true:=yt
theorem fn_178:fnB P 178=true:=yt
theorem fn_179:fnB P 179=true:=yt
theorem fn_180:fnB P 180=true:=yt
theorem fn_181:fnB P 181=true:=yt
theorem fn_182:fnB P 182=true:=yt
theorem fn_183:fnB P 183=true:=yt
theorem fn_184:fnB P 184=true:=yt
theorem fn_185:fnB P 185=true:=yt
theorem fn_186:fnB P 186=true:=yt
theorem fn_187:fnB P 187=true:=yt
theorem fn_188:fnB P 188=true:=yt
theorem fn_189:fnB P 189=true:=yt
theorem fn_190:fnB P 190=true:=yt
theorem fn_191:fnB P 191=true:=yt
theorem fn_192:fnB P 192=true:=yt
theorem zte:fnB P 193=true:=yt
theorem fn_194:fnB P 194=true:=yt
theorem fn_195:fnB P 195=true:=yt
theorem fn_196:fnB P 196=true:=yt
theorem fn_197:fnB P 197=true:=yt
theorem fn_198:fnB P 198=true:=yt
theorem fn_199:fnB P 199=true:=yt
theorem ztd:fnB P 200=true:=yt
theorem fn_201:fnB P 201=true:=yt
theorem fn_202:fnB P 202=true:=yt
theorem fn_203:fnB P 203=true:=yt
theorem fn_204:fnB P 204=true:=yt
theorem fn_205:fnB P 205=true:=yt
theorem fn_206:fnB P 206=true:=yt
theorem fn_207:fnB P 207=true:=yt
theorem fn_208:fnB P 208=true:=yt
theorem fn_209:fnB P 209=true:=yt
theorem fn_210:fnB P 210=true:=yt
theorem fn_211:fnB P 211=true:=yt
theorem fn_212:fnB P 212=true:=yt
theorem fn_213:fnB P 213=true:=yt
theorem fn_214:fnB P 214=true:=yt
theorem fn_217:fnB P 217=true:=yt
theorem fn_219:fnB P 219=true:=yt
theorem fn_220:fnB P 220=true:=yt
theorem fn_221:fnB P 221=true:=yt
theorem fn_222:fnB P 222=true:=yt
theorem fn_224:fnB P 224=true:=yt
theorem fn_225:fnB P 225=true:=yt
theorem fn_226:fnB P 226=true:=yt
theorem fn_227:fnB P 227=true:=yt
theorem fn_228:fnB P 228=true:=yt
theorem fn_229:fnB P 229=true:=yt
theorem fn_230:fnB P 230=true:=yt
theorem fn_231:fnB P 231=true:=yt
theorem fn_232:fnB P 232=true:=yt
theorem fn_233:fnB P 233=true:=yt
theorem zmc:fnB P 234=true:=yt
theorem fn_235:fnB P 235=true:=yt
theorem fn_236:fnB P 236=true:=yt
theorem fn_237:fnB P 237=true:=yt
theorem fn_238:fnB P 238=true:=yt
theorem fn_239:fnB P 239=true:=yt
theorem fn_240:fnB P 240=true:=yt
theorem fn_241:fnB P 241=true:=yt
theorem fn_242:fnB P 242=true:=yt
theorem fn_243:fnB P 243=true:=yt
theorem fn_244:fnB P 244=true:=yt
theorem fn_245:fnB P 245=true:=yt
theorem zmb:fnB P 246=true:=yt
theorem fn_247:fnB P 247=true:=yt
theorem fn_248:fnB P 248=true:=yt
theorem fn_249:fnB P 249=true:=yt
theorem fn_250:fnB P 250=true:=yt
theorem fn_251:fnB P 251=true:=yt
theorem fn_252:fnB P 252=true:=yt
theorem fn_253:fnB P 253=true:=yt
theorem fn_254:fnB P 254=true:=yt
theorem fn_255:fnB P 255=true:=yt
theorem fn_256:fnB P 256=true:=yt
theorem ztc:fnB P 257=true:=yt
theorem fn_258:fnB P 258=true:=yt
theorem fn_259:fnB P 259=true:=yt
theorem fn_260:fnB P 260=true:=yt
theorem fn_261:fnB P 261=true:=yt
theorem zwo:fnB P 262=true:=yt
theorem fn_263:fnB P 263=true:=yt
theorem fn_264:fnB P 264=true:=yt
theorem fn_265:fnB P 265=true:=yt
theorem fn_266:fnB P 266=true:=yt
theorem fn_269:fnB P 269=true:=yt
theorem fn_270:fnB P 270=true:=yt
theorem fn_271:fnB P 271=true:=yt
theorem fn_272:fnB P 272=true:=yt
theorem fn_273:fnB P 273=true:=yt
theorem fn_274:fnB P 274=true:=yt
theorem fn_275:fnB P 275=true:=yt
theorem fn_277:fnB P 277=true:=yt
theorem fn_278:fnB P 278=true:=yt
theorem fn_279:fnB P 279=true:=yt
theorem fn_280:fnB P 280=true:=yt
theorem fn_281:fnB P 281=true:=yt
theorem fn_282:fnB P 282=true:=yt
theorem zos:fnB P 283=true:=yt
theorem fn_284:fnB P 284=true:=yt
theorem fn_285:fnB P 285=true:=yt
theorem fn_286:fnB P 286=true:=yt
theorem fn_287:fnB P 287=true:=yt
theorem fn_288:fnB P 288=true:=yt
theorem fn_289:fnB P 289=true:=yt
theorem fn_290:fnB P 290=true:=yt
theorem fn_291:fnB P 291=true:=yt
theorem ztb:fnB P 292=true:=yt
theorem fn_293:fnB P 293=true:=yt
theorem fn_294:fnB P 294=true:=yt
theorem fn_295:fnB P 295=true:=yt
theorem fn_296:fnB P 296=true:=yt
theorem fn_297:fnB P 297=true:=yt
theorem fn_298:fnB P 298=true:=yt
theorem fn_299:fnB P 299=true:=yt
theorem fn_300:fnB P 300=true:=yt
theorem fn_301:fnB P 301=true:=yt
theorem fn_302:fnB P 302=true:=yt
theorem fn_303:fnB P 303=true:=yt
theorem fn_304:fnB P 304=true:=yt
theorem fn_305:fnB P 305=true:=yt
theorem fn_306:fnB P 306=true:=yt
theorem fn_307:fnB P 307=true:=yt
theorem fn_308:fnB P 308=true:=yt
theorem fn_309:fnB P 309=true:=yt
theorem fn_310:fnB P 310=true:=yt
theorem fn_311:fnB P 311=true:=yt
theorem fn_312:fnB P 312=true:=yt
theorem fn_313:fnB P 313=true:=yt
theorem fn_322:fnB P 322=true:=yt
theorem fn_323:fnB P 323=true:=yt
theorem fn_324:fnB P 324=true:=yt
theorem fn_325:fnB P 325=true:=yt
theorem fn_326:fnB P 326=true:=yt
theorem fn_327:fnB P 327=true:=yt
theorem fn_328:fnB P 328=true:=yt
theorem fn_329:fnB P 329=true:=yt
theorem fn_330:fnB P 330=true:=yt
theorem fn_331:fnB P 331=true:=yt
theorem fn_332:fnB P 332=true:=yt
theorem fn_333:fnB P 333=true:=yt
theorem zta:fnB P 335=true:=yt
theorem fn_336:fnB P 336=true:=yt
theorem fn_337:fnB P 337=true:=yt
theorem zor:fnB P 338=true:=yt
theorem fn_339:fnB P 339=true:=yt
theorem fn_340:fnB P 340=true:=yt
theorem zp2:fnB P 341=true:=yt
theorem zwn:fnB P 342=true:=yt
theorem fn_343:fnB P 343=true:=yt
theorem fn_344:fnB P 344=true:=yt
theorem fn_345:fnB P 345=true:=yt
theorem fn_346:fnB P 346=true:=yt
theorem fn_347:fnB P 347=true:=yt
theorem fn_348:fnB P 348=true:=yt
theorem zwm:fnB P 349=true:=yt
theorem fn_350:fnB P 350=true:=yt
theorem fn_351:fnB P 351=true:=yt
theorem fn_352:fnB P 352=true:=yt
theorem zju:fnB P 353=true:=yt
theorem fn_361:fnB P 361=true:=yt
theorem fn_371:fnB P 371=true:=yt
theorem zhS:fnB P 372=true:=yt
theorem fn_373:fnB P 373=true:=yt
theorem fn_374:fnB P 374=true:=yt
theorem fn_375:fnB P 375=true:=yt
theorem fn_376:fnB P 376=true:=yt
theorem zwl:fnB P 377=true:=yt
theorem fn_378:fnB P 378=true:=yt
theorem fn_379:fnB P 379=true:=yt
theorem fn_384:fnB P 384=true:=yt
theorem fn_385:fnB P 385=true:=yt
theorem fn_386:fnB P 386=true:=yt
theorem fn_388:fnB P 388=true:=yt
theorem zwk:fnB P 389=true:=yt
theorem mixed:P.follows .mixedOrders=true:=yt
structure Hid (C:Prop):Prop where
  out:C
section
variable {A C:Prop}
theorem qaa (h:C) (t:Hid C->A:=by intro h;refine A0 yaQ ?_;refine A0 ybz ?_;exact h.1):A:=t ⟨h⟩
theorem qab (h:C) (t:Hid C->A:=by intro h;refine A2 ?_;refine A2 ?_;refine A2 ?_;exact h.1):A:=t ⟨h⟩
theorem qac (h:C) (t:Hid C->A:=by intro h;refine G2 ?_;refine G2 ?_;refine G2 ?_;refine G2 ?_;refine G2 ?_;refine G2 ?_;exact h.1):A:=t ⟨h⟩
theorem qad (h:C) (t:Hid C->A:=by intro h;refine A0 aV ?_;refine CN ?_;exact h.1):A:=t ⟨h⟩
theorem qae (h:C) (t:Hid C->A:=by intro h;refine CQR ?_;refine ztN rfl rfl rfl rfl rfl ?_;exact h.1):A:=t ⟨h⟩
theorem qaf (h:C) (t:Hid C->A:=by intro h;refine zg rfl rfl rfl rfl rfl (Lens.self _) zag rfl ?_;exact h.1):A:=t ⟨h⟩
theorem qag (h:C) (t:Hid C->A:=by intro h;refine A0 aV ?_;refine CNQQR ?_;refine A0 mV ?_;exact h.1):A:=t ⟨h⟩
theorem qah (h:C) (t:Hid C->A:=by intro h;refine G3 ?_;refine G3 ?_;refine G3 ?_;refine G3 ?_;refine G3 ?_;refine G3 ?_;refine G3 ?_;refine G3 ?_;refine G3 ?_;refine G3 ?_;refine G3 ?_;exact h.1):A:=t ⟨h⟩
theorem qai (h:C) (t:Hid C->A:=by intro h;refine A0 oK ?_;refine A0 mV ?_;exact h.1):A:=t ⟨h⟩
theorem qaj (h:C) (t:Hid C->A:=by intro h;refine A0 aV ?_;refine CNQR ?_;exact h.1):A:=t ⟨h⟩
theorem qak (h:C) (t:Hid C->A:=by intro h;refine A0 yaX ?_;refine qaj ?_;refine A0 mP ?_;refine A0 mP ?_;refine A0 (g_nc rfl rfl) ?_;refine A0 (oFp zm8) ?_;refine A0 (oLb zjd zji) ?_;refine A0 mV ?_;refine A0 (zjt rfl rfl rfl zb0 yh) ?_;refine A0 (g_nc rfl rfl) ?_;refine A0 (oFp zm8) ?_;refine zg rfl rfl rfl rfl rfl zjd zji rfl ?_;exact h.1):A:=t ⟨h⟩
theorem qal (h:C) (t:Hid C->A:=by intro h;refine A0 mV ?_;refine A0 mV ?_;exact h.1):A:=t ⟨h⟩
theorem qam (h:C) (t:Hid C->A:=by intro h;refine A0 zhZ ?_;refine A0 mV ?_;refine CN ?_;exact h.1):A:=t ⟨h⟩
theorem qan (h:C) (t:Hid C->A:=by intro h;refine A0 mV ?_;refine A0 zhZ ?_;refine qad ?_;exact h.1):A:=t ⟨h⟩
theorem qao (h:C) (t:Hid C->A:=by intro h;refine zg rfl rfl rfl rfl rfl (Lens.self _) za3 rfl ?_;exact h.1):A:=t ⟨h⟩
theorem qap (h:C) (t:Hid C->A:=by intro h;refine CQR ?_;refine A0 zc4 ?_;refine CNQ ?_;exact h.1):A:=t ⟨h⟩
theorem qaq (h:C) (t:Hid C->A:=by intro h;refine zg rfl rfl rfl rfl rfl (Lens.self _) zY rfl ?_;exact h.1):A:=t ⟨h⟩
theorem qar (h:C) (t:Hid C->A:=by intro h;refine CQR ?_;refine qad ?_;exact h.1):A:=t ⟨h⟩
theorem qas (h:C) (t:Hid C->A:=by intro h;refine zg rfl rfl rfl rfl rfl (Lens.self _) zaO rfl ?_;exact h.1):A:=t ⟨h⟩
theorem qat (h:C) (t:Hid C->A:=by intro h;refine A0 oK ?_;refine CN ?_;exact h.1):A:=t ⟨h⟩
theorem qau (h:C) (t:Hid C->A:=by intro h;refine CQR ?_;refine A0 aL ?_;exact h.1):A:=t ⟨h⟩
theorem qav (h:C) (t:Hid C->A:=by intro h;refine qae ?_;refine ztN rfl rfl rfl rfl rfl ?_;exact h.1):A:=t ⟨h⟩
theorem qaw (h:C) (t:Hid C->A:=by intro h;refine A0 aX ?_;refine CNQR ?_;refine A0 mX ?_;refine A0 zd1 ?_;refine CN ?_;exact h.1):A:=t ⟨h⟩
theorem qax (h:C) (t:Hid C->A:=by intro h;refine qau ?_;refine CNQR ?_;refine A0 mP ?_;refine A0 (g_nc rfl rfl) ?_;refine A0 (oFp zm8) ?_;refine A0 (oLb zjd zji) ?_;refine A0 mV ?_;refine qak ?_;refine CNQR ?_;refine A0 mV ?_;refine qad ?_;refine zcx rfl ?_;exact h.1):A:=t ⟨h⟩
theorem qay (h:C) (t:Hid C->A:=by intro h;refine A2 ?_;refine qai ?_;refine qab ?_;refine A2 ?_;exact h.1):A:=t ⟨h⟩
theorem qaz (h:C) (t:Hid C->A:=by intro h;refine A0 mV ?_;exact h.1):A:=t ⟨h⟩
theorem qa0 (h:C) (t:Hid C->A:=by intro h;refine zg rfl rfl rfl rfl rfl (Lens.self _) zeR rfl ?_;exact h.1):A:=t ⟨h⟩
theorem qa1 (h:C) (t:Hid C->A:=by intro h;refine zN zo3 rfl rfl rfl rfl ?_;exact h.1):A:=t ⟨h⟩
theorem qa2 (h:C) (t:Hid C->A:=by intro h;refine A0 (zy (i:=0) rfl rfl rfl yi zbm ya) ?_;refine A0 (zr rfl rfl rfl (Lens.elem (i:=0) ya u64T) za2) ?_;refine A0 (zrs rfl rfl rfl) ?_;refine A0 (zy (i:=0) rfl rfl rfl yi zbm ya) ?_;refine zg rfl rfl rfl rfl rfl (Lens.elem (i:=0) ya u64T) za2 rfl ?_;exact h.1):A:=t ⟨h⟩
theorem qa3 (h:C) (t:Hid C->A:=by intro h;refine G0 (zc8 rfl rfl rfl rfl yj (Lens.self _) zbC) ?_;exact h.1):A:=t ⟨h⟩
theorem qa4 (h:C) (t:Hid C->A:=by intro h;refine CNQQR ?_;refine A0 aV ?_;refine CNB ?_;exact h.1):A:=t ⟨h⟩
theorem qa5 (h:C) (t:Hid C->A:=by intro h;refine A0 (oLs rfl rfl rfl zag) ?_;exact h.1):A:=t ⟨h⟩
theorem qa6 (h:C) (t:Hid C->A:=by intro h;refine A0 (zW (T:=u8T) (xs:=[_]) rfl zb0 zat yA rfl rfl) ?_;exact h.1):A:=t ⟨h⟩
theorem qa7 (h:C) (t:Hid C->A:=by intro h;refine A0 zc4 ?_;refine CN ?_;exact h.1):A:=t ⟨h⟩
theorem qa8 (h:C) (t:Hid C->A:=by intro h;refine CE ?_;refine CQR ?_;refine A0 mO ?_;refine A0 aO ?_;refine CN ?_;exact h.1):A:=t ⟨h⟩
theorem qa9 (h:C) (t:Hid C->A:=by intro h;refine A0 (oLs rfl rfl rfl zaO) ?_;exact h.1):A:=t ⟨h⟩
theorem qaA (h:C) (t:Hid C->A:=by intro h;refine A0 mX ?_;refine qaa ?_;exact h.1):A:=t ⟨h⟩
theorem qaB (h:C) (t:Hid C->A:=by intro h;refine A0 (oLs rfl rfl rfl za3) ?_;exact h.1):A:=t ⟨h⟩
theorem qaC (h:C) (t:Hid C->A:=by intro h;refine zN ze_49 rfl rfl rfl rfl ?_;exact h.1):A:=t ⟨h⟩
theorem qaD (h:C) (t:Hid C->A:=by intro h;refine A0 (oFp za1) ?_;refine A0 (oLb zaB zcy) ?_;exact h.1):A:=t ⟨h⟩
theorem qaE (h:C) (t:Hid C->A:=by intro h;refine A0 oK ?_;refine qad ?_;exact h.1):A:=t ⟨h⟩
theorem qaF (h:C) (t:Hid C->A:=by intro h;refine qaz ?_;refine CNB ?_;exact h.1):A:=t ⟨h⟩
theorem qaG (h:C) (t:Hid C->A:=by intro h;refine A0 zd1 ?_;refine CN ?_;exact h.1):A:=t ⟨h⟩
theorem qaH (h:C) (t:Hid C->A:=by intro h;refine qai ?_;refine qab ?_;exact h.1):A:=t ⟨h⟩
theorem qaI (h:C) (t:Hid C->A:=by intro h;refine CQ ?_;refine CD mixed ?_;exact h.1):A:=t ⟨h⟩
theorem qaJ (h:C) (t:Hid C->A:=by intro h;refine A0 (zW (T:=idT) (xs:=[_]) rfl zce zeo yA rfl rfl) ?_;refine zp rfl rfl rfl rfl rfl rfl rfl zeo yB ?_;refine A0 aO ?_;refine CNIR ?_;exact h.1):A:=t ⟨h⟩
theorem qaK (h:C) (t:Hid C->A:=by intro h;refine zg rfl rfl rfl rfl rfl (Lens.self _) zbZ rfl ?_;exact h.1):A:=t ⟨h⟩
theorem qaL (h:C) (t:Hid C->A:=by intro h;refine A0 aV ?_;refine CNQ ?_;exact h.1):A:=t ⟨h⟩
theorem qaM (h:C) (t:Hid C->A:=by intro h;refine G0 aV ?_;refine GK.nil ?_;exact h.1):A:=t ⟨h⟩
theorem qaN (h:C) (t:Hid C->A:=by intro h;refine zg rfl rfl rfl rfl rfl (Lens.self _) zfr rfl ?_;exact h.1):A:=t ⟨h⟩
theorem qaO (h:C) (t:Hid C->A:=by intro h;refine CQR ?_;refine A0 (zrp rfl zbm zo3 rfl) ?_;refine qaf ?_;exact h.1):A:=t ⟨h⟩
theorem qaP (h:C) (t:Hid C->A:=by intro h;refine G2 ?_;refine G2 ?_;refine G2 ?_;exact h.1):A:=t ⟨h⟩
theorem qaQ (h:C) (t:Hid C->A:=by intro h;refine CSQBQR ?_;refine A0 (zct rfl rfl rfl sl_221 yj) ?_;refine A0 (zh rfl rfl ty_218) ?_;refine A0 aX ?_;refine CNQR ?_;refine A0 mX ?_;exact h.1):A:=t ⟨h⟩
theorem qaR (h:C) (t:Hid C->A:=by intro h;refine qaj ?_;refine qaz ?_;exact h.1):A:=t ⟨h⟩
theorem qaS (h:C) (t:Hid C->A:=by intro h;refine CS ?_;refine CQ ?_;refine CB ?_;exact h.1):A:=t ⟨h⟩
theorem qaT (h:C) (t:Hid C->A:=by intro h;refine A0 oN ?_;refine CN ?_;exact h.1):A:=t ⟨h⟩
theorem qaU (h:C) (t:Hid C->A:=by intro h;refine CE ?_;refine CQR ?_;exact h.1):A:=t ⟨h⟩
theorem qaV (h:C) (t:Hid C->A:=by intro h;refine XK.nil' ?_;refine CI ?_;refine CR ?_;exact h.1):A:=t ⟨h⟩
theorem qaW (h:C) (t:Hid C->A:=by intro h;refine A0 (zhs rfl (ui_3) (us_5) rfl yaE) ?_;refine A0 zhZ ?_;refine qad ?_;exact h.1):A:=t ⟨h⟩
theorem qaX (h:C) (t:Hid C->A:=by intro h;refine A0 (zW (T:=i64T) (xs:=[_]) rfl zdG zhO yA rfl rfl) ?_;exact h.1):A:=t ⟨h⟩
theorem qaY (h:C) (t:Hid C->A:=by intro h;refine G0 oK ?_;refine GK.nil ?_;exact h.1):A:=t ⟨h⟩
theorem qaZ (h:C) (t:Hid C->A:=by intro h;refine A2 ?_;refine A2 ?_;exact h.1):A:=t ⟨h⟩
theorem qba (h:C) (t:Hid C->A:=by intro h;refine A0 (oFp zdA) ?_;refine A0 (oLb zdE zmr) ?_;refine A0 (zaC rfl rfl zjq) ?_;exact h.1):A:=t ⟨h⟩
theorem qbb (h:C) (t:Hid C->A:=by intro h;refine A1 (oFp zdJ) ?_;refine A1 (oLb zdu ty_3) ?_;exact h.1):A:=t ⟨h⟩
theorem qbc (h:C) (t:Hid C->A:=by intro h;refine qaI ?_;refine G0 (zaf rfl rfl rfl rfl rfl ty_189) ?_;refine G0 (zbS rfl rfl rfl zuv) ?_;refine G0 (oLs rfl rfl rfl zji) ?_;refine G0 (zx (i:=0) rfl rfl rfl ya zb0 yj) ?_;refine G0 (zh rfl rfl ty_5) ?_;refine G0 (zhs rfl (ui_3) (us_5) rfl yaE) ?_;exact h.1):A:=t ⟨h⟩
theorem qbd (h:C) (t:Hid C->A:=by intro h;refine CQQR ?_;refine qaz ?_;exact h.1):A:=t ⟨h⟩
theorem qbe (h:C) (t:Hid C->A:=by intro h;refine A0 aX ?_;refine CN ?_;exact h.1):A:=t ⟨h⟩
theorem qbf (h:C) (t:Hid C->A:=by intro h;refine A0 (oLs rfl rfl rfl zY) ?_;exact h.1):A:=t ⟨h⟩
theorem qbg (h:C) (t:Hid C->A:=by intro h;refine zoS 8 (pre:=[]) (zsW _ _ _ _ _) rfl rfl ?_;refine CR ?_;refine A0 mP ?_;refine A0 (g_nc rfl rfl) ?_;refine A0 (oFp zhC) ?_;refine A0 (zon rfl rfl rfl rfl za3) ?_;refine qao ?_;refine qad ?_;exact h.1):A:=t ⟨h⟩
theorem qbh (h:C) (t:Hid C->A:=by intro h;refine qaL ?_;refine CD mixed ?_;refine G0 mP ?_;refine G0 (g_nc rfl rfl) ?_;refine G0 (oFp zhC) ?_;refine G0 (oFp zec) ?_;refine G0 (zaf rfl rfl rfl rfl rfl zkb) ?_;refine G0 mP ?_;refine G0 (g_nc rfl rfl) ?_;refine G0 (oFp zkZ) ?_;refine G0 (oFp zfX) ?_;refine G0 (zaf rfl rfl rfl rfl rfl ty_3) ?_;exact h.1):A:=t ⟨h⟩
theorem qbi (h:C) (t:Hid C->A:=by intro h;refine CNIR ?_;refine qan ?_;exact h.1):A:=t ⟨h⟩
theorem qbj (h:C) (t:Hid C->A:=by intro h;refine A0 (zaC rfl rfl zdn) ?_;exact h.1):A:=t ⟨h⟩
theorem qbk (h:C) (t:Hid C->A:=by intro h;refine zg rfl rfl rfl rfl rfl (Lens.self _) za9 rfl ?_;exact h.1):A:=t ⟨h⟩
theorem qbl (h:C) (t:Hid C->A:=by intro h;refine G0 mV ?_;refine G0 mV ?_;exact h.1):A:=t ⟨h⟩
theorem qbm (h:C) (t:Hid C->A:=by intro h;refine X0 (zc8 rfl rfl rfl rfl yj (Lens.self _) zbC) ?_;exact h.1):A:=t ⟨h⟩
theorem qbn (h:C) (t:Hid C->A:=by intro h;refine A0 (zh rfl rfl zeR) ?_;refine zN znj rfl rfl rfl rfl ?_;refine qa0 ?_;exact h.1):A:=t ⟨h⟩
theorem qbo (h:C) (t:Hid C->A:=by intro h;refine ap_inl ?_;refine ap_inl ?_;refine ap_fine (n:=5) zgp rfl rfl rfl ty_4 ?_;refine qaT ?_;exact h.1):A:=t ⟨h⟩
theorem qbp (h:C) (t:Hid C->A:=by intro h;refine CSQBQR ?_;refine qaz ?_;exact h.1):A:=t ⟨h⟩
theorem qbq (h:C) (t:Hid C->A:=by intro h;refine A0 (oCl (ztE _ _ _) rfl fn_233 ⟨yb,yk,yk,trivial⟩) ?_;refine qaA ?_;refine A0 aV ?_;refine qaR ?_;refine qad ?_;refine zcx rfl ?_;exact h.1):A:=t ⟨h⟩
theorem qbr (h:C) (t:Hid C->A:=by intro h;refine A0 (zkV rfl rfl yb) ?_;refine CN ?_;exact h.1):A:=t ⟨h⟩
theorem qbs (h:C) (t:Hid C->A:=by intro h;refine A0 (zh rfl rfl ty_3) ?_;exact h.1):A:=t ⟨h⟩
theorem qbt (h:C) (t:Hid C->A:=by intro h;refine CSIR ?_;refine qam ?_;exact h.1):A:=t ⟨h⟩
theorem qbu (h:C) (t:Hid C->A:=by intro h;refine A0 (g_rem rfl rfl rfl ybW (by first|decide|omega) rfl) ?_;exact h.1):A:=t ⟨h⟩
theorem qbv (h:C) (t:Hid C->A:=by intro h;refine G0 mO ?_;refine G0 (zau (i:=4) rfl rfl rfl rfl yi zba yh) ?_;refine qa3 ?_;exact h.1):A:=t ⟨h⟩
theorem qbw (h:C) (t:Hid C->A:=by intro h;refine A0 (zaC rfl rfl zpU) ?_;exact h.1):A:=t ⟨h⟩
theorem qbx (h:C) (t:Hid C->A:=by intro h;refine A0 (by first|exact zaC rfl rfl zfT|exact zbS rfl rfl rfl zfT|exact zeb rfl rfl zfT) ?_;exact h.1):A:=t ⟨h⟩
theorem qby (h:C) (t:Hid C->A:=by intro h;refine A0 aO ?_;refine CNQR ?_;refine A0 mO ?_;exact h.1):A:=t ⟨h⟩
theorem qbz (h:C) (t:Hid C->A:=by intro h;refine A0 (zct rfl rfl rfl zsk yj) ?_;refine A0 (zh rfl rfl zjm) ?_;refine zN zrV rfl rfl rfl rfl ?_;exact h.1):A:=t ⟨h⟩
theorem qb0 (h:C) (t:Hid C->A:=by intro h;refine G1 (zx (i:=0) rfl rfl rfl ya zce yj) ?_;refine G1 (zh rfl rfl zY) ?_;exact h.1):A:=t ⟨h⟩
theorem qb1 (h:C) (t:Hid C->A:=by intro h;refine CQR ?_;refine qaz ?_;exact h.1):A:=t ⟨h⟩
theorem qb2 (h:C) (t:Hid C->A:=by intro h;refine A0 aV ?_;refine qad ?_;exact h.1):A:=t ⟨h⟩
theorem qb3 (h:C) (t:Hid C->A:=by intro h;refine G0 mO ?_;refine G0 (zau (i:=0) rfl rfl rfl rfl yi zba yh) ?_;refine qa3 ?_;exact h.1):A:=t ⟨h⟩
theorem qb4 (h:C) (t:Hid C->A:=by intro h;refine X0 (zh rfl rfl ty_5) ?_;refine X0 (g_cv32 rfl (ui_53) (us_5) rfl) ?_;exact h.1):A:=t ⟨h⟩
theorem qb5 (h:C) (t:Hid C->A:=by intro h;refine A0 zgb ?_;refine CN ?_;exact h.1):A:=t ⟨h⟩
theorem qb6 (h:C) (t:Hid C->A:=by intro h;refine CQQR ?_;refine qal ?_;exact h.1):A:=t ⟨h⟩
theorem qb7 (h:C) (t:Hid C->A:=by intro h;refine A0 (oFp zcI) ?_;refine A0 (oLb zal ty_3) ?_;exact h.1):A:=t ⟨h⟩
theorem qb8 (h:C) (t:Hid C->A:=by intro h;refine CNIR ?_;refine qam ?_;exact h.1):A:=t ⟨h⟩
theorem qb9 (h:C) (t:Hid C->A:=by intro h;refine A0 (g_quo rfl rfl rfl ybW (by first|decide|omega) rfl) ?_;exact h.1):A:=t ⟨h⟩
theorem qbA (h:C) (t:Hid C->A:=by intro h;refine A0 aX ?_;refine A0 aX ?_;refine CNQQR ?_;refine A0 mX ?_;refine qaG ?_;exact h.1):A:=t ⟨h⟩
theorem qbB (h:C) (t:Hid C->A:=by intro h;refine A0 (oFp zi0) ?_;refine A0 (oLb zhc ty_99) ?_;exact h.1):A:=t ⟨h⟩
theorem qbC (h:C) (t:Hid C->A:=by intro h;refine X0 mV ?_;refine X0 mV ?_;exact h.1):A:=t ⟨h⟩
theorem qbD (h:C) (t:Hid C->A:=by intro h;refine CNQQR ?_;refine qaz ?_;exact h.1):A:=t ⟨h⟩
theorem qbE (h:C) (t:Hid C->A:=by intro h;refine qau ?_;refine qad ?_;exact h.1):A:=t ⟨h⟩
theorem qbF (h:C) (t:Hid C->A:=by intro h;refine qaA ?_;refine A0 aV ?_;refine qag ?_;exact h.1):A:=t ⟨h⟩
theorem qbG (h:C) (t:Hid C->A:=by intro h;refine A0 aO ?_;refine CN ?_;exact h.1):A:=t ⟨h⟩
theorem qbH (h:C) (t:Hid C->A:=by intro h;refine CQR ?_;refine qaC ?_;refine CNQR ?_;exact h.1):A:=t ⟨h⟩
theorem qbI (h:C) (t:Hid C->A:=by intro h;refine zco 1 0 2 rfl rfl rfl rfl rfl rfl ?_;exact h.1):A:=t ⟨h⟩
theorem qbJ (h:C) (t:Hid C->A:=by intro h;refine A0 (zog rfl rfl zhL rfl rfl) ?_;exact h.1):A:=t ⟨h⟩
theorem qbK (h:C) (t:Hid C->A:=by intro h;refine G0 mV ?_;refine G0 (oCl (zvG _ _) rfl fn_148 ye) ?_;exact h.1):A:=t ⟨h⟩
theorem qbL (h:C) (t:Hid C->A:=by intro h;refine qaj ?_;refine qal ?_;exact h.1):A:=t ⟨h⟩
theorem qbM (h:C) (t:Hid C->A:=by intro h;refine A0 (zaC rfl rfl zdc) ?_;exact h.1):A:=t ⟨h⟩
theorem qbN (h:C) (t:Hid C->A:=by intro h;refine qae ?_;refine A0 aL ?_;exact h.1):A:=t ⟨h⟩
theorem qbO (h:C) (t:Hid C->A:=by intro h;refine A0 yaQ ?_;exact h.1):A:=t ⟨h⟩
theorem qbP (h:C) (t:Hid C->A:=by intro h;refine qaq ?_;refine CN ?_;exact h.1):A:=t ⟨h⟩
theorem qbQ (h:C) (t:Hid C->A:=by intro h;refine qau ?_;refine CNQR ?_;exact h.1):A:=t ⟨h⟩
theorem qbR (h:C) (t:Hid C->A:=by intro h;refine A0 (oFp zcJ) ?_;refine A0 (oFp za1) ?_;exact h.1):A:=t ⟨h⟩
theorem qbS (h:C) (t:Hid C->A:=by intro h;refine A0 (zmE rfl (ui_5) (zqB) rfl) ?_;exact h.1):A:=t ⟨h⟩
theorem qbT (h:C) (t:Hid C->A:=by intro h;refine A0 aV ?_;refine CNQQR ?_;exact h.1):A:=t ⟨h⟩
theorem qbU (h:C) (t:Hid C->A:=by intro h;refine qaa ?_;refine A0 e32 ?_;refine A0 aO ?_;refine A0 aX ?_;refine qbe ?_;exact h.1):A:=t ⟨h⟩
theorem qbV (h:C) (t:Hid C->A:=by intro h;refine qao ?_;refine qad ?_;exact h.1):A:=t ⟨h⟩
theorem qbW (h:C) (t:Hid C->A:=by intro h;refine A0 (zW (T:=(bsl u8T)) (xs:=[_,_]) rfl zcK zcQ yao rfl rfl) ?_;exact h.1):A:=t ⟨h⟩
theorem qbX (h:C) (t:Hid C->A:=by intro h;refine A0 (oFp zed) ?_;refine A0 (oLb zem ty_3) ?_;exact h.1):A:=t ⟨h⟩
theorem qbY (h:C) (t:Hid C->A:=by intro h;refine CSQR ?_;refine qaz ?_;exact h.1):A:=t ⟨h⟩
theorem qbZ (h:C) (t:Hid C->A:=by intro h;refine G1 (oFp za1) ?_;refine G1 (oLb zaB zcy) ?_;refine G1 (zx (i:=0) rfl rfl rfl ya zcu yj) ?_;exact h.1):A:=t ⟨h⟩
theorem qca (h:C) (t:Hid C->A:=by intro h;refine A1 mV ?_;refine A1 zcq ?_;exact h.1):A:=t ⟨h⟩
theorem qcb (h:C) (t:Hid C->A:=by intro h;refine CSQQR ?_;refine qaz ?_;exact h.1):A:=t ⟨h⟩
theorem qcc (h:C) (t:Hid C->A:=by intro h;refine A0 aV ?_;refine CNR ?_;exact h.1):A:=t ⟨h⟩
theorem qcd (h:C) (t:Hid C->A:=by intro h;refine zg rfl rfl rfl rfl rfl (Lens.self _) zgu rfl ?_;exact h.1):A:=t ⟨h⟩
theorem qce (h:C) (t:Hid C->A:=by intro h;refine zN zlj rfl rfl rfl rfl ?_;exact h.1):A:=t ⟨h⟩
theorem qcf (h:C) (t:Hid C->A:=by intro h;refine zN ztZ rfl rfl rfl rfl ?_;exact h.1):A:=t ⟨h⟩
theorem qcg (h:C) (t:Hid C->A:=by intro h;refine A0 ybz ?_;exact h.1):A:=t ⟨h⟩
theorem qch (h:C) (t:Hid C->A:=by intro h;refine CQR ?_;refine qaB ?_;exact h.1):A:=t ⟨h⟩
theorem qci (h:C) (t:Hid C->A:=by intro h;refine A0 (oLs rfl rfl rfl zbZ) ?_;exact h.1):A:=t ⟨h⟩
theorem qcj (h:C) (t:Hid C->A:=by intro h;refine A0 (oLs rfl rfl rfl zeR) ?_;refine A0 (zW (T:=zaK) (xs:=[_]) rfl zcu zkp yA rfl rfl) ?_;exact h.1):A:=t ⟨h⟩
theorem qck (h:C) (t:Hid C->A:=by intro h;refine zcx rfl ?_;refine qaw ?_;exact h.1):A:=t ⟨h⟩
theorem qcl (h:C) (t:Hid C->A:=by intro h;refine A0 aO ?_;refine qad ?_;exact h.1):A:=t ⟨h⟩
theorem qcm (h:C) (t:Hid C->A:=by intro h;refine zN zlW rfl rfl rfl rfl ?_;exact h.1):A:=t ⟨h⟩
theorem qcn (h:C) (t:Hid C->A:=by intro h;refine qaz ?_;refine A0 zc3 ?_;exact h.1):A:=t ⟨h⟩
theorem qco (h:C) (t:Hid C->A:=by intro h;refine A0 aV ?_;refine CNB ?_;exact h.1):A:=t ⟨h⟩
theorem qcp (h:C) (t:Hid C->A:=by intro h;refine qas ?_;refine qad ?_;exact h.1):A:=t ⟨h⟩
theorem qcq (h:C) (t:Hid C->A:=by intro h;refine CQR ?_;refine A0 mX ?_;refine qbe ?_;exact h.1):A:=t ⟨h⟩
theorem qcr (h:C) (t:Hid C->A:=by intro h;refine A0 (zaC rfl rfl zfT) ?_;exact h.1):A:=t ⟨h⟩
theorem qcs (h:C) (t:Hid C->A:=by intro h;refine CE ?_;refine qar ?_;exact h.1):A:=t ⟨h⟩
theorem qct (h:C) (t:Hid C->A:=by intro h;refine G0 oK ?_;refine G0 mV ?_;exact h.1):A:=t ⟨h⟩
theorem qcu (h:C) (t:Hid C->A:=by intro h;refine qa5 ?_;refine qaf ?_;refine CN ?_;exact h.1):A:=t ⟨h⟩
theorem qcv (h:C) (t:Hid C->A:=by intro h;refine zN zhh rfl rfl rfl rfl ?_;exact h.1):A:=t ⟨h⟩
theorem qcw (h:C) (t:Hid C->A:=by intro h;refine zN znj rfl rfl rfl rfl ?_;exact h.1):A:=t ⟨h⟩
theorem qcx (h:C) (t:Hid C->A:=by intro h;refine G0 mR ?_;refine G0 (zep rfl rfl) ?_;exact h.1):A:=t ⟨h⟩
theorem qcy (h:C) (t:Hid C->A:=by intro h;refine G0 (zoe rfl rfl rfl) ?_;exact h.1):A:=t ⟨h⟩
theorem qcz (h:C) (t:Hid C->A:=by intro h;refine A0 aV ?_;refine qa4 ?_;exact h.1):A:=t ⟨h⟩
theorem qc0 (h:C) (t:Hid C->A:=by intro h;refine X0 (zW (T:=(bsl u8T)) (xs:=[_,_,_]) rfl zcK zcQ ⟨rfl,rfl,rfl,rfl,rfl,rfl,trivial⟩ rfl rfl) ?_;exact h.1):A:=t ⟨h⟩
theorem qc1 (h:C) (t:Hid C->A:=by intro h;refine qaZ ?_;refine qai ?_;refine qaZ ?_;exact h.1):A:=t ⟨h⟩
theorem qc2 (h:C) (t:Hid C->A:=by intro h;refine A0 zcq ?_;refine CN ?_;exact h.1):A:=t ⟨h⟩
theorem qc3 (h:C) (t:Hid C->A:=by intro h;refine qaL ?_;refine CD mixed ?_;exact h.1):A:=t ⟨h⟩
theorem qc4 (h:C) (t:Hid C->A:=by intro h;refine A0 (zh rfl rfl zY) ?_;refine qbP ?_;refine ztO rfl rfl rfl zY ?_;exact h.1):A:=t ⟨h⟩
theorem qc5 (h:C) (t:Hid C->A:=by intro h;refine A0 yaC ?_;exact h.1):A:=t ⟨h⟩
theorem qc6 (h:C) (t:Hid C->A:=by intro h;refine A0 (zaC rfl rfl zuv) ?_;exact h.1):A:=t ⟨h⟩
theorem qc7 (h:C) (t:Hid C->A:=by intro h;refine zco 2 1 3 rfl rfl rfl rfl rfl rfl ?_;exact h.1):A:=t ⟨h⟩
theorem qc8 (h:C) (t:Hid C->A:=by intro h;refine zco 3 1 4 rfl rfl rfl rfl rfl rfl ?_;exact h.1):A:=t ⟨h⟩
theorem qc9 (h:C) (t:Hid C->A:=by intro h;refine A1 (oFp zi0) ?_;refine A1 (oLb zhc ty_99) ?_;exact h.1):A:=t ⟨h⟩
theorem qcA (h:C) (t:Hid C->A:=by intro h;refine qab ?_;refine qat ?_;exact h.1):A:=t ⟨h⟩
theorem qcB (h:C) (t:Hid C->A:=by intro h;refine G0 zhZ ?_;refine G0 (zjt rfl rfl rfl zdG yh) ?_;refine G0 (oFp zed) ?_;refine G0 (oLb zem ty_3) ?_;exact h.1):A:=t ⟨h⟩
theorem qcC (h:C) (t:Hid C->A:=by intro h;refine A0 (zh rfl rfl zji) ?_;exact h.1):A:=t ⟨h⟩
theorem qcD (h:C) (t:Hid C->A:=by intro h;refine A0 (oLs rfl rfl rfl zjm) ?_;exact h.1):A:=t ⟨h⟩
theorem qcE (h:C) (t:Hid C->A:=by intro h;refine G0 (zh rfl rfl zY) ?_;exact h.1):A:=t ⟨h⟩
theorem qcF (h:C) (t:Hid C->A:=by intro h;refine A0 (zmE rfl (ui_5) (us_3) rfl) ?_;refine zbg (T:=u8T) (xs:=[_]) rfl rfl rfl rfl zb0 zat yA rfl rfl ?_;refine A0 aO ?_;exact h.1):A:=t ⟨h⟩
theorem qcG (h:C) (t:Hid C->A:=by intro h;refine CSIR ?_;refine qan ?_;exact h.1):A:=t ⟨h⟩
theorem qcH (h:C) (t:Hid C->A:=by intro h;refine qaX ?_;refine zp rfl rfl rfl rfl rfl rfl rfl zhO yB ?_;exact h.1):A:=t ⟨h⟩
theorem qcI (h:C) (t:Hid C->A:=by intro h;refine CNQR ?_;refine A0 (g_mkf (caps:=[_]) rfl rfl) ?_;refine A0 aC ?_;refine CN ?_;refine zcx rfl ?_;exact h.1):A:=t ⟨h⟩
theorem qcJ (h:C) (t:Hid C->A:=by intro h;refine G1 (oFp zb3) ?_;refine G1 (oLb zcc zcl) ?_;exact h.1):A:=t ⟨h⟩
theorem qcK (h:C) (t:Hid C->A:=by intro h;refine CQR ?_;refine qag ?_;exact h.1):A:=t ⟨h⟩
theorem qcL (h:C) (t:Hid C->A:=by intro h;refine A0 (g_nc rfl rfl) ?_;exact h.1):A:=t ⟨h⟩
theorem qcM (h:C) (t:Hid C->A:=by intro h;refine qaA ?_;refine qa1 ?_;refine qaf ?_;exact h.1):A:=t ⟨h⟩
theorem qcN (h:C) (t:Hid C->A:=by intro h;refine X0 (oFp za1) ?_;refine X0 (zaf rfl rfl rfl rfl rfl zcy) ?_;refine X0 mV ?_;refine X0 (oFp zb3) ?_;refine X0 (oLb zcc zcl) ?_;exact h.1):A:=t ⟨h⟩
theorem qcO (h:C) (t:Hid C->A:=by intro h;refine X0 (oLs rfl rfl rfl zag) ?_;exact h.1):A:=t ⟨h⟩
theorem qcP (h:C) (t:Hid C->A:=by intro h;refine qaA ?_;refine zN znk rfl rfl rfl rfl ?_;refine qaN ?_;exact h.1):A:=t ⟨h⟩
theorem qcQ (h:C) (t:Hid C->A:=by intro h;refine X0 (zrt rfl rfl rfl) ?_;exact h.1):A:=t ⟨h⟩
theorem qcR (h:C) (t:Hid C->A:=by intro h;refine A0 aX ?_;refine CNQR ?_;exact h.1):A:=t ⟨h⟩
theorem qcS (h:C) (t:Hid C->A:=by intro h;refine X0 yaW ?_;exact h.1):A:=t ⟨h⟩
theorem qcT (h:C) (t:Hid C->A:=by intro h;refine qaz ?_;refine A0 zhZ ?_;refine qaz ?_;refine A0 (zhs rfl (ui_3) (zqB) rfl yaE) ?_;refine A0 zhZ ?_;exact h.1):A:=t ⟨h⟩
theorem qcU (h:C) (t:Hid C->A:=by intro h;refine CR ?_;refine A0 mO ?_;exact h.1):A:=t ⟨h⟩
theorem qcV (h:C) (t:Hid C->A:=by intro h;refine X0 (zma (T:=sl u8T) (S:=bsl u8T) (zcT (zu (zla _ 4 yl)) rfl zwq ye rfl)) ?_;exact h.1):A:=t ⟨h⟩
theorem qcW (h:C) (t:Hid C->A:=by intro h;refine A0 (zh rfl rfl zjl) ?_;refine zN ze_258 rfl rfl rfl rfl ?_;refine zg rfl rfl rfl rfl rfl (Lens.self _) zjl rfl ?_;exact h.1):A:=t ⟨h⟩
theorem qcX (h:C) (t:Hid C->A:=by intro h;refine qab ?_;refine qaH ?_;exact h.1):A:=t ⟨h⟩
theorem qcY (h:C) (t:Hid C->A:=by intro h;refine X0 (zog rfl rfl zhL rfl rfl) ?_;exact h.1):A:=t ⟨h⟩
theorem qcZ (h:C) (t:Hid C->A:=by intro h;refine A0 zc4 ?_;refine qaz ?_;exact h.1):A:=t ⟨h⟩
theorem qda (h:C) (t:Hid C->A:=by intro h;refine qab ?_;refine A2 ?_;exact h.1):A:=t ⟨h⟩
theorem qdb (h:C) (t:Hid C->A:=by intro h;refine zg rfl rfl rfl rfl rfl (Lens.self _) zjm rfl ?_;exact h.1):A:=t ⟨h⟩
theorem qdc (h:C) (t:Hid C->A:=by intro h;refine A1 (oFp zhx) ?_;refine A1 (oLb zdv ty_4) ?_;exact h.1):A:=t ⟨h⟩
theorem qdd (h:C) (t:Hid C->A:=by intro h;refine X0 mV ?_;refine X0 (oCl (zvG _ _) rfl fn_148 ye) ?_;exact h.1):A:=t ⟨h⟩
theorem qde (h:C) (t:Hid C->A:=by intro h;refine qaX ?_;refine zp rfl rfl rfl rfl rfl rfl rfl zhO yM ?_;exact h.1):A:=t ⟨h⟩
theorem qdf (h:C) (t:Hid C->A:=by intro h;refine A0 (oFp zec) ?_;refine A0 (oLb zgt zkb) ?_;exact h.1):A:=t ⟨h⟩
theorem qdg (h:C) (t:Hid C->A:=by intro h;refine qaZ ?_;refine qat ?_;exact h.1):A:=t ⟨h⟩
theorem qdh (h:C) (t:Hid C->A:=by intro h;refine A0 zd7 ?_;refine CN ?_;exact h.1):A:=t ⟨h⟩
theorem qdi (h:C) (t:Hid C->A:=by intro h;refine A1 mV ?_;refine A1 mV ?_;exact h.1):A:=t ⟨h⟩
theorem qdj (h:C) (t:Hid C->A:=by intro h;refine A0 (zW (T:=(bsl u8T)) (xs:=[_]) rfl zcK zcQ yA rfl rfl) ?_;exact h.1):A:=t ⟨h⟩
theorem qdk (h:C) (t:Hid C->A:=by intro h;refine zg rfl rfl rfl rfl rfl (Lens.self _) ty_3 rfl ?_;exact h.1):A:=t ⟨h⟩
theorem qdl (h:C) (t:Hid C->A:=by intro h;refine qaU ?_;refine qaz ?_;refine qad ?_;exact h.1):A:=t ⟨h⟩
theorem qdm (h:C) (t:Hid C->A:=by intro h;refine X0 mO ?_;refine X0 mV ?_;exact h.1):A:=t ⟨h⟩
theorem qdn (h:C) (t:Hid C->A:=by intro h;refine A0 (zct rfl rfl rfl znw yj) ?_;refine A0 (zh rfl rfl zeS) ?_;refine zN ze_256 rfl rfl rfl rfl ?_;exact h.1):A:=t ⟨h⟩
theorem qdo (h:C) (t:Hid C->A:=by intro h;refine CNQ ?_;refine zel (d:=1) rfl rfl (Lens.self _) ?_;exact h.1):A:=t ⟨h⟩
theorem qdp (h:C) (t:Hid C->A:=by intro h;refine A0 (oFp ziX) ?_;refine A0 (oLb zhd zag) ?_;exact h.1):A:=t ⟨h⟩
theorem qdq (h:C) (t:Hid C->A:=by intro h;refine A0 (oFr zbA zbe) ?_;refine A0 (zh rfl rfl zbZ) ?_;exact h.1):A:=t ⟨h⟩
theorem qdr (h:C) (t:Hid C->A:=by intro h;refine A0 mX ?_;refine qao ?_;refine qbe ?_;exact h.1):A:=t ⟨h⟩
theorem qds (h:C) (t:Hid C->A:=by intro h;refine A0 (zc8 rfl rfl rfl rfl yj (Lens.self _) zeR) ?_;refine qcw ?_;refine A0 aV ?_;refine qa0 ?_;refine CN ?_;exact h.1):A:=t ⟨h⟩
theorem qdt (h:C) (t:Hid C->A:=by intro h;refine A0 (oFp zbA) ?_;refine A0 (oLb zbe zbZ) ?_;exact h.1):A:=t ⟨h⟩
theorem qdu (h:C) (t:Hid C->A:=by intro h;refine CQR ?_;refine qaL ?_;refine qaI ?_;refine qcx ?_;refine G0 (oFr zhB zf8) ?_;refine G0 (oFr zcV zaU) ?_;exact h.1):A:=t ⟨h⟩
theorem qdv (h:C) (t:Hid C->A:=by intro h;refine X0 (zW (T:=idT) (xs:=[_]) rfl zce zeo yA rfl rfl) ?_;exact h.1):A:=t ⟨h⟩
theorem qdw (h:C) (t:Hid C->A:=by intro h;refine A0 (zct rfl rfl rfl zdG yj) ?_;refine qbs ?_;exact h.1):A:=t ⟨h⟩
theorem qdx (h:C) (t:Hid C->A:=by intro h;refine CQR ?_;refine A0 mC ?_;exact h.1):A:=t ⟨h⟩
theorem qdy (h:C) (t:Hid C->A:=by intro h;refine G1 mR ?_;refine G1 (zep rfl rfl) ?_;refine G1 (oFr zwD zmn) ?_;refine G1 (zh rfl rfl zcl) ?_;exact h.1):A:=t ⟨h⟩
theorem qdz (h:C) (t:Hid C->A:=by intro h;refine A0 (zaC rfl rfl isl_99) ?_;exact h.1):A:=t ⟨h⟩
theorem qd0 (h:C) (t:Hid C->A:=by intro h;refine X0 (zma (T:=sl u8T) (S:=bsl u8T) (zW (T:=u8T) (xs:=[_]) rfl zb0 zat yA rfl rfl)) ?_;exact h.1):A:=t ⟨h⟩
theorem qd1 (h:C) (t:Hid C->A:=by intro h;refine A0 (zg0 rfl (zlp) (us_3) rfl) ?_;exact h.1):A:=t ⟨h⟩
theorem qd2 (h:C) (t:Hid C->A:=by intro h;refine qay ?_;refine A2 ?_;refine qaE ?_;exact h.1):A:=t ⟨h⟩
theorem qd3 (h:C) (t:Hid C->A:=by intro h;refine qb1 ?_;refine qad ?_;exact h.1):A:=t ⟨h⟩
theorem qd4 (h:C) (t:Hid C->A:=by intro h;refine qaa ?_;refine A0 aO ?_;refine qbe ?_;exact h.1):A:=t ⟨h⟩
theorem qd5 (h:C) (t:Hid C->A:=by intro h;refine CNQR ?_;refine qaz ?_;exact h.1):A:=t ⟨h⟩
theorem qd6 (h:C) (t:Hid C->A:=by intro h;refine qa5 ?_;refine qa5 ?_;exact h.1):A:=t ⟨h⟩
theorem qd7 (h:C) (t:Hid C->A:=by intro h;refine A0 (zct rfl rfl rfl zcu yj) ?_;exact h.1):A:=t ⟨h⟩
theorem qd8 (h:C) (t:Hid C->A:=by intro h;refine A1 mR ?_;refine A1 (zep rfl rfl) ?_;refine A1 (oFr zeO ziK) ?_;exact h.1):A:=t ⟨h⟩
theorem qd9 (h:C) (t:Hid C->A:=by intro h;refine qaz ?_;refine A0 zhZ ?_;exact h.1):A:=t ⟨h⟩
theorem qdA (h:C) (t:Hid C->A:=by intro h;refine CNR ?_;refine A0 mO ?_;exact h.1):A:=t ⟨h⟩
theorem qdB (h:C) (t:Hid C->A:=by intro h;refine A0 aV ?_;refine qbi ?_;exact h.1):A:=t ⟨h⟩
theorem qdC (h:C) (t:Hid C->A:=by intro h;refine X0 (g_nc rfl rfl) ?_;refine X0 (oFp zhC) ?_;refine X0 (oFp zec) ?_;exact h.1):A:=t ⟨h⟩
theorem qdD (h:C) (t:Hid C->A:=by intro h;refine G0 (oCl (cmpU_ok _ _) rfl fn_279 ye) ?_;exact h.1):A:=t ⟨h⟩
theorem qdE (h:C) (t:Hid C->A:=by intro h;refine A0 (ziV (T:=u64T) (xs:=[_,_,_,_]) rfl zbm zo3 ⟨rfl,rfl,rfl,rfl,rfl,rfl,rfl,rfl,trivial⟩ rfl) ?_;exact h.1):A:=t ⟨h⟩
theorem qdF (h:C) (t:Hid C->A:=by intro h;refine X0 (oCl (atW_ok _ _) rfl fn_235 ye) ?_;exact h.1):A:=t ⟨h⟩
theorem qdG (h:C) (t:Hid C->A:=by intro h;refine A0 (oFp zdg) ?_;refine A0 (oLb zaX zbC) ?_;exact h.1):A:=t ⟨h⟩
theorem qdH (h:C) (t:Hid C->A:=by intro h;refine A0 (zaC rfl rfl isl_57) ?_;exact h.1):A:=t ⟨h⟩
theorem qdI (h:C) (t:Hid C->A:=by intro h;refine A0 (zx (i:=0) rfl rfl rfl ya zsk yj) ?_;refine A0 (zh rfl rfl zjm) ?_;exact h.1):A:=t ⟨h⟩
theorem qdJ (h:C) (t:Hid C->A:=by intro h;refine X0 mX ?_;refine X0 yaQ ?_;exact h.1):A:=t ⟨h⟩
theorem qdK (h:C) (t:Hid C->A:=by intro h;refine qau ?_;refine qbD ?_;exact h.1):A:=t ⟨h⟩
theorem qdL (h:C) (t:Hid C->A:=by intro h;refine qaV ?_;refine qam ?_;exact h.1):A:=t ⟨h⟩
theorem qdM (h:C) (t:Hid C->A:=by intro h;refine qaj ?_;refine qaB ?_;refine qaz ?_;exact h.1):A:=t ⟨h⟩
theorem qdN (h:C) (t:Hid C->A:=by intro h;refine qac ?_;refine G2 ?_;exact h.1):A:=t ⟨h⟩
theorem qdO (h:C) (t:Hid C->A:=by intro h;refine qaI ?_;refine G0 mV ?_;exact h.1):A:=t ⟨h⟩
theorem qdP (h:C) (t:Hid C->A:=by intro h;refine CQR ?_;refine A0 mO ?_;exact h.1):A:=t ⟨h⟩
theorem qdQ (h:C) (t:Hid C->A:=by intro h;refine A0 (oFp zdA) ?_;refine A0 (oLb zdE zmr) ?_;exact h.1):A:=t ⟨h⟩
theorem qdR (h:C) (t:Hid C->A:=by intro h;refine A1 (oFp za1) ?_;refine A1 (oLb zaB zcy) ?_;exact h.1):A:=t ⟨h⟩
theorem qdS (h:C) (t:Hid C->A:=by intro h;refine A1 (oFp zlQ) ?_;refine A1 (oLb zjg ty_3) ?_;exact h.1):A:=t ⟨h⟩
theorem qdT (h:C) (t:Hid C->A:=by intro h;refine A0 (oFp zow) ?_;refine A0 (oLb zjf ty_3) ?_;exact h.1):A:=t ⟨h⟩
theorem qdU (h:C) (t:Hid C->A:=by intro h;refine A1 zc4 ?_;refine qai ?_;exact h.1):A:=t ⟨h⟩
theorem qdV (h:C) (t:Hid C->A:=by intro h;refine qbl ?_;refine G0 (zct rfl rfl rfl znw yj) ?_;refine G0 (zh rfl rfl zeS) ?_;exact h.1):A:=t ⟨h⟩
theorem qdW (h:C) (t:Hid C->A:=by intro h;refine qbC ?_;refine X0 zkD ?_;refine X0 zhZ ?_;exact h.1):A:=t ⟨h⟩
theorem qdX (h:C) (t:Hid C->A:=by intro h;refine G0 (zrt rfl rfl rfl) ?_;exact h.1):A:=t ⟨h⟩
theorem qdY (h:C) (t:Hid C->A:=by intro h;refine G0 (g_and32 rfl rfl rfl) ?_;exact h.1):A:=t ⟨h⟩
theorem qdZ (h:C) (t:Hid C->A:=by intro h;refine A0 (oFr zdg zaX) ?_;refine A0 (zh rfl rfl zbC) ?_;exact h.1):A:=t ⟨h⟩
theorem qea (h:C) (t:Hid C->A:=by intro h;refine A0 (oFp za1) ?_;refine A0 (zaf rfl rfl rfl rfl rfl zcy) ?_;exact h.1):A:=t ⟨h⟩
theorem qeb (h:C) (t:Hid C->A:=by intro h;refine A1 (oFp zed) ?_;refine A1 (oLb zem ty_3) ?_;exact h.1):A:=t ⟨h⟩
theorem qec (h:C) (t:Hid C->A:=by intro h;refine A0 (oFp zb3) ?_;refine A0 (oLb zcc zcl) ?_;exact h.1):A:=t ⟨h⟩
theorem qed (h:C) (t:Hid C->A:=by intro h;refine A0 (oFp zfX) ?_;refine A0 (oLb zhg ty_3) ?_;exact h.1):A:=t ⟨h⟩
theorem qee (h:C) (t:Hid C->A:=by intro h;refine CSQR ?_;refine A0 mO ?_;exact h.1):A:=t ⟨h⟩
theorem qef (h:C) (t:Hid C->A:=by intro h;refine G0 mO ?_;refine G0 mV ?_;refine G0 zc3 ?_;exact h.1):A:=t ⟨h⟩
theorem qeg (h:C) (t:Hid C->A:=by intro h;refine X0 (oLs rfl rfl rfl zbZ) ?_;exact h.1):A:=t ⟨h⟩
theorem qeh (h:C) (t:Hid C->A:=by intro h;refine CSQBQR ?_;exact h.1):A:=t ⟨h⟩
theorem qei (h:C) (t:Hid C->A:=by intro h;refine A0 (by first|exact zaf rfl rfl rfl rfl rfl ty_301|exact zon rfl rfl rfl rfl ty_301) ?_;exact h.1):A:=t ⟨h⟩
theorem qej (h:C) (t:Hid C->A:=by intro h;refine CSQR ?_;refine qal ?_;exact h.1):A:=t ⟨h⟩
theorem qek (h:C) (t:Hid C->A:=by intro h;refine A0 (zaf rfl rfl rfl rfl rfl zkb) ?_;exact h.1):A:=t ⟨h⟩
theorem qel (h:C) (t:Hid C->A:=by intro h;refine G1 (oFr zbA zbe) ?_;refine G1 (zh rfl rfl zbZ) ?_;exact h.1):A:=t ⟨h⟩
theorem qem (h:C) (t:Hid C->A:=by intro h;refine A0 aO ?_;refine qb8 ?_;exact h.1):A:=t ⟨h⟩
theorem qen (h:C) (t:Hid C->A:=by intro h;refine A0 (zaC rfl rfl zpS) ?_;exact h.1):A:=t ⟨h⟩
theorem qeo (h:C) (t:Hid C->A:=by intro h;refine CQR ?_;refine A0 (zrp rfl zhL ze_49 rfl) ?_;refine qbP ?_;exact h.1):A:=t ⟨h⟩
theorem qep (h:C) (t:Hid C->A:=by intro h;refine A1 zd7 ?_;refine qai ?_;exact h.1):A:=t ⟨h⟩
theorem qeq (h:C) (t:Hid C->A:=by intro h;refine A1 (zaC rfl rfl zfT) ?_;refine A1 mV ?_;refine A1 zc3 ?_;exact h.1):A:=t ⟨h⟩
theorem qer (h:C) (t:Hid C->A:=by intro h;refine qab ?_;refine qaZ ?_;refine qaE ?_;exact h.1):A:=t ⟨h⟩
theorem qes (h:C) (t:Hid C->A:=by intro h;refine qbd ?_;refine qa7 ?_;exact h.1):A:=t ⟨h⟩
theorem qet (h:C) (t:Hid C->A:=by intro h;refine qaA ?_;refine qaf ?_;refine CNR ?_;refine qa2 ?_;refine qbi ?_;exact h.1):A:=t ⟨h⟩
theorem qeu (h:C) (t:Hid C->A:=by intro h;refine zco 4 2 5 rfl rfl rfl rfl rfl rfl ?_;exact h.1):A:=t ⟨h⟩
theorem qev (h:C) (t:Hid C->A:=by intro h;refine CQR ?_;refine qb2 ?_;exact h.1):A:=t ⟨h⟩
theorem qew (h:C) (t:Hid C->A:=by intro h;refine qai ?_;refine A2 ?_;refine qay ?_;refine qaH ?_;refine qcA ?_;exact h.1):A:=t ⟨h⟩
theorem qex (h:C) (t:Hid C->A:=by intro h;refine A0 (g_mkf (caps:=[_]) rfl rfl) ?_;exact h.1):A:=t ⟨h⟩
theorem qey (h:C) (t:Hid C->A:=by intro h;refine zN ztY rfl rfl rfl rfl ?_;exact h.1):A:=t ⟨h⟩
theorem qez (h:C) (t:Hid C->A:=by intro h;refine A0 (oLs rfl rfl rfl zji) ?_;exact h.1):A:=t ⟨h⟩
theorem qe0 (h:C) (t:Hid C->A:=by intro h;refine A0 (zg0 rfl (ui_234) (us_3) rfl) ?_;exact h.1):A:=t ⟨h⟩
theorem qe1 (h:C) (t:Hid C->A:=by intro h;refine X0 (oFp zfV) ?_;refine X0 (oFp zcV) ?_;exact h.1):A:=t ⟨h⟩
theorem qe2 (h:C) (t:Hid C->A:=by intro h;refine qcE ?_;refine G0 (oLs rfl rfl rfl zY) ?_;refine G0 (zgZ rfl rfl rfl (zix)) ?_;exact h.1):A:=t ⟨h⟩
theorem qe3 (h:C) (t:Hid C->A:=by intro h;refine A0 (oFp za1) ?_;refine zay rfl rfl rfl rfl rfl rfl rfl rfl rfl rfl zcy ?_;exact h.1):A:=t ⟨h⟩
theorem qe4 (h:C) (t:Hid C->A:=by intro h;refine A0 (zW (T:=zaz) (xs:=[_]) rfl zqG row_46 yA rfl rfl) ?_;exact h.1):A:=t ⟨h⟩
theorem qe5 (h:C) (t:Hid C->A:=by intro h;refine CR ?_;refine qaz ?_;exact h.1):A:=t ⟨h⟩
theorem qe6 (h:C) (t:Hid C->A:=by intro h;refine XK.nil' ?_;exact h.1):A:=t ⟨h⟩
theorem qe7 (h:C) (t:Hid C->A:=by intro h;refine CE ?_;refine CQ ?_;exact h.1):A:=t ⟨h⟩
theorem qe8 (h:C) (t:Hid C->A:=by intro h;refine CQR ?_;refine qaR ?_;exact h.1):A:=t ⟨h⟩
theorem qe9 (h:C) (t:Hid C->A:=by intro h;refine qae ?_;refine qaj ?_;exact h.1):A:=t ⟨h⟩
theorem qeA (h:C) (t:Hid C->A:=by intro h;refine qaH ?_;refine qat ?_;exact h.1):A:=t ⟨h⟩
theorem qeB (h:C) (t:Hid C->A:=by intro h;refine A0 (g_rem32 rfl rfl rfl yl) ?_;refine A0 (zmE rfl (ui_5) (zqA) rfl) ?_;exact h.1):A:=t ⟨h⟩
theorem qeC (h:C) (t:Hid C->A:=by intro h;refine G1 (oFp zcI) ?_;refine G1 (oLb zal ty_3) ?_;exact h.1):A:=t ⟨h⟩
theorem qeD (h:C) (t:Hid C->A:=by intro h;refine G3 ?_;refine G3 ?_;refine G3 ?_;refine G3 ?_;refine G3 ?_;exact h.1):A:=t ⟨h⟩
theorem qeE (h:C) (t:Hid C->A:=by intro h;refine CSQR ?_;refine qad ?_;exact h.1):A:=t ⟨h⟩
theorem qeF (h:C) (t:Hid C->A:=by intro h;refine A0 (zrp rfl zbm zo3 rfl) ?_;exact h.1):A:=t ⟨h⟩
theorem qeG (h:C) (t:Hid C->A:=by intro h;refine A0 mX ?_;refine qas ?_;refine qbe ?_;exact h.1):A:=t ⟨h⟩
theorem qeH (h:C) (t:Hid C->A:=by intro h;refine A0 (g_mul64 rfl rfl rfl) ?_;exact h.1):A:=t ⟨h⟩
theorem qeI (h:C) (t:Hid C->A:=by intro h;refine A0 (zrs rfl rfl rfl) ?_;exact h.1):A:=t ⟨h⟩
theorem qeJ (h:C) (t:Hid C->A:=by intro h;refine qav ?_;refine qaj ?_;exact h.1):A:=t ⟨h⟩
theorem qeK (h:C) (t:Hid C->A:=by intro h;refine A1 zcq ?_;refine qat ?_;exact h.1):A:=t ⟨h⟩
theorem qeL (h:C) (t:Hid C->A:=by intro h;refine qaU ?_;refine qa5 ?_;refine qaz ?_;refine A0 zd7 ?_;refine qaf ?_;refine qad ?_;exact h.1):A:=t ⟨h⟩
theorem qeM (h:C) (t:Hid C->A:=by intro h;refine CSQR ?_;refine qa9 ?_;exact h.1):A:=t ⟨h⟩
theorem qeN (h:C) (t:Hid C->A:=by intro h;refine A0 (oFp zcJ) ?_;refine A0 (oLb zby zaO) ?_;exact h.1):A:=t ⟨h⟩
theorem qeO (h:C) (t:Hid C->A:=by intro h;refine A0 (zmE rfl (ui_5) (us_3) rfl) ?_;exact h.1):A:=t ⟨h⟩
theorem qeP (h:C) (t:Hid C->A:=by intro h;refine qae ?_;refine qaC ?_;refine CNQR ?_;exact h.1):A:=t ⟨h⟩
theorem qeQ (h:C) (t:Hid C->A:=by intro h;refine A0 (zh rfl rfl zY) ?_;exact h.1):A:=t ⟨h⟩
theorem qeR (h:C) (t:Hid C->A:=by intro h;refine qbQ ?_;refine A0 aL ?_;exact h.1):A:=t ⟨h⟩
theorem qeS (h:C) (t:Hid C->A:=by intro h;refine CS ?_;refine CI ?_;exact h.1):A:=t ⟨h⟩
theorem qeT (h:C) (t:Hid C->A:=by intro h;refine A0 (g_sl_lh rfl rfl rfl rfl zb0 yh) ?_;exact h.1):A:=t ⟨h⟩
theorem qeU (h:C) (t:Hid C->A:=by intro h;refine A0 aO ?_;refine qbi ?_;exact h.1):A:=t ⟨h⟩
theorem qeV (h:C) (t:Hid C->A:=by intro h;refine qaj ?_;refine qa9 ?_;exact h.1):A:=t ⟨h⟩
theorem qeW (h:C) (t:Hid C->A:=by intro h;refine qae ?_;refine qa1 ?_;refine CNQR ?_;exact h.1):A:=t ⟨h⟩
theorem qeX (h:C) (t:Hid C->A:=by intro h;refine CSIR ?_;refine qcn ?_;refine qad ?_;exact h.1):A:=t ⟨h⟩
theorem qeY (h:C) (t:Hid C->A:=by intro h;refine qaU ?_;refine A0 mO ?_;exact h.1):A:=t ⟨h⟩
theorem qeZ (h:C) (t:Hid C->A:=by intro h;refine X0 (oFp zef) ?_;refine X0 (oLb zcX ty_3) ?_;exact h.1):A:=t ⟨h⟩
theorem qfa (h:C) (t:Hid C->A:=by intro h;refine G0 (zh rfl rfl zbZ) ?_;exact h.1):A:=t ⟨h⟩
theorem qfb (h:C) (t:Hid C->A:=by intro h;refine A1 (oFp zow) ?_;refine A1 (oLb zjf ty_3) ?_;exact h.1):A:=t ⟨h⟩
theorem qfc (h:C) (t:Hid C->A:=by intro h;refine A0 (zh rfl rfl zbC) ?_;refine A0 (zol rfl rfl rfl yl) ?_;exact h.1):A:=t ⟨h⟩
theorem qfd (h:C) (t:Hid C->A:=by intro h;refine A1 (oFp zhz) ?_;refine A1 (oLb zje ty_3) ?_;exact h.1):A:=t ⟨h⟩
theorem qfe (h:C) (t:Hid C->A:=by intro h;refine zda rfl rfl rfl rfl rfl rfl yj (Lens.self _) ty_5 rfl ?_;exact h.1):A:=t ⟨h⟩
theorem qff (h:C) (t:Hid C->A:=by intro h;refine qaS ?_;refine qaI ?_;exact h.1):A:=t ⟨h⟩
theorem qfg (h:C) (t:Hid C->A:=by intro h;refine qag ?_;refine qaT ?_;exact h.1):A:=t ⟨h⟩
theorem qfh (h:C) (t:Hid C->A:=by intro h;refine qav ?_;refine qa1 ?_;refine qaj ?_;exact h.1):A:=t ⟨h⟩
theorem qfi (h:C) (t:Hid C->A:=by intro h;refine A0 (oCl (target_ok _) rfl fn_113 yd) ?_;refine qcM ?_;exact h.1):A:=t ⟨h⟩
theorem qfj (h:C) (t:Hid C->A:=by intro h;refine qbl ?_;refine G0 (zct rfl rfl rfl zce yj) ?_;refine qcE ?_;exact h.1):A:=t ⟨h⟩
theorem qfk (h:C) (t:Hid C->A:=by intro h;refine qac ?_;refine qac ?_;refine qac ?_;refine qct ?_;refine qdN ?_;refine qaY ?_;exact h.1):A:=t ⟨h⟩
theorem qfl (h:C) (t:Hid C->A:=by intro h;refine A0 mR ?_;refine A0 (zep rfl rfl) ?_;refine A0 (oFr zeO ziK) ?_;exact h.1):A:=t ⟨h⟩
theorem qfm (h:C) (t:Hid C->A:=by intro h;refine qcL ?_;refine A0 (oFp zhC) ?_;exact h.1):A:=t ⟨h⟩
theorem qfn (h:C) (t:Hid C->A:=by intro h;refine ztN rfl rfl rfl rfl rfl ?_;exact h.1):A:=t ⟨h⟩
theorem qfo (h:C) (t:Hid C->A:=by intro h;refine A0 (oLs rfl rfl rfl zfr) ?_;exact h.1):A:=t ⟨h⟩
theorem qfp (h:C) (t:Hid C->A:=by intro h;refine G0 (zh rfl rfl ty_3) ?_;exact h.1):A:=t ⟨h⟩
theorem qfq (h:C) (t:Hid C->A:=by intro h;refine qeh ?_;refine A0 (zlM rfl rfl rfl rfl ar_120 ty_118 yj) ?_;exact h.1):A:=t ⟨h⟩
theorem qfr (h:C) (t:Hid C->A:=by intro h;refine qaH ?_;refine A2 ?_;refine qat ?_;exact h.1):A:=t ⟨h⟩
theorem qfs (h:C) (t:Hid C->A:=by intro h;refine A0 zgb ?_;refine qad ?_;exact h.1):A:=t ⟨h⟩
theorem qft (h:C) (t:Hid C->A:=by intro h;refine qbp ?_;refine qaj ?_;refine A0 mF ?_;refine qal ?_;exact h.1):A:=t ⟨h⟩
theorem qfu (h:C) (t:Hid C->A:=by intro h;refine qau ?_;refine CN ?_;exact h.1):A:=t ⟨h⟩
theorem qfv (h:C) (t:Hid C->A:=by intro h;refine A0 zc3 ?_;exact h.1):A:=t ⟨h⟩
theorem qfw (h:C) (t:Hid C->A:=by intro h;refine qcR ?_;refine A0 mX ?_;exact h.1):A:=t ⟨h⟩
theorem qfx (h:C) (t:Hid C->A:=by intro h;refine A0 aV ?_;refine qaR ?_;exact h.1):A:=t ⟨h⟩
theorem qfy (h:C) (t:Hid C->A:=by intro h;refine A0 (zct rfl rfl rfl zua yj) ?_;exact h.1):A:=t ⟨h⟩
theorem qfz (h:C) (t:Hid C->A:=by intro h;refine G1 mV ?_;refine G1 mV ?_;exact h.1):A:=t ⟨h⟩
theorem qf0 (h:C) (t:Hid C->A:=by intro h;refine qac ?_;refine qaP ?_;exact h.1):A:=t ⟨h⟩
theorem qf1 (h:C) (t:Hid C->A:=by intro h;refine CNR ?_;refine qaz ?_;exact h.1):A:=t ⟨h⟩
theorem qf2 (h:C) (t:Hid C->A:=by intro h;refine X0 (g_nc rfl rfl) ?_;exact h.1):A:=t ⟨h⟩
theorem qf3 (h:C) (t:Hid C->A:=by intro h;refine qcc ?_;refine qd9 ?_;refine qbL ?_;refine qbS ?_;exact h.1):A:=t ⟨h⟩
theorem qf4 (h:C) (t:Hid C->A:=by intro h;refine qbd ?_;refine qaD ?_;refine qbM ?_;refine qa7 ?_;exact h.1):A:=t ⟨h⟩
theorem qf5 (h:C) (t:Hid C->A:=by intro h;refine CQR ?_;refine qaj ?_;exact h.1):A:=t ⟨h⟩
theorem qf6 (h:C) (t:Hid C->A:=by intro h;refine qaz ?_;refine qab ?_;exact h.1):A:=t ⟨h⟩
theorem qf7 (h:C) (t:Hid C->A:=by intro h;refine qeh ?_;refine qal ?_;exact h.1):A:=t ⟨h⟩
theorem qf8 (h:C) (t:Hid C->A:=by intro h;refine qa0 ?_;refine qad ?_;exact h.1):A:=t ⟨h⟩
theorem qf9 (h:C) (t:Hid C->A:=by intro h;refine qch ?_;refine qbV ?_;exact h.1):A:=t ⟨h⟩
theorem qfA (h:C) (t:Hid C->A:=by intro h;refine A0 (oFr zcI zal) ?_;refine qbs ?_;exact h.1):A:=t ⟨h⟩
theorem qfB (h:C) (t:Hid C->A:=by intro h;refine A0 (zc8 rfl rfl rfl rfl yj (Lens.self _) ty_3) ?_;exact h.1):A:=t ⟨h⟩
theorem qfC (h:C) (t:Hid C->A:=by intro h;refine qaI ?_;refine G0 (oFp zb3) ?_;refine G0 (oLb zcc zcl) ?_;exact h.1):A:=t ⟨h⟩
theorem qfD (h:C) (t:Hid C->A:=by intro h;refine X0 aO ?_;refine qaV ?_;refine qan ?_;exact h.1):A:=t ⟨h⟩
theorem qfE (h:C) (t:Hid C->A:=by intro h;refine CS ?_;refine CQ ?_;exact h.1):A:=t ⟨h⟩
theorem qfF (h:C) (t:Hid C->A:=by intro h;refine G0 mP ?_;refine G0 (g_nc rfl rfl) ?_;exact h.1):A:=t ⟨h⟩
theorem qfG (h:C) (t:Hid C->A:=by intro h;refine qcP ?_;refine qaL ?_;refine qdO ?_;refine G0 oN ?_;refine G0 mV ?_;exact h.1):A:=t ⟨h⟩
theorem qfH (h:C) (t:Hid C->A:=by intro h;refine CQR ?_;refine qa9 ?_;exact h.1):A:=t ⟨h⟩
theorem qfI (h:C) (t:Hid C->A:=by intro h;refine CNQR ?_;refine A0 aL ?_;exact h.1):A:=t ⟨h⟩
theorem qfJ (h:C) (t:Hid C->A:=by intro h;refine CR ?_;refine qal ?_;exact h.1):A:=t ⟨h⟩
theorem qfK (h:C) (t:Hid C->A:=by intro h;refine A0 (g_mkf (caps:=[_,_]) rfl rfl) ?_;exact h.1):A:=t ⟨h⟩
theorem qfL (h:C) (t:Hid C->A:=by intro h;refine za7 (T:=idT) (d:=3) 49 rfl ?_;exact h.1):A:=t ⟨h⟩
theorem qfM (h:C) (t:Hid C->A:=by intro h;refine G1 (zgY rfl rfl rfl (zix)) ?_;exact h.1):A:=t ⟨h⟩
theorem qfN (h:C) (t:Hid C->A:=by intro h;refine X0 (oLs rfl rfl rfl zY) ?_;exact h.1):A:=t ⟨h⟩
theorem qfO (h:C) (t:Hid C->A:=by intro h;refine A0 (oLs rfl rfl rfl zgu) ?_;exact h.1):A:=t ⟨h⟩
theorem qfP (h:C) (t:Hid C->A:=by intro h;refine qbf ?_;refine qbf ?_;refine A0 (zgZ rfl rfl rfl (zix)) ?_;exact h.1):A:=t ⟨h⟩
theorem qfQ (h:C) (t:Hid C->A:=by intro h;refine G0 aV ?_;refine qaM ?_;exact h.1):A:=t ⟨h⟩
theorem qfR (h:C) (t:Hid C->A:=by intro h;refine qbd ?_;refine qb5 ?_;exact h.1):A:=t ⟨h⟩
theorem qfS (h:C) (t:Hid C->A:=by intro h;refine A0 (zbS rfl rfl rfl zpU) ?_;exact h.1):A:=t ⟨h⟩
theorem qfT (h:C) (t:Hid C->A:=by intro h;refine qaU ?_;refine qbf ?_;refine qbP ?_;exact h.1):A:=t ⟨h⟩
theorem qfU (h:C) (t:Hid C->A:=by intro h;refine CQR ?_;refine qcm ?_;refine qbD ?_;refine qen ?_;refine qdh ?_;exact h.1):A:=t ⟨h⟩
theorem qfV (h:C) (t:Hid C->A:=by intro h;refine qaA ?_;refine qcw ?_;refine qa0 ?_;exact h.1):A:=t ⟨h⟩
theorem qfW (h:C) (t:Hid C->A:=by intro h;refine qar ?_;refine qck ?_;exact h.1):A:=t ⟨h⟩
theorem qfX (h:C) (t:Hid C->A:=by intro h;refine A0 zhZ ?_;exact h.1):A:=t ⟨h⟩
theorem qfY (h:C) (t:Hid C->A:=by intro h;refine A1 mV ?_;exact h.1):A:=t ⟨h⟩
theorem qfZ (h:C) (t:Hid C->A:=by intro h;refine X0 (oCl (zoc _) rfl fn_23 yd) ?_;exact h.1):A:=t ⟨h⟩
theorem qga (h:C) (t:Hid C->A:=by intro h;refine qc9 ?_;refine A1 (zaC rfl rfl isl_99) ?_;exact h.1):A:=t ⟨h⟩
theorem qgb (h:C) (t:Hid C->A:=by intro h;refine zN znk rfl rfl rfl rfl ?_;exact h.1):A:=t ⟨h⟩
theorem qgc (h:C) (t:Hid C->A:=by intro h;refine X0 (zaf rfl rfl rfl rfl rfl zkb) ?_;exact h.1):A:=t ⟨h⟩
theorem qgd (h:C) (t:Hid C->A:=by intro h;refine zay rfl rfl rfl rfl rfl rfl rfl rfl rfl rfl zkb ?_;exact h.1):A:=t ⟨h⟩
theorem qge (h:C) (t:Hid C->A:=by intro h;refine zg rfl rfl rfl rfl rfl (Lens.self _) zeS rfl ?_;exact h.1):A:=t ⟨h⟩
theorem qgf (h:C) (t:Hid C->A:=by intro h;refine CB ?_;refine CQR ?_;exact h.1):A:=t ⟨h⟩
theorem qgg (h:C) (t:Hid C->A:=by intro h;refine qbk ?_;refine CN ?_;exact h.1):A:=t ⟨h⟩
theorem qgh (h:C) (t:Hid C->A:=by intro h;refine A0 (zh rfl rfl zgu) ?_;refine qey ?_;refine qcd ?_;exact h.1):A:=t ⟨h⟩
theorem qgi (h:C) (t:Hid C->A:=by intro h;refine CSQR ?_;refine A0 (zaf rfl rfl rfl rfl rfl ty_189) ?_;exact h.1):A:=t ⟨h⟩
theorem qgj (h:C) (t:Hid C->A:=by intro h;refine A0 (oFp zhy) ?_;refine A0 (oLb zeI zeS) ?_;exact h.1):A:=t ⟨h⟩
theorem qgk (h:C) (t:Hid C->A:=by intro h;refine CNQR ?_;refine A0 mP ?_;exact h.1):A:=t ⟨h⟩
theorem qgl (h:C) (t:Hid C->A:=by intro h;refine A1 (oFp zec) ?_;refine A1 (oLb zgt zkb) ?_;exact h.1):A:=t ⟨h⟩
theorem qgm (h:C) (t:Hid C->A:=by intro h;refine A1 (g_eqlB rfl rfl rfl ub_4) ?_;exact h.1):A:=t ⟨h⟩
theorem qgn (h:C) (t:Hid C->A:=by intro h;refine CNQR ?_;refine A0 mO ?_;exact h.1):A:=t ⟨h⟩
end
set_option maxRecDepth 20000
theorem zv8 (x:Int):Tells P 212 [.val i64T x] (.val zo false):=by
 refine zc Tryz.func212 rfl rfl rfl (fun ext w hext=>?_);refine ze (d:=0) rfl zz (fun hin0=>?_);refine CQR ?_;refine qbL ?_;refine A0 zd1 ?_;refine qad ?_;exact zb rfl rfl (zdf (by simp[Fr.set]))
def zjy (x y:Int):Int:=if x<y then -1 else if y<x then 1 else 0
theorem cmpInt_ok (x y:Int):Tells P 330 [.val i64T x,.val i64T y] (.val i64T (zjy x y)):=by
 refine zc Tryz.func330 rfl rfl rfl (fun ext w hext=>?_);refine ze (d:=0) rfl zz (fun hin0=>?_);refine ze (d:=1) rfl zz (fun hin1=>?_);refine qe8 ?_;refine A0 (oCl (zv8 _) rfl fn_212 yd) ?_;refine qaR ?_;refine A0 (oCl (zv8 _) rfl fn_212 yd) ?_;refine qag ?_;refine CN ?_;refine Cg ?_;refine qcb ?_;refine CN ?_;refine Cg ?_;refine CSQQR ?_;refine qal ?_;refine qa7 ?_;refine zl (p:=x<y) rfl (rfl) (fun ht16=>?_) (fun ht16=>?_)
 .
  refine qar ?_;exact zb rfl rfl (za rfl y9)
 refine CSQQR ?_;refine qal ?_;refine qc2 ?_;refine zl (p:=y<x) rfl (rfl) (fun ht19=>?_) (fun ht19=>?_)
 .
  refine qar ?_;exact zb rfl rfl (za rfl y9)
 refine qeE ?_;exact zb rfl rfl (za rfl y9)
theorem uu_22:P.underlying 22=some (.slice 5):=yt
def idx {α:Type} (p:α->Bool):List α->Int
  | []=>-1
  | x::l=>if p x then 0 else if idx p l<0 then -1 else idx p l+1
def shift (k:Nat) (n:Int):Int:=if n<0 then -1 else n+k
theorem zkO {α:Type} (p:α->Bool):∀l,-1<=idx p l
  | []=>by simp[idx]
  | x::l=>by have:=zkO p l;unfold idx;split<;>first|omega|(split<;>omega)
theorem zgA {α:Type} {p:α->Bool} {l:List α} {k:Nat} {x:α} (h:l[k]?=some x) (hp:p x=true):shift k (idx p (l.drop k))=k:=by
  obtain⟨hk,rfl⟩:=ul.1 h;rw[drop_eq_getElem_cons hk];simp[idx,hp,shift]
theorem zjs {α:Type} {p:α->Bool} {l:List α} {k:Nat} {x:α} (h:l[k]?=some x) (hp:¬p x=true):shift k (idx p (l.drop k))=shift (k+1) (idx p (l.drop (k+1))):=by
  obtain⟨hk,rfl⟩:=ul.1 h;rw[drop_eq_getElem_cons hk];have h2:=zkO p (l.drop (k+1));simp only[idx,ur hp];generalize idx p (l.drop (k+1))=n at *;unfold shift;by_cases c:n<0
  . rw[ut c,ut c];rfl
  rw[ur c,ur c,ur ya];omega
theorem zcC {α:Type} (p:α->Bool) (l:List α):idx p l=shift 0 (idx p (l.drop 0)):=by
  have:=zkO p l
  unfold shift;simp only[List.drop_zero]
  split<;>omega
theorem zfU {α:Type} {p:α->Bool} {l:List α} {k:Nat} (h:l.length<=k):shift k (idx p (l.drop k)) = -1:=by
  rw[List.drop_of_length_le h];simp[idx,shift]
theorem zio {α:Type} (p:α->Bool):∀l,decide (0<=idx p l)=l.any p
  | []=>by simp[idx]
  | x::l=>by
    have ih:=zio p l
    have:=zkO p l
    rw[List.any_cons,<-ih];by_cases c:p x=true
    . simp[idx,c]
    simp only[idx,ur c,Bool.not_eq_true] at *;rw[c,Bool.false_or,uo]
    split<;>omega
theorem zbN {α:Type} [DecidableEq α] {l m:List α} {k:Nat} {x y:α} (hx:l[k]?=some x) (hy:m[k]?=some y) (h:l.take k=m.take k) (e:x=y):l.take (k+1)=m.take (k+1):=by
  rw[un,un,h,hx,hy,e]
theorem zd8 {α:Type} {l m:List α} {k:Nat} {x y:α} (hx:l[k]?=some x) (hy:m[k]?=some y) (e:¬x=y):¬l=m:=fun h=>e (by rw[h,hy] at hx;injection hx with hx;exact hx.symm)
theorem zrk (l:List Coin) (p:Coin->Bool):Tells P 333 [.val (bsl zbq) l,.fn1 P zbq zo p] (.val i64T (idx p l)):=by
 refine zc Tryz.func333 rfl rfl rfl (fun ext w hext=>?_);refine ze (d:=0) rfl zk (fun hsl0=>?_);refine qcK ?_;refine A0 (zaC rfl rfl zjr) ?_;refine qaF ?_;refine Lp (ι:=Nat) 0 (fun (k:Nat)=>(((((Fr.none).set 0 (.val (bsl zbq) l)).set 1 (.fn1 P zbq zo p)).set 6 (.val (bsl zbq) l)).set 7 (.val i64T (l.length:Int))).set 8 (.val i64T (k:Int))) (fun (k:Nat)=>Hp.none) (fun (k:Nat)=>k<=l.length/\idx p l=shift k (idx p (l.drop k))) (fun (k:Nat)=>l.length-k) (0) (⟨uf _,zcC p l⟩) ?_;intro k hinv;refine qap ?_;refine Cf (p:=k<l.length) (fun ht9=>?_) (fun ht9=>?_)
 .
  obtain⟨x,hx⟩:∃x,l[k]?=some x:=yaN;refine qft ?_;refine A0 (zct rfl rfl rfl zmt yj) ?_;refine A0 (zh rfl rfl zpo) ?_;refine qbr ?_;refine zl (p:=p x=true) rfl yw (fun ht16=>?_) (fun ht16=>?_)
  .
   refine qd3 ?_;exact zb rfl rfl (za rfl (hinv.2.trans (zgA hx ht16)).symm)
  refine qbt ?_;exact Nx (k+1) (⟨by omega,hinv.2.trans (zjs hx ht16)⟩) ya
 refine qcs ?_;exact zb rfl rfl (za rfl (hinv.2.trans (zfU ya)).symm)
theorem zmH (l:List Coin) (p:Coin->Bool):Tells P 286 [.val (bsl zbq) l,.fn1 P zbq zo p] (.val zo (l.any p)):=by
 refine zc Tryz.func286 rfl rfl rfl (fun ext w hext=>?_);refine ze (d:=0) rfl zk (fun hsl0=>?_);refine qe8 ?_;refine A0 mF ?_;refine A0 (oCl (zrk _ _) rfl fn_333 ⟨yk,(zae rfl rfl),trivial⟩) ?_;refine qfs ?_;exact zb rfl rfl (za rfl (zio p l))
theorem zsY (l:List Out) (p:Out->Bool):Tells P 271 [.val (bsl outT) l,.fn1 P outT zo p] (.val i64T (idx p l)):=by
 refine zc Tryz.func271 rfl rfl rfl (fun ext w hext=>?_);refine ze (d:=0) rfl zk (fun hsl0=>?_);refine qcK ?_;refine qdz ?_;refine qaF ?_;refine Lp (ι:=Nat) 0 (fun (k:Nat)=>(((((Fr.none).set 0 (.val (bsl outT) l)).set 1 (.fn1 P outT zo p)).set 6 (.val (bsl outT) l)).set 7 (.val i64T (l.length:Int))).set 8 (.val i64T (k:Int))) (fun (k:Nat)=>Hp.none) (fun (k:Nat)=>k<=l.length/\idx p l=shift k (idx p (l.drop k))) (fun (k:Nat)=>l.length-k) (0) (⟨uf _,zcC p l⟩) ?_;intro k hinv;refine qap ?_;refine Cf (p:=k<l.length) (fun ht9=>?_) (fun ht9=>?_)
 .
  obtain⟨x,hx⟩:∃x,l[k]?=some x:=yaN;refine qft ?_;refine qfy ?_;refine A0 (zh rfl rfl zjl) ?_;refine qbr ?_;refine zl (p:=p x=true) rfl yw (fun ht16=>?_) (fun ht16=>?_)
  .
   refine qd3 ?_;exact zb rfl rfl (za rfl (hinv.2.trans (zgA hx ht16)).symm)
  refine qbt ?_;exact Nx (k+1) (⟨by omega,hinv.2.trans (zjs hx ht16)⟩) ya
 refine qcs ?_;exact zb rfl rfl (za rfl (hinv.2.trans (zfU ya)).symm)
theorem zoB (l:List Out) (p:Out->Bool):Tells P 222 [.val (bsl outT) l,.fn1 P outT zo p] (.val zo (l.any p)):=by
 refine zc Tryz.func222 rfl rfl rfl (fun ext w hext=>?_);refine ze (d:=0) rfl zk (fun hsl0=>?_);refine qe8 ?_;refine A0 mF ?_;refine A0 (oCl (zsY _ _) rfl fn_271 ⟨yk,(zae rfl rfl),trivial⟩) ?_;refine qfs ?_;exact zb rfl rfl (za rfl (zio p l))
theorem ziC (l:List Coin) (hl:l.length*56<=140737488355328/\l.length<=9223372036854775807):Tells P 193 [.val (bsl zbq) l] (.fresh 293 zbq l):=by
 refine zc Tryz.func193 rfl rfl rfl (fun ext w hext=>?_);refine ze (d:=0) rfl zk (fun hsl0=>?_);refine qdK ?_;refine zfB rfl rfl rfl rfl rfl zjr (fun c4 hc4=>?_);refine CN ?_;refine zl (p:=c4=true) rfl yw (fun ht4=>?_) (fun ht4=>?_)
 .
  obtain rfl:=hc4 ht4;refine qfu ?_;exact zb rfl rfl (zs rfl)
 refine CSQR ?_;refine zbg (T:=zbq) (xs:=[]) rfl rfl rfl rfl zmt zpE trivial rfl rfl ?_;refine qaz ?_;refine zp rfl rfl rfl rfl rfl rfl rfl zpE yaD ?_;refine qbG ?_;exact zb rfl rfl (zf rfl rfl yw)
theorem ext_bcmp:ExtAt P 362 Extern.BytealgCompare.compare:=⟨_,rfl,rfl,rfl,rfl,rfl⟩
def orL:List Int->Int
  | []=>0
  | x::l=>if x=0 then orL l else x
theorem orL_step {l:List Int} {k:Nat} {x:Int} (h:l[k]?=some x) (e:¬x≠0):orL (l.drop k)=orL (l.drop (k+1)):=by
  obtain⟨hk,rfl⟩:=ul.1 h;rw[drop_eq_getElem_cons hk];simp[orL,ua e]
theorem orL_hit {l:List Int} {k:Nat} {x:Int} (h:l[k]?=some x) (e:x≠0):orL (l.drop k)=x:=by
  obtain⟨hk,rfl⟩:=ul.1 h;rw[drop_eq_getElem_cons hk];simp[orL,e]
theorem orInt (l:List Int):Tells P 278 [.val (bsl i64T) l] (.val i64T (orL l)):=by
 refine zc Tryz.func278 rfl rfl rfl (fun ext w hext=>?_);refine ze (d:=0) rfl zk (fun hsl0=>?_);refine qf5 ?_;refine qag ?_;refine qbw ?_;refine qaF ?_;refine Lp (ι:=Nat) 0 (fun (k:Nat)=>((((Fr.none).set 3 (.val i64T 0)).set 6 (.val (bsl i64T) l)).set 7 (.val i64T (l.length:Int))).set 8 (.val i64T (k:Int))) (fun (k:Nat)=>Hp.none) (fun (k:Nat)=>k<=l.length/\orL l=orL (l.drop k)) (fun (k:Nat)=>l.length-k) (0) (⟨uf _,rfl⟩) ?_;intro k hinv;refine qap ?_;refine Cf (p:=k<l.length) (fun ht9=>?_) (fun ht9=>?_)
 .
  obtain⟨x,hx⟩:∃x,l[k]?=some x:=yaN;refine qeh ?_;refine qdw ?_;refine qfw ?_;refine qaz ?_;refine qaG ?_;refine zl (p:=x≠0) rfl yx (fun ht14=>?_) (fun ht14=>?_)
  .
   refine qcq ?_;exact zb rfl rfl (za rfl (hinv.2.trans (orL_hit hx ht14)).symm)
  refine qbt ?_;exact Nx (k+1) (⟨by omega,hinv.2.trans (orL_step hx ht14)⟩) ya
 refine qdl ?_;exact zb rfl rfl (za rfl (by rw[hinv.2,List.drop_of_length_le ya];rfl))
theorem bcompare (a b:List UInt8):Tells P 329 [.val (bsl u8T) a,.val (bsl u8T) b] (.val i64T (Lib.compareBytes a b)):=by
 refine zc Tryz.func329 rfl rfl rfl (fun ext w hext=>?_);refine ze (d:=0) rfl zk (fun hsl0=>?_);refine ze (d:=1) rfl zk (fun hsl1=>?_);refine CQR ?_;refine qbL ?_;refine A0 (g_bcmp rfl ext_bcmp rfl rfl) ?_;refine qbe ?_;exact zb rfl rfl yE
def zbj (a b:In):Int:=orL [Lib.compareBytes a.tx b.tx,zjy a.i b.i]
theorem zq3 (a b:In):Tells P 282 [.val inT a,.val inT b] (.val i64T (zbj a b)):=by
 refine zc Tryz.func282 rfl rfl rfl (fun ext w hext=>?_);refine qav ?_;refine qc3 ?_;refine G0 (oFp zhA) ?_;refine G0 (zoh rfl rfl zhL rfl rfl) ?_;refine G0 (oFp zhA) ?_;refine G0 (zoh rfl rfl zhL rfl rfl) ?_;refine G0 (oCl (bcompare _ _) rfl fn_329 ⟨(by exact arg_vw rfl rfl zj5),(by exact arg_vw rfl rfl zj5),trivial⟩) ?_;refine G0 (oFp zc9) ?_;refine G0 (oLb zhW ty_3) ?_;refine G0 (oFp zc9) ?_;refine G0 (oLb zhW ty_3) ?_;refine G0 (oCl (cmpInt_ok _ _) rfl fn_330 ye) ?_;refine G0 (zW (T:=i64T) (xs:=[_,_]) rfl zdG zhO yao rfl rfl) ?_;refine G0 (oCl (orInt _) rfl fn_278 yd) ?_;refine qaM ?_;exact zb rfl rfl yE
theorem zeP {p:Nat->Bool} {k:Nat} (h:(List.range k).all p=true) (hk:p k=true):(List.range (k+1)).all p=true:=by
  rw[range_succ,List.all_append,h];simp[hk]
theorem zeQ {p:Nat->Bool} {k n:Nat} (hk:k<n) (h:p k=false):(List.range n).all p=false:=by
  rw[List.all_eq_false];exact⟨k,by simpa using hk,by simp[h]⟩
def zgq (c:Coin):Bool:=decide (0<=c.inn.i/\c.inn.i<3/\1<=c.out.v/\c.out.v<=1099511627776/\0<=c.out.to/\c.out.to<=255)
def zjx (p:List Coin) (k:Nat):Bool:=match p[k]? with
  | none=>true
  | some c=>zgq c&&(match k with|0=>true|k+1=>match p[k]? with|none=>true|some b=>decide (zbj b.inn c.inn<0))
def zaW (p:List Coin):Bool:=(List.range p.length).all (zjx p)&&decide (p.length<=48)
theorem zfG {p:List Coin} {k:Nat} {c:Coin} (h:p[k]?=some c) (hk:k<p.length) (hb:¬(0<=c.inn.i/\c.inn.i<3/\1<=c.out.v/\c.out.v<=1099511627776/\0<=c.out.to/\c.out.to<=255)):zaW p=false:=by
  unfold zaW;rw[zeQ hk (by unfold zjx zgq;rw[h];simp only[uh hb,Bool.false_and]),Bool.false_and]
theorem zoF {p:List Coin} {k:Nat} {b c:Coin} (h:p[k]?=some c) (hk:k<p.length) (h0:0<k) (hb:p[k-1]?=some b) (ho:¬zbj b.inn c.inn<0):zaW p=false:=by
  unfold zaW;obtain⟨m,rfl⟩:∃m,k=m+1:=⟨k-1,by omega⟩;simp only[Nat.add_sub_cancel] at hb;rw[zeQ hk (by unfold zjx;rw[h];simp only[hb,uh ho,Bool.and_false]),Bool.false_and]
theorem zmg {p:List Coin} {c:Coin} (h:p[0]?=some c) (hb:0<=c.inn.i/\c.inn.i<3/\1<=c.out.v/\c.out.v<=1099511627776/\0<=c.out.to/\c.out.to<=255):zjx p 0=true:=by
  unfold zjx zgq;rw[h];simp only[ui hb,Bool.and_self]
theorem zoG {p:List Coin} {k:Nat} {b c:Coin} (h:p[k]?=some c) (h0:0<k) (hb:p[k-1]?=some b) (ho:zbj b.inn c.inn<0) (hc:0<=c.inn.i/\c.inn.i<3/\1<=c.out.v/\c.out.v<=1099511627776/\0<=c.out.to/\c.out.to<=255):zjx p k=true:=by
  obtain⟨m,rfl⟩:∃m,k=m+1:=⟨k-1,by omega⟩;simp only[Nat.add_sub_cancel] at hb;unfold zjx zgq;rw[h];simp only[hb,ui ho,ui hc,Bool.and_self]
theorem may_ok (p:List Coin):Tells P 247 [.val (bsl zbq) p] (.val zo (zaW p)):=by
 refine zc Tryz.func247 rfl rfl rfl (fun ext w hext=>?_);refine ze (d:=0) rfl zk (fun hsl0=>?_);refine qcK ?_;refine A0 (zaC rfl rfl zjr) ?_;refine qaF ?_;refine Lp (ι:=Nat) 0 (fun (k:Nat)=>((((Fr.none).set 0 (.val (bsl zbq) p)).set 5 (.val (bsl zbq) p)).set 6 (.val i64T (p.length:Int))).set 7 (.val i64T (k:Int))) (fun (k:Nat)=>Hp.none) (fun (k:Nat)=>k<=p.length/\(List.range k).all (zjx p)=true) (fun (k:Nat)=>p.length-k) (0) (⟨uf _,rfl⟩) ?_;intro k hinv;refine qap ?_;refine Cf (p:=k<p.length) (fun ht8=>?_) (fun ht8=>?_)
 .
  obtain⟨c,hc⟩:∃c,p[k]?=some c:=⟨_,ub ht8⟩;refine qbp ?_;refine A0 (zct rfl rfl rfl zmt yj) ?_;refine A0 (zh rfl rfl zpo) ?_;refine zN ze_293 rfl rfl rfl rfl ?_;refine A0 aV ?_;refine zg rfl rfl rfl rfl rfl (Lens.self _) zpo rfl ?_;refine CNQQR ?_;refine A0 (oFp zhy) ?_;refine A0 (oFp zc9) ?_;refine A0 (oLb (zeI.comp zhW) ty_3) ?_;refine qcZ ?_;refine Sp (d:=16) (p:=c.inn.i<0) (fun g16=>?_) (fun g16=>?_)
  .
   refine qab ?_;refine qay ?_;refine qaH ?_;refine qay ?_;refine qfr ?_;refine Ct ?_;refine qar ?_;exact zb rfl rfl (za rfl (zfG hc ht8 ya).symm)
  refine A1 (oFp zhy) ?_;refine A1 (oFp zc9) ?_;refine A1 (oLb (zeI.comp zhW) ty_3) ?_;refine A1 zgb ?_;refine qai ?_;refine Sp (d:=22) (p:=3<=c.inn.i) (fun g22=>?_) (fun g22=>?_)
  .
   refine qab ?_;refine qay ?_;refine qaH ?_;refine qay ?_;refine qat ?_;refine Ct ?_;refine qar ?_;exact zb rfl rfl (za rfl (zfG hc ht8 ya).symm)
  refine A1 (oFp ziW) ?_;refine A1 (oFp zee) ?_;refine A1 (oLb (zfH.comp zf9) ty_3) ?_;refine qdU ?_;refine Sp (d:=28) (p:=c.out.v<1) (fun g28=>?_) (fun g28=>?_)
  .
   refine qab ?_;refine qay ?_;refine qfr ?_;refine Ct ?_;refine qar ?_;exact zb rfl rfl (za rfl (zfG hc ht8 ya).symm)
  refine A1 (oFp ziW) ?_;refine A1 (oFp zee) ?_;refine A1 (oLb (zfH.comp zf9) ty_3) ?_;refine A1 zcq ?_;refine qai ?_;refine Sp (d:=34) (p:=1099511627776<c.out.v) (fun g34=>?_) (fun g34=>?_)
  .
   refine qab ?_;refine qay ?_;refine qat ?_;refine Ct ?_;refine qar ?_;exact zb rfl rfl (za rfl (zfG hc ht8 ya).symm)
  refine A1 (oFp ziW) ?_;refine A1 (oFp zhz) ?_;refine A1 (oLb (zfH.comp zje) ty_3) ?_;refine qdU ?_;refine Sp (d:=40) (p:=c.out.to<0) (fun g40=>?_) (fun g40=>?_)
  .
   refine qda ?_;refine qat ?_;refine Ct ?_;refine qar ?_;exact zb rfl rfl (za rfl (zfG hc ht8 ya).symm)
  refine A1 (oFp ziW) ?_;refine A1 (oFp zhz) ?_;refine A1 (oLb (zfH.comp zje) ty_3) ?_;refine A1 zcq ?_;refine A0 oK ?_;refine Sp (d:=45) (p:=255<c.out.to) (fun g45=>?_) (fun g45=>?_)
  .
   refine CN ?_;refine Ct ?_;refine qar ?_;exact zb rfl rfl (za rfl (zfG hc ht8 ya).symm)
  refine CN ?_;refine Cg ?_;refine CS ?_;refine qdO ?_;refine G0 zcq ?_;refine G0 mV ?_;refine zaj (d:=48) (p:=0<k) rfl yu (fun g48=>?_) (fun g48=>?_)
  .
   obtain⟨b,hb⟩:∃b,p[k-1]?=some b:=yr;refine qfz ?_;refine G1 zc3 ?_;refine G1 (zx (i:=k-1) rfl rfl rfl ya zmt yj) ?_;refine G1 (oFr zhy zeI) ?_;refine G1 (zh rfl rfl zeS) ?_;refine G1 (oFp zhy) ?_;refine G1 (oLb zeI zeS) ?_;refine G1 (oCl (zq3 _ _) rfl fn_282 yb3) ?_;refine G1 zgb ?_;refine G0 oK ?_;refine zaj (d:=59) (p:=¬zbj b.inn c.inn<0) rfl yu (fun g59=>?_) (fun g59=>?_)
   .
    refine GK.nil ?_;refine Ct ?_;refine qar ?_;exact zb rfl rfl (za rfl (zoF hc ht8 ya hb g59).symm)
   refine GK.nil ?_;refine Cg ?_;refine qbt ?_;exact Nx (k+1) (⟨by omega,zeP hinv.2 ya7⟩) ya
  refine qf0 ?_;refine G2 ?_;refine qaY ?_;refine Cg ?_;refine qbt ?_;exact Nx (k+1) (⟨by omega,zeP hinv.2 ya7⟩) ya
 refine qaU ?_;refine qaz ?_;refine A0 (zaC rfl rfl zjr) ?_;refine A0 zfR ?_;refine qad ?_;exact zb rfl rfl (za rfl (by unfold zaW;rw[show k=p.length by omega] at hinv;rw[hinv.2,Bool.true_and,uo];simp only[IntL.toI,id_eq];omega))
def zfJ {α:Type} (f:α->Int) (l:List α):Int:=l.foldl (fun n x=>IntKind.i64.wrap (n+f x)) 0
theorem worth_step {α:Type} {f:α->Int} {l:List α} {k:Nat} {x:α} (h:l[k]?=some x):zfJ f (l.take (k+1))=IntKind.i64.wrap (zfJ f (l.take k)+f x):=by
  unfold zfJ;rw[un,h,foldl_append];rfl
theorem worthOut (l:List Out) (f:Out->Int):Tells P 290 [.val (bsl outT) l,.fn1 P outT i64T f] (.val i64T (zfJ f l)):=by
 refine zc Tryz.func290 rfl rfl rfl (fun ext w hext=>?_);refine ze (d:=0) rfl zk (fun hsl0=>?_);refine qf5 ?_;refine qag ?_;refine qdz ?_;refine qaF ?_;refine Lp (ι:=Nat) 0 (fun (k:Nat)=>(((((Fr.none).set 1 (.fn1 P outT i64T f)).set 5 (.val i64T (zfJ f (l.take k)))).set 8 (.val (bsl outT) l)).set 9 (.val i64T (l.length:Int))).set 10 (.val i64T (k:Int))) (fun (k:Nat)=>Hp.none) (fun (k:Nat)=>k<=l.length) (fun (k:Nat)=>l.length-k) (0) (uf _) ?_;intro k hinv;refine qap ?_;refine Cf (p:=k<l.length) (fun ht11=>?_) (fun ht11=>?_)
 .
  obtain⟨x,hx⟩:∃x,l[k]?=some x:=ybv;refine qeh ?_;refine qfy ?_;refine qcW ?_;refine qf1 ?_;refine A0 mF ?_;refine A0 (oLs rfl rfl rfl zjl) ?_;refine A0 (zkV rfl rfl yk) ?_;refine qfX ?_;refine A0 aV ?_;refine qb8 ?_;refine zj (d:=5) rfl (worth_step hx).symm ?_;exact Nx (k+1) ya ya
 refine qdl ?_;exact zb rfl rfl (za rfl yO)
theorem zvP (o:Out):Tells P 291 [.val outT o] (.val i64T o.v):=by
 refine zc Tryz.func291 rfl rfl rfl (fun ext w hext=>?_);refine qe9 ?_;refine A0 (oFp zee) ?_;refine A0 (oLb zf9 ty_3) ?_;refine qad ?_;exact zb rfl rfl yE
theorem outs_ok (t:Tx):Tells P 250 [.val txT t] (.val i64T (zfJ (·.v) t.outs)):=by
 refine zc Tryz.func250 rfl rfl rfl (fun ext w hext=>?_);refine qe9 ?_;refine qbB ?_;refine A0 (oCl (worthOut _ _) rfl fn_290 ⟨yk,(by first|exact zdO (Cs:=[]) rfl fn_291 yC trivial rfl (fun x=>zvP _)|exact zdN (Cs:=[]) rfl fn_291 yC trivial rfl (fun x y=>zvP _)|exact zdP rfl),trivial⟩) ?_;refine qad ?_;exact zb rfl rfl yE
theorem zvY (id:Ab.Id) (c:Coin):Tells P 287 [.val zbq c,.rptr idT id] (.val zo (decide (c.inn.tx=id))):=by
 refine zc Tryz.func287 rfl rfl rfl (fun ext w hext=>?_);refine qe9 ?_;refine A0 (oFp zhy) ?_;refine A0 (oFp zhA) ?_;refine A0 (oLb (zeI.comp zj5) zY) ?_;refine qeQ ?_;refine A0 (zgZ rfl rfl rfl (zix)) ?_;refine qad ?_;exact zb rfl rfl yE
theorem made2_ok (a b:Coin):Tells P 289 [.val zbq a,.val zbq b] (.val i64T (zbj a.inn b.inn)):=by
 refine zc Tryz.func289 rfl rfl rfl (fun ext w hext=>?_);refine qeJ ?_;refine qgj ?_;refine qgj ?_;refine A0 (oCl (zq3 _ _) rfl fn_282 ye) ?_;refine qad ?_;exact zb rfl rfl yE
theorem zsE (c:Coin) (x:In):Tells P 332 [.val zbq c,.val inT x] (.val i64T (zbj c.inn x)):=by
 refine zc Tryz.func332 rfl rfl rfl (fun ext w hext=>?_);refine qeJ ?_;refine qgj ?_;refine A0 (oLs rfl rfl rfl zeS) ?_;refine A0 (oCl (zq3 _ _) rfl fn_282 ye) ?_;refine qad ?_;exact zb rfl rfl yE
theorem indexIn (l:List In) (v:In):Tells P 270 [.val (bsl inT) l,.val inT v] (.val i64T (idx (fun c=>decide (v=c)) l)):=by
 refine zc Tryz.func270 rfl rfl rfl (fun ext w hext=>?_);refine ze (d:=0) rfl zk (fun hsl0=>?_);refine qae ?_;refine qag ?_;refine A0 (zaC rfl rfl zjq) ?_;refine qaF ?_;refine Lp (ι:=Nat) 1 (fun (k:Nat)=>(((((Fr.none).set 0 (.val (bsl inT) l)).set 3 (.ptr 0 0)).set 6 (.val (bsl inT) l)).set 7 (.val i64T (l.length:Int))).set 8 (.val i64T (k:Int))) (fun (k:Nat)=>(Hp.none).set 0 (.box 256 inT v)) (fun (k:Nat)=>k<=l.length/\idx (fun c=>decide (v=c)) l=shift k (idx (fun c=>decide (v=c)) (l.drop k))) (fun (k:Nat)=>l.length-k) (0) (⟨uf _,zcC _ l⟩) ?_;intro k hinv;refine qap ?_;refine Cf (p:=k<l.length) (fun ht9=>?_) (fun ht9=>?_)
 .
  obtain⟨x,hx⟩:∃x,l[k]?=some x:=yaN;refine qbp ?_;refine qc3 ?_;refine G0 (oLs rfl rfl rfl zeS) ?_;refine qdV ?_;refine G0 (zgZ rfl rfl rfl (zuH)) ?_;refine GK.nil ?_;refine zl (p:=decide (v=x)=true) rfl yw (fun ht16=>?_) (fun ht16=>?_)
  .
   refine qd3 ?_;exact zb rfl rfl (za rfl (hinv.2.trans (zgA hx ht16)).symm)
  refine qbt ?_;exact Nx (k+1) (⟨by omega,hinv.2.trans (zjs hx ht16)⟩) ya
 refine qcs ?_;exact zb rfl rfl (za rfl (hinv.2.trans (zfU ya)).symm)
theorem containsIn (l:List In) (v:In):Tells P 220 [.val (bsl inT) l,.val inT v] (.val zo (l.any fun c=>decide (v=c))):=by
 refine zc Tryz.func220 rfl rfl rfl (fun ext w hext=>?_);refine ze (d:=0) rfl zk (fun hsl0=>?_);refine qae ?_;refine qaR ?_;refine A0 (oLs rfl rfl rfl zeS) ?_;refine A0 (oCl (indexIn _ _) rfl fn_270 ye) ?_;refine qfs ?_;exact zb rfl rfl (za rfl (zio _ l))
theorem odd_ok (o:Out):Tells P 221 [.val outT o] (.val zo (decide (o.v<1\/1099511627776<o.v\/o.to<0\/255<o.to))):=by
 refine zc Tryz.func221 rfl rfl rfl (fun ext w hext=>?_);refine qe9 ?_;refine A0 (oFp zee) ?_;refine A0 (oLb zf9 ty_3) ?_;refine qcZ ?_;refine Sp (d:=6) (p:=o.v<1) (fun g6=>?_) (fun g6=>?_)
 .
  refine qcX ?_;refine qaH ?_;refine qaE ?_;exact zb rfl rfl (za rfl yas)
 refine A1 (oFp zee) ?_;refine A1 (oLb zf9 ty_3) ?_;refine A1 zcq ?_;refine qai ?_;refine Sp (d:=11) (p:=1099511627776<o.v) (fun g11=>?_) (fun g11=>?_)
 .
  refine qcX ?_;refine qaE ?_;exact zb rfl rfl (za rfl yas)
 refine qfd ?_;refine qdU ?_;refine Sp (d:=16) (p:=o.to<0) (fun g16=>?_) (fun g16=>?_)
 .
  refine qab ?_;refine qaE ?_;exact zb rfl rfl (za rfl yas)
 refine qfd ?_;refine A1 zcq ?_;refine A0 oK ?_;refine Sp (d:=20) (p:=255<o.to) (fun g20=>?_) (fun g20=>?_)
 .
  refine qad ?_;exact zb rfl rfl (za rfl yas)
 refine qad ?_;exact zb rfl rfl (za rfl yas)
def zl5 (o:Out):Bool:=decide (o.v<1\/1099511627776<o.v\/o.to<0\/255<o.to)
def inAt (t:Tx) (k:Nat):Bool:=match t.ins[k]? with
  | none=>true
  | some x=>decide (0<=x.i/\x.i<3) && !((t.ins.take k).any fun c=>decide (x=c))
def zaM (t:Tx):Bool:=(List.range t.ins.length).all (inAt t)&&(decide (t.ins.length<=3)&&(decide (0<t.outs.length)&&(decide (t.outs.length<=3) && !(t.outs.any zl5))))
theorem zc6 {t:Tx} {k:Nat} {x:In} (h:t.ins[k]?=some x) (hk:k<t.ins.length) (hb:¬(0<=x.i/\x.i<3)):zaM t=false:=by
  unfold zaM;rw[zeQ hk (by unfold inAt;rw[h];simp only[uh hb,Bool.false_and]),Bool.false_and]
theorem zb7 {t:Tx} {k:Nat} {x:In} (h:t.ins[k]?=some x) (hk:k<t.ins.length) (hb:((t.ins.take k).any fun c=>decide (x=c))=true):zaM t=false:=by
  unfold zaM;rw[zeQ hk (by unfold inAt;rw[h];simp only[hb,Bool.not_true,Bool.and_false]),Bool.false_and]
theorem zs0 {t:Tx} {k:Nat} {x:In} (h:t.ins[k]?=some x) (hb:0<=x.i/\x.i<3) (hc:¬((t.ins.take k).any fun c=>decide (x=c))=true):inAt t k=true:=by
  unfold inAt;rw[h];simp only[ui hb,Bool.true_and];cases hh:((t.ins.take k).any fun c=>decide (x=c)) with
  | true=>exact absurd hh hc
  | false=>rfl
theorem zrc (t:Tx):Tells P 168 [.val txT t] (.val zo (zaM t)):=by
 refine zc Tryz.func168 rfl rfl rfl (fun ext w hext=>?_);refine qae ?_;refine qbT ?_;refine qba ?_;refine qaF ?_;refine Lp (ι:=Nat) 1 (fun (k:Nat)=>((((Fr.none).set 1 (.ptr 0 0)).set 7 (.val (sl inT) t.ins)).set 8 (.val i64T (t.ins.length:Int))).set 9 (.val i64T (k:Int))) (fun (k:Nat)=>(Hp.none).set 0 (.box 101 txT t)) (fun (k:Nat)=>k<=t.ins.length/\(List.range k).all (inAt t)=true) (fun (k:Nat)=>t.ins.length-k) (0) (⟨uf _,rfl⟩) ?_;intro k hinv;refine ze (d:=7) rfl zk (fun hsi=>?_);refine qap ?_;refine Cf (p:=k<t.ins.length) (fun ht10=>?_) (fun ht10=>?_)
 .
  obtain⟨x,hx⟩:∃x,t.ins[k]?=some x:=⟨_,ub ht10⟩;refine qbp ?_;refine qdn ?_;refine A0 aV ?_;refine qge ?_;refine CNQ ?_;refine CD mixed ?_;refine G0 (oFp zc9) ?_;refine G0 (oLb zhW ty_3) ?_;refine G0 zc4 ?_;refine G0 mV ?_;refine zaj (d:=17) (p:=x.i<0) rfl yu (fun g17=>?_) (fun g17=>?_)
  .
   refine qaP ?_;refine qct ?_;refine qac ?_;refine qaY ?_;refine Ct ?_;refine qar ?_;exact zb rfl rfl (za rfl (zc6 hx ht10 ya).symm)
  refine G1 (oFp zc9) ?_;refine G1 (oLb zhW ty_3) ?_;refine G1 zgb ?_;refine qct ?_;refine zaj (d:=22) (p:=3<=x.i) rfl yu (fun g22=>?_) (fun g22=>?_)
  .
   refine qac ?_;refine qaY ?_;refine Ct ?_;refine qar ?_;exact zb rfl rfl (za rfl (zc6 hx ht10 ya).symm)
  refine G1 (oFp zdA) ?_;refine G1 (oLb zdE zmr) ?_;refine G1 mV ?_;refine G1 (by first|exact zhr rfl rfl rfl yaP znw|exact zoi rfl rfl rfl znw yh) ?_;refine G1 (oLs rfl rfl rfl zeS) ?_;refine G1 (oCl (containsIn _ _) rfl fn_220 ye) ?_;refine qaY ?_;refine zl (p:=((t.ins.take k).any fun c=>decide (x=c))=true) rfl (Bool.decide_eq_true.symm) (fun ht29=>?_) (fun ht29=>?_)
  .
   refine qar ?_;exact zb rfl rfl (za rfl (zb7 hx ht10 ht29).symm)
  refine qbt ?_;exact Nx (k+1) (⟨by omega,zeP hinv.2 (zs0 hx ya ht29)⟩) ya
 refine qaU ?_;refine A0 aC ?_;refine CNQR ?_;refine qba ?_;refine A0 zfR ?_;refine qaz ?_;refine Sp (d:=35) (p:=t.ins.length<=3) (fun g35=>?_) (fun g35=>?_)
 .
  refine qga ?_;refine A1 zcq ?_;refine qai ?_;refine Sp (d:=41) (p:=0<t.outs.length) (fun g41=>?_) (fun g41=>?_)
  .
   refine qga ?_;refine A1 zfR ?_;refine qai ?_;refine Sp (d:=47) (p:=t.outs.length<=3) (fun g47=>?_) (fun g47=>?_)
   .
    refine qc9 ?_;refine A1 mC ?_;refine A1 (oCl (zoB _ _) rfl fn_222 ⟨yk,(by first|exact zdO (Cs:=[]) rfl fn_221 yC trivial rfl (fun x=>odd_ok _)|exact zdN (Cs:=[]) rfl fn_221 yC trivial rfl (fun x y=>odd_ok _)|exact zdP rfl),trivial⟩) ?_;refine A1 oN ?_;refine qaE ?_;exact zb rfl rfl (za rfl (by rw[show k=t.ins.length by omega] at hinv;unfold zaM;rw[hinv.2,ui g35,ui g41,ui g47];rfl))
   refine qer ?_;exact zb rfl rfl (za rfl (by unfold zaM;simp only[uh g47,Bool.false_and,Bool.and_false]))
  refine qab ?_;refine qd2 ?_;exact zb rfl rfl (za rfl (by unfold zaM;simp only[uh g41,Bool.false_and,Bool.and_false]))
 refine qab ?_;refine qay ?_;refine qaH ?_;refine qaZ ?_;refine qaE ?_;exact zb rfl rfl (za rfl (by unfold zaM;simp only[uh g35,Bool.false_and,Bool.and_false]))
def halves {α:Type} (c:α->Int) (l:List α) (lo hi:Nat):Nat :=
  if h:lo<hi then
    match l[(lo+hi)/2]? with
    | none=>lo
    | some x=>if c x<0 then halves c l ((lo+hi)/2+1) hi else halves c l lo ((lo+hi)/2)
  else lo
termination_by hi-lo
theorem zs3 {α:Type} {c:α->Int} {l:List α} {lo hi:Nat} {x:α} (h:lo<hi) (hx:l[(lo+hi)/2]?=some x) (hc:c x<0):halves c l lo hi=halves c l ((lo+hi)/2+1) hi:=by
  rw[halves,dif_pos h];simp only[hx,ut hc]
theorem zs4 {α:Type} {c:α->Int} {l:List α} {lo hi:Nat} {x:α} (h:lo<hi) (hx:l[(lo+hi)/2]?=some x) (hc:¬c x<0):halves c l lo hi=halves c l lo ((lo+hi)/2):=by
  rw[halves,dif_pos h];simp only[hx,ur hc]
theorem ziU {α:Type} {c:α->Int} {l:List α} {lo:Nat}:halves c l lo lo=lo:=by rw[halves,dif_neg (Nat.lt_irrefl _)]
def zlO {α:Type} (c:α->Int) (l:List α) (i:Nat):Bool:=match l[i]? with|none=>false|some x=>decide (c x=0)
theorem mid_eq {lo hi:Nat} (h:lo+hi<18446744073709551616):IntKind.i64.wrap (IntL.toI u64T (zax (zK (IntL.toI i64T ((lo:Int)+(hi:Int)))) (IntL.toI u64T (1:UInt64)).toNat))=(((lo+hi)/2:Nat):Int):=by
  have e1:(zK ((lo:Int)+(hi:Int))).toNat=lo+hi:=by
    unfold zK;rw[UInt64.toNat_ofNat_of_lt' (by show(((lo:Int)+hi)%18446744073709551616).toNat<18446744073709551616;omega)];omega
  have e2:(zax (zK ((lo:Int)+(hi:Int))) 1).toNat=(lo+hi)/2:=by
    unfold zax;rw[e1,UInt64.toNat_ofNat_of_lt' (by show(lo+hi)/2^min 1 64<18446744073709551616;rw[show min 1 64=1 from rfl];omega)];rfl
  show IntKind.i64.wrap (((zax (zK ((lo:Int)+(hi:Int))) 1).toNat:Nat):Int)=_;rw[e2];exact z8 ya
theorem bsearch (l:List Coin) (y:In) (f:Coin->In->Int) (hl:l.length<4611686018427387904):Tells P 331 [.val (bsl zbq) l,.val inT y,.fn2 P zbq inT i64T f] (.tup2 (.val i64T (halves (fun x=>f x y) l 0 l.length:Nat)) (.val zo (zlO (fun x=>f x y) l (halves (fun x=>f x y) l 0 l.length)))):=by
 refine zc Tryz.func331 rfl rfl rfl (fun ext w hext=>?_);refine ze (d:=0) rfl zk (fun hsl0=>?_);refine qae ?_;refine qfx ?_;refine A0 (zaC rfl rfl zjr) ?_;refine qaR ?_;refine A0 aV ?_;refine qaL ?_;refine CB ?_;refine Lp (ι:=Nat×Nat) 1 (fun(lo,hi)=>(((((Fr.none.set 0 (.val (bsl zbq) l)).set 2 (.fn2 P zbq inT i64T f)).set 4 (.ptr 0 0)).set 8 (.val i64T (l.length:Int))).set 9 (.val i64T (lo:Int))).set 10 (.val i64T (hi:Int))) (fun(lo,hi)=>Hp.none.set 0 (.box 256 inT y)) (fun(lo,hi)=>lo<=hi/\hi<=l.length/\halves (fun x=>f x y) l 0 l.length=halves (fun x=>f x y) l lo hi) (fun(lo,hi)=>hi-lo) ((0,l.length)) (⟨uf _,ug _,rfl⟩) ?_;intro⟨lo,hi⟩ hinv;dsimp only at hinv;refine qb6 ?_;refine qa7 ?_;refine Cf (p:=lo<hi) (fun ht17=>?_) (fun ht17=>?_)
 .
  obtain⟨x,hx⟩:∃x,l[(lo+hi)/2]?=some x:=yr;refine CS ?_;refine qgf ?_;refine qal ?_;refine qfX ?_;refine qe0 ?_;refine xb ?_;refine A0 (zhs rfl (ui_3) (us_234) rfl (mid_eq ya)) ?_;refine qc3 ?_;refine G0 mH ?_;refine qbl ?_;refine G0 (zct rfl rfl rfl zmt yj) ?_;refine G0 (zh rfl rfl zpo) ?_;refine G0 (oLs rfl rfl rfl zeS) ?_;refine G0 (zm6 rfl rfl yb yk) ?_;refine G0 zc4 ?_;refine GK.nil ?_;refine Cf (p:=f x y<0) (fun ht31=>?_) (fun ht31=>?_)
  .
   refine CR ?_;refine qan ?_;refine CI ?_;exact Nx (((lo+hi)/2+1,hi)) yaI ybn
  refine qe5 ?_;refine qad ?_;refine CI ?_;exact Nx ((lo,(lo+hi)/2)) yaI ybn
 refine CE ?_;refine qaI ?_;refine qbl ?_;refine G0 mV ?_;refine G0 zc4 ?_;refine G0 mV ?_;refine zaj (d:=39) (p:=lo<l.length) rfl yu (fun g39=>?_) (fun g39=>?_)
 .
  obtain⟨x,hx⟩:∃x,l[lo]?=some x:=⟨_,ub g39⟩;refine G1 mH ?_;refine qfz ?_;refine G1 (zct rfl rfl rfl zmt yj) ?_;refine G1 (zh rfl rfl zpo) ?_;refine G1 (oLs rfl rfl rfl zeS) ?_;refine G1 (zm6 rfl rfl yb yk) ?_;refine G1 zd7 ?_;refine G0 oK ?_;refine qfQ ?_;exact zG rfl rfl (za rfl (by rw[hinv.2.2,show hi=lo by omega,ziU])) (za rfl (by rw[hinv.2.2,show hi=lo by omega,ziU];unfold zlO;rw[hx];rfl))
 refine qdN ?_;refine G2 ?_;refine G0 oK ?_;refine qfQ ?_;exact zG rfl rfl (za rfl (by rw[hinv.2.2,show hi=lo by omega,ziU])) (za rfl (by rw[hinv.2.2,show hi=lo by omega,ziU];unfold zlO;rw[List.getElem?_eq_none ya]))
def placeOf (p:List Coin) (x:In):Nat:=halves (fun c=>zbj c.inn x) p 0 p.length
def zlI (p:List Coin) (x:In):Bool:=zlO (fun c=>zbj c.inn x) p (placeOf p x)
theorem place_ok (p:List Coin) (x:In) (hl:p.length<4611686018427387904):Tells P 284 [.val (bsl zbq) p,.val inT x] (.tup2 (.val i64T (placeOf p x:Nat)) (.val zo (zlI p x))):=by
 refine zc Tryz.func284 rfl rfl rfl (fun ext w hext=>?_);refine ze (d:=0) rfl zk (fun hsl0=>?_);refine qae ?_;refine qfx ?_;refine A0 (oLs rfl rfl rfl zeS) ?_;refine A0 (oCl (bsearch p x (fun c x=>zbj c.inn x) hl) rfl fn_331 ⟨yk,yk,(by first|exact zdO (Cs:=[]) rfl fn_332 yC trivial rfl (fun x=>zsE _ _)|exact zdN (Cs:=[]) rfl fn_332 yC trivial rfl (fun x y=>zsE _ _)|exact zdP rfl),trivial⟩) ?_;refine qaa ?_;refine qb2 ?_;exact zG rfl rfl (zdf rfl) (zdf rfl)
theorem delete_ok (l:List Coin) (i:Nat) (hi:i<l.length):zfp P 285 (.row 293 zbq l) [.own 0,.val i64T (i:Int),.val i64T ((i:Int)+1)] (.fresh 293 zbq (l.take i++l.drop (i+1))) (.none_):=by
 refine zg1 trivial Tryz.func285 rfl rfl ⟨Nat.one_pos,⟨trivial,⟨trivial,trivial⟩⟩⟩ (fun ext pg w hext hgr=>?_);refine ze (d:=1) rfl zz (fun hin1=>?_);refine ze (d:=2) rfl zz (fun hin2=>?_);refine zlV (n:=0) rfl (fun hrl=>?_);refine qbQ ?_;refine A0 mO ?_;refine qal ?_;refine A0 mO ?_;refine A0 (zbS rfl rfl rfl zjr) ?_;refine A0 (g_os_chk (p:=i) (q:=i+1) (r:=l.length) rfl rfl rfl rfl rfl rfl zmt yi yi yi yh) ?_;refine CNQQR ?_;refine qal ?_;refine A0 zd7 ?_;refine zlc (d:=16) rfl yag ?_;refine CN ?_;refine Cg ?_;refine qee ?_;refine A0 (zbS rfl rfl rfl zjr) ?_;refine qaL ?_;refine xc ?_;refine qdm ?_;refine X0 (zpZ (q:=i) rfl rfl rfl rfl zmt yi yh) ?_;refine qdm ?_;refine X0 (g_os_l (p:=i+1) rfl rfl rfl rfl zmt yi yh) ?_;refine XK.e (fun fr' hfr kk H=>by exact ztP rfl rfl rfl rfl ((hfr 22 yc).trans rfl) ((hfr 25 yc).trans rfl) rfl zpE ya (zD H)) ?_;refine X0 aS ?_;refine qe6 ?_;refine CQR ?_;refine A0 mS ?_;refine A0 mS ?_;refine A0 (g_len_s rfl rfl ya zjr) ?_;refine qaz ?_;refine A0 (g_os_lh (p:=i+(l.length-(i+1))) (q:=l.length) rfl rfl rfl rfl rfl zmt yi yi yh) ?_;refine zwU rfl rfl rfl rfl rfl zpE ze_293 yB ?_;refine CNQR ?_;refine A0 mS ?_;refine A0 aS ?_;refine CN ?_;exact zfA rfl rfl rfl rfl rfl zgX (zsA rfl rfl yB (by rw[List.take_append_of_le_length yB,List.take_take,Nat.min_self,List.take_append_of_le_length yB];exact uc yB))
def rotl (x:UInt32) (n:Int):UInt32:=zsm x ((zK n)&&&31).toNat|||zd0 x (32-((zK n)&&&31)).toNat
theorem rotl_ok (x:UInt32) (n:Int):Tells P 196 [.val u32T x,.val i64T n] (.val u32T (rotl x n)):=by
 refine zc Tryz.func196 rfl rfl rfl (fun ext w hext=>?_);refine ze (d:=1) rfl zz (fun hin1=>?_);refine qe8 ?_;refine qe0 ?_;refine A0 (zrr rfl rfl rfl) ?_;refine qbL ?_;refine A0 (zrm rfl rfl rfl yp rfl) ?_;refine qal ?_;refine A0 (g_sub64 rfl rfl rfl) ?_;refine A0 (zoj rfl rfl rfl yp rfl) ?_;refine A0 (zp0 rfl rfl rfl) ?_;refine qad ?_;exact zb rfl rfl (za rfl rfl)
theorem zvG (x:UInt32) (n:Int):Tells P 148 [.val u32T x,.val i64T n] (.val u32T (rotl x (IntKind.i64.wrap (0-n)))):=by
 refine zc Tryz.func148 rfl rfl rfl (fun ext w hext=>?_);refine ze (d:=1) rfl zz (fun hin1=>?_);refine CQR ?_;refine qbL ?_;refine A0 (g_neg rfl rfl rfl) ?_;refine A0 (oCl (rotl_ok _ _) rfl fn_196 ye) ?_;refine qad ?_;exact zb rfl rfl (za rfl rfl)
def shaK:List UInt32:=[1116352408,1899447441,3049323471,3921009573,961987163,1508970993,2453635748,2870763221,3624381080,310598401,607225278,1426881987,1925078388,2162078206,2614888103,3248222580,3835390401,4022224774,264347078,604807628,770255983,1249150122,1555081692,1996064986,2554220882,2821834349,2952996808,3210313671,3336571891,3584528711,113926993,338241895,666307205,773529912,1294757372,1396182291,1695183700,1986661051,2177026350,2456956037,2730485921,2820302411,3259730800,3345764771,3516065817,3600352804,4094571909,275423344,430227734,506948616,659060556,883997877,958139571,1322822218,1537002063,1747873779,1955562222,2024104815,2227730452,2361852424,2428436474,2756734187,3204031479,3329325298]
def zB (n:UInt64) (size:Nat):List UInt8:=(List.range size).map fun j=>zaF (IntL.toI u64T (zax n (8*(size-1-j))))
theorem zkF {n:UInt64} {size k:Nat} {l:List UInt8} (hk:k<size) (hl:l.length=size) (h:∀j,size-k<=j->j<size->l[j]?=(zB n size)[j]?):∀j,size-(k+1)<=j->j<size->(l.set (size-1-k) (zaF (IntL.toI u64T (zax n (8*k)))))[j]?=(zB n size)[j]?:=fun j h1 h2=>by
  rw[List.getElem?_set];by_cases c:size-1-k=j
  . rw[ut c,ut ya]
    unfold zB;rw[List.getElem?_map,List.getElem?_range h2,Option.map_some];congr 4;omega
  rw[ur c];exact h j ya h2
theorem zl7 {n:UInt64} {size:Nat} {l:List UInt8} (hl:l.length=size) (h:∀j,size-size<=j->j<size->l[j]?=(zB n size)[j]?):l=zB n size:=by
  apply ext_getElem?;intro j;by_cases c:j<size
  . exact h j ya c
  rw[List.getElem?_eq_none ya,List.getElem?_eq_none (by unfold zB;simp;omega)]
theorem numbers_ok:Tells P 149 [] (.val (arrT 64 yl u32T) shaK):=by
 refine zc Tryz.func149 rfl rfl rfl (fun ext w hext=>?_);refine CQR ?_;refine zN zvb rfl rfl rfl rfl ?_;refine CNQR ?_;refine A0 (ziV (T:=u32T) (xs:=[_,_,_,_,_,_,_,_,_,_,_,_,_,_,_,_,_,_,_,_,_,_,_,_,_,_,_,_,_,_,_,_,_,_,_,_,_,_,_,_,_,_,_,_,_,_,_,_,_,_,_,_,_,_,_,_,_,_,_,_,_,_,_,_]) rfl zle zvb yJ rfl) ?_;refine zg rfl rfl rfl rfl rfl (Lens.self _) ty_233 rfl ?_;refine CN ?_;exact zE rfl rfl rfl rfl ty_233 (rfl)
theorem zla (n:UInt64) (size:Nat) (hs:size<=8):Tells P 139 [.val u64T n,.val i64T (size:Int)] (.fresh 5 u8T (zB n size)):=by
 refine zc Tryz.func139 rfl rfl rfl (fun ext w hext=>?_);refine ze (d:=1) rfl zz (fun hin1=>?_);refine qdK ?_;refine qcZ ?_;refine zlc (d:=9) rfl (uh (by show ¬((size:Int)<0);omega)) ?_;refine qca ?_;refine A0 oK ?_;refine zlc (d:=12) rfl (uh (by show ¬((8:Int)<(size:Int));omega)) ?_;refine CN ?_;refine Cg ?_;refine qbY ?_;refine zwR (T:=u8T) (n:=size) rfl rfl rfl rfl rfl rfl yi yi zat ze_5 ⟨by omega,by omega,(show(size)*1<=16777216 by omega)⟩ ?_;refine A0 aO ?_;refine CNQQR ?_;refine qal ?_;refine CNB ?_;refine Lp (ι:=Nat×List UInt8) 1 (fun(k,l)=>((((Fr.none.set 0 (.val u64T n)).set 1 (.val i64T (size:Int))).set 5 (.own 0)).set 15 (.val i64T (size:Int))).set 16 (.val i64T (k:Int))) (fun(k,l)=>Hp.none.set 0 (.row 5 u8T l)) (fun(k,l)=>k<=size/\l.length=size/\∀j,size-k<=j->j<size->l[j]?=(zB n size)[j]?) (fun(k,l)=>size-k) ((0,List.replicate size 0)) (⟨uf _,by simp,fun j h1 h2=>by omega⟩) ?_;intro⟨k,l⟩ hinv;dsimp only at hinv;refine qap ?_;refine Cf (p:=k<size) (fun ht17=>?_) (fun ht17=>?_)
 .
  obtain⟨x,hx⟩:∃x,l[size-1-k]?=some x:=yr;refine qbp ?_;refine qcc ?_;refine A0 mO ?_;refine qcn ?_;refine qcn ?_;refine qal ?_;refine A0 zkD ?_;refine xb ?_;refine qbS ?_;refine A0 (zau (i:=size-1-k) rfl rfl rfl rfl yi zb0 yh) ?_;refine qfe ?_;refine qb8 ?_;exact Nx ((k+1,l.set (size-1-k) (zaF (IntL.toI u64T (zax n (8*k)))))) (⟨by omega,by simp;exact hinv.2.1,zkF ht17 hinv.2.1 hinv.2.2⟩) (by show _<size-k;simp only[];omega)
 refine qa8 ?_;exact zb rfl rfl (zf rfl rfl (zl7 hinv.2.1 (by rw[show k=size by omega] at hinv;exact hinv.2.2)))
theorem growNil (n:Nat) (hn:n<=140737488355328):Tells P 195 [.lit (.slice none 0 0),.val i64T (n:Int)] (.fresh 5 u8T []):=by
 refine zc Tryz.func195 rfl rfl rfl (fun ext w hext=>?_);refine ze (d:=1) rfl zz (fun hin1=>?_);refine qdK ?_;refine qa7 ?_;refine zgH rfl (uh (by show ¬((n:Int)<0);omega)) ?_;refine qcb ?_;refine A0 mL ?_;refine A0 (zkU rfl rfl zfT) ?_;refine A0 mL ?_;refine qbx ?_;refine qfv ?_;refine qfv ?_;refine qaR ?_;refine qc2 ?_;refine zl (p:=0<n) rfl yax (fun ht16=>?_) (fun ht16=>?_)
 .
  refine CR ?_;refine A0 mL ?_;refine A0 mL ?_;refine A0 (zkU rfl rfl zfT) ?_;refine A0 yaX ?_;refine qaz ?_;refine zqr (T:=u8T) (n:=n) rfl rfl rfl rfl rfl rfl yaP zat ze_5 (ui_3) (⟨by assumption,by omega,by omega⟩) ?_;refine A0 mL ?_;refine qbx ?_;refine A0 (zpZ (q:=0) rfl rfl rfl rfl zb0 yi yh) ?_;refine A0 aS ?_;refine CNQR ?_;refine A0 mS ?_;refine A0 aS ?_;refine CN ?_;exact zb rfl rfl (znO rfl rfl yB rfl)
 refine CSQR ?_;refine A0 mL ?_;refine A0 aL ?_;refine CN ?_;exact zb rfl rfl (zs rfl)
theorem zbL {α:Type} {ls:List (List α)} {k:Nat} {x:List α} (h:ls[k]?=some x):(ls.take (k+1)).flatten=(ls.take k).flatten++x:=by
  rw[un,h];simp
theorem zgo {α:Type} (ls:List (List α)) (k:Nat):(ls.take k).flatten.length<=ls.flatten.length:=by
  conv=>rhs;rw[<-List.take_append_drop k ls,List.flatten_append,ue]
  omega
theorem zg3 (ls:List (List UInt8)) (hl:ls.flatten.length<=140737488355328):Tells P 138 [.val (bsl (bsl u8T)) ls] (.fresh 5 u8T ls.flatten):=by
 refine zc Tryz.func138 rfl rfl rfl (fun ext w hext=>?_);refine ze (d:=0) rfl zk (fun hsl0=>?_);refine qbQ ?_;refine qag ?_;refine qc6 ?_;refine qaF ?_;refine Lp (ι:=Nat) 0 (fun (k:Nat)=>(((((Fr.none).set 0 (.val (bsl (bsl u8T)) ls)).set 3 (.val i64T ((ls.take k).flatten.length:Int))).set 9 (.val (bsl (bsl u8T)) ls)).set 10 (.val i64T (ls.length:Int))).set 11 (.val i64T (k:Int))) (fun (k:Nat)=>Hp.none) (fun (k:Nat)=>k<=ls.length) (fun (k:Nat)=>ls.length-k) (0) (uf _) ?_;intro k hinv;refine qap ?_;refine Cf (p:=k<ls.length) (fun ht12=>?_) (fun ht12=>?_)
 .
  obtain⟨x,hx⟩:∃x,ls[k]?=some x:=⟨_,ub ht12⟩;have hle:=zgo ls (k+1);rw[zbL hx,ue] at hle;refine qeh ?_;refine A0 (zct rfl rfl rfl zcK yj) ?_;refine qcC ?_;refine qcR ?_;refine qaz ?_;refine A0 mX ?_;refine qbx ?_;refine qfX ?_;refine qaR ?_;refine qa7 ?_;refine zgH rfl (uh ybi) ?_;refine qbt ?_;refine zj (d:=3) (y:=((ls.take (k+1)).flatten.length:Int)) rfl (by rw[zbL hx,ue];omega) ?_;exact Nx (k+1) ya ya
 refine zj (d:=3) (y:=((ls.flatten.length:Nat):Int)) rfl yO ?_;refine qaU ?_;refine qaz ?_;refine zao (growNil ls.flatten.length hl) rfl fn_195 yb3 rfl rfl rfl ?_;refine A0 aO ?_;refine qbD ?_;refine qc6 ?_;refine qaF ?_;refine Lp (ι:=Nat) 1 (fun k=>(((Fr.none.set 6 (.own 0)).set 25 (.val (bsl (bsl u8T)) ls)).set 26 (.val i64T (ls.length:Int))).set 27 (.val i64T (k:Int))) (fun k=>Hp.none.set 0 (.row 5 u8T (ls.take k).flatten)) (fun k=>k<=ls.length) (fun k=>ls.length-k) (0) (uf _) ?_;intro k hinv;refine qap ?_;refine Cf (p:=k<ls.length) (fun ht28=>?_) (fun ht28=>?_)
 .
  obtain⟨x,hx⟩:∃x,ls[k]?=some x:=⟨_,ub ht28⟩;have hle:=zgo ls (k+1);rw[zbL hx,ue] at hle;refine qeh ?_;refine A0 (zct rfl rfl rfl zcK yj) ?_;refine qcC ?_;refine A0 aX ?_;refine qdA ?_;refine A0 mX ?_;refine zp rfl rfl rfl rfl rfl rfl rfl zat ya ?_;refine qem ?_;refine qbI ?_;refine zq (n:=0) rfl (zbL hx).symm ?_;exact Nx (k+1) ya ya
 refine qa8 ?_;exact zb rfl rfl (zf rfl rfl yO)
def padZ (n:Nat):Nat:=(64-(n+9)%64)%64
def zcv (b:List UInt8):List UInt8:=(b++128::List.replicate (padZ b.length) 0)++zB (8*zK (IntL.toI i64T (b.length:Int))) 8
theorem zkz (b:List UInt8):(b++128::List.replicate (padZ b.length) 0).length=b.length+1+padZ b.length:=yB
theorem pad_step {b l:List UInt8} {k:Nat} (hk:k<8) (hl:l.length=b.length+padZ b.length+9) (h:∀j,j<b.length+padZ b.length+1\/b.length+padZ b.length+9-k<=j->l[j]?=(zcv b)[j]?) :
    ∀j,j<b.length+padZ b.length+1\/b.length+padZ b.length+9-(k+1)<=j->(l.set (b.length+padZ b.length+8-k) (zaF (IntL.toI u64T (zax (8*zK (IntL.toI i64T (b.length:Int))) (8*k)))))[j]?=(zcv b)[j]?:=fun j hj=>by
  rw[List.getElem?_set];by_cases c:b.length+padZ b.length+8-k=j
  . rw[ut c,ut ya]
    unfold zcv;rw[List.getElem?_append_right (by rw[zkz];omega),zkz];unfold zB;rw[List.getElem?_map,List.getElem?_range ya,Option.map_some];congr 4;omega
  rw[ur c];exact h j ya
theorem pad_start {b:List UInt8} {j:Nat} (hj:j<b.length+padZ b.length+1\/b.length+padZ b.length+9-0<=j):([b,[128],List.replicate (padZ b.length+8) 0].flatten)[j]?=(zcv b)[j]?:=by
  unfold zcv;have e:[b,[128],List.replicate (padZ b.length+8) (0:UInt8)].flatten=(b++128::List.replicate (padZ b.length) 0)++List.replicate 8 0:=by
    rw[<-List.replicate_append_replicate];simp
  rw[e];have hl:=zkz b;generalize b++128::List.replicate (padZ b.length) 0=pre at hl;rcases hj with hj|hj
  . rw[List.getElem?_append_left ya,List.getElem?_append_left ya]
  rw[List.getElem?_append_right ya,List.getElem?_append_right ya,hl];rw[List.getElem?_eq_none yB,List.getElem?_eq_none (by unfold zB;simp;omega)]
theorem pad_all {b l:List UInt8} (h:∀j,j<b.length+padZ b.length+1\/b.length+padZ b.length+9-8<=j->l[j]?=(zcv b)[j]?):l=zcv b:=ext_getElem? fun j=>h j ya
theorem pad_ok (b:List UInt8) (hb:b.length<=70368744177664):Tells P 76 [.val (sl u8T) b] (.fresh 5 u8T (zcv b)):=by
 have hz:((padZ b.length:Nat):Int)=(64-((b.length:Int)+1+8)%64)%64:=by unfold padZ;omega
 have hz2:padZ b.length<64:=by unfold padZ;omega
 refine zc Tryz.func76 rfl rfl rfl (fun ext w hext=>?_);refine ze (d:=0) rfl zk (fun hsl0=>?_);refine qbQ ?_;refine qaz ?_;refine qcr ?_;refine qfX ?_;refine qfX ?_;refine qbu ?_;refine qfv ?_;refine qbu ?_;refine qaR ?_;refine qa6 ?_;refine qd9 ?_;refine zwR (T:=u8T) (n:=padZ b.length+8) rfl rfl rfl rfl rfl rfl yi yi zat ze_5 ⟨by omega,by omega,(show(padZ b.length+8)*1<=16777216 by omega)⟩ ?_;refine zhV (d:=17) rfl rfl ?_;refine A0 (zW (T:=(sl u8T)) (xs:=[_,_,_]) rfl zcK zcQ ⟨rfl,rfl,rfl,rfl,rfl,rfl,trivial⟩ rfl rfl) ?_;refine zao (zg3 [b,[128],List.replicate (padZ b.length+8) 0] yB) rfl zp3 yd rfl rfl rfl ?_;refine A0 aO ?_;refine CNQQR ?_;refine qaF ?_;refine Lp (ι:=Nat×List UInt8) 2 (fun(k,l)=>((Fr.none.set 0 (.val (sl u8T) b)).set 4 (.own 1)).set 20 (.val i64T (k:Int))) (fun(k,l)=>Hp.none.set 1 (.row 5 u8T l)) (fun(k,l)=>k<=8/\l.length=b.length+padZ b.length+9/\∀j,j<b.length+padZ b.length+1\/b.length+padZ b.length+9-k<=j->l[j]?=(zcv b)[j]?) (fun(k,l)=>8-k) ((0,[b,[128],List.replicate (padZ b.length+8) 0].flatten)) (⟨uf _,by simp;omega,fun j h=>pad_start h⟩) ?_;intro⟨k,l⟩ hinv;dsimp only at hinv;refine qap ?_;refine Cf (p:=k<8) (fun ht21=>?_) (fun ht21=>?_)
 .
  obtain⟨x,hx⟩:∃x,l[b.length+padZ b.length+8-k]?=some x:=yr;refine qbp ?_;refine qcc ?_;refine A0 mO ?_;refine A0 mO ?_;refine A0 (zbS rfl rfl rfl zfT) ?_;refine qfv ?_;refine qcn ?_;refine qaz ?_;refine qcr ?_;refine qd1 ?_;refine qeH ?_;refine qaz ?_;refine A0 zkD ?_;refine xb ?_;refine qbS ?_;refine A0 (zau (i:=b.length+padZ b.length+8-k) rfl rfl rfl rfl yi zb0 yh) ?_;refine qfe ?_;refine qb8 ?_;exact Nx ((k+1,l.set (b.length+padZ b.length+8-k) (zaF (IntL.toI u64T (zax (8*zK (IntL.toI i64T (b.length:Int))) (8*k)))))) (⟨by omega,by simp;exact hinv.2.1,pad_step ht21 hinv.2.1 hinv.2.2⟩) (by show _<8-k;simp only[];omega)
 refine qa8 ?_;exact zb rfl rfl (zf rfl rfl (pad_all (by rw[show k=8 by omega] at hinv;exact hinv.2.2)))
def putIn (x:In):List UInt8:=x.tx++[zaF (IntL.toI i64T x.i)]
def zvJ (o:Out):List UInt8:=zB (zK (IntL.toI i64T o.v)) 6++[zaF (IntL.toI i64T o.to)]
def zih (t:Tx) (k:Nat):List UInt8:=zaF (IntL.toI i64T (t.ins.length:Int))::((t.ins.take k).map putIn).flatten
def zdI (t:Tx) (k:Nat):List UInt8:=zih t t.ins.length++[zaF (IntL.toI i64T (t.outs.length:Int))]++((t.outs.take k).map zvJ).flatten
def zum (t:Tx):List UInt8:=zdI t t.outs.length
theorem zho {t:Tx} {k:Nat} {x:In} (h:t.ins[k]?=some x):zih t (k+1)=zih t k++x.tx++[zaF (IntL.toI i64T x.i)]:=by
  unfold zih;rw[un,h];simp[putIn]
theorem zgf {t:Tx} {k:Nat} {x:Out} (h:t.outs[k]?=some x):zdI t (k+1)=zdI t k++zB (zK (IntL.toI i64T x.v)) 6++[zaF (IntL.toI i64T x.to)]:=by
  unfold zdI;rw[un,h];simp[zvJ]
theorem fact_in {U N:Nat->Prop} {w:World} {x:In} {cs:List Value} (h:inT.rel U N w x cs):x.tx.length=32:=by
  obtain⟨c1,c2,_,h1,_⟩:=h;exact h1.1
theorem fact_txl {t:Tx} {ρ:Nat->Value} {B:Nat->Prop} {U N:Nat->Prop} {w:World} {v:Value} (h:(AV.val txT t).rel ρ B U N w v):t.ins.length<=9223372036854775807/\t.outs.length<=9223372036854775807:=by
  obtain⟨cs,⟨c1,c2,_,⟨_,cap,_,h1,h2,_⟩,⟨_,cap',_,h3,h4,_⟩⟩,_⟩:=h;unfold maxLen at h2 h4;exact⟨Nat.le_trans h1 h2,Nat.le_trans h3 h4⟩
theorem zF (n:UInt64) (s:Nat):(zB n s).length=s:=by simp[zB]
theorem zeu {t:Tx} (h:zaM t=true):t.ins.length<=3/\0<t.outs.length/\t.outs.length<=3:=by
  unfold zaM at h;simp only[uk,uj] at h;exact⟨h.2.1,h.2.2.1,h.2.2.2.1⟩
theorem put_ok (t:Tx):Tells P 100 [.val txT t] (.tup2 (.fresh 5 u8T (if zaM t=true then zum t else [])) (.val zo (zaM t))):=by
 refine zc Tryz.func100 rfl rfl rfl (fun ext w hext=>?_);refine qbN ?_;refine qbT ?_;refine qcD ?_;refine A0 (oCl (zrc _) rfl fn_168 yd) ?_;refine qaT ?_;refine zl (p:=¬zaM t=true) rfl yw (fun ht11=>?_) (fun ht11=>?_)
 .
  refine qbE ?_;exact zG rfl rfl (by rw[ur ht11];exact zs rfl) (za rfl (by simpa using ht11))
 have hmay:=ua ht11;obtain⟨hmi,hm0,hmo⟩:=zeu hmay;refine CSQR ?_;refine qba ?_;refine qcF ?_;refine CNQQR ?_;refine qba ?_;refine qaF ?_;refine Lp (ι:=Nat) 2 (fun (k:Nat)=>(((((Fr.none).set 1 (.ptr 0 0)).set 4 (.own 1)).set 18 (.val (sl inT) t.ins)).set 19 (.val i64T (t.ins.length:Int))).set 20 (.val i64T (k:Int))) (fun (k:Nat)=>((Hp.none).set 0 (.box 101 txT t)).set 1 (.row 5 u8T (zih t k))) (fun (k:Nat)=>k<=t.ins.length/\(zih t k).length=33*k+1) (fun (k:Nat)=>t.ins.length-k) (0) (⟨uf _,by simp[zih]⟩) ?_;intro k hinv;obtain⟨hk,hpl⟩:=hinv;have hinv:=And.intro hk hpl;refine qap ?_;refine Cf (p:=k<t.ins.length) (fun ht21=>?_) (fun ht21=>?_)
 .
  obtain⟨x,hx⟩:∃x,t.ins[k]?=some x:=⟨_,ub ht21⟩;refine qeh ?_;refine qdn ?_;refine qge ?_;refine CN ?_;refine aw_factb (n:=2) rfl fact_in (fun hx32=>?_);refine zA [some 1,some 1,some 1,none,some 2,some 2,some 2,some 2,none,some 1] mixed yc ?_;refine X0 mO ?_;refine X0 (oFp zhA) ?_;refine X0 (zoh rfl rfl zhL rfl rfl) ?_;refine XK.e (fun fr' hfr kk H=>by exact zu0 rfl rfl rfl rfl ((hfr 24 yc).trans rfl) rfl ((hfr 26 yc).trans rfl) rfl zj5 zat (by show(_+x.tx.length)*1<=_/\_+x.tx.length<=_;omega) (zD H)) ?_;refine XK.g2 (zdp rfl rfl zc9 rfl) (zdp rfl rfl zc9 rfl) rfl rfl rfl ?_;refine XK.gb (t:=28) rfl rfl (fun _ he=>zr rfl rfl he zhW ty_3) rfl yA rfl rfl rfl ?_;refine XK.g2 (zmE rfl (ui_5) (us_3) rfl) (zmE rfl (ui_5) (us_3) rfl) rfl rfl rfl ?_;refine XK.g2 (zW (T:=u8T) (xs:=[_]) rfl zb0 zat yA rfl rfl) (zW (T:=u8T) (xs:=[_]) rfl zb0 zat yA rfl rfl) rfl rfl rfl ?_;refine XK.e (fun fr' hfr kk H=>by exact zp rfl rfl rfl rfl ((hfr 27 yc).trans rfl) rfl ((hfr 31 yc).trans rfl) zat (by simp only[ue,length_cons,length_nil,hx32];omega) (zD H)) ?_;refine X0 aO ?_;refine qdL ?_;refine zco 4 1 5 rfl rfl rfl rfl rfl rfl ?_;refine zq (n:=1) rfl (zho hx).symm ?_;exact Nx (k+1) (⟨by omega,by rw[zho hx];simp only[ue,length_cons,length_nil,hx32];omega⟩) ya
 obtain rfl:k=t.ins.length:=ya;obtain⟨hli,_⟩:=hinv;refine qeY ?_;refine qbB ?_;refine qdz ?_;refine qeO ?_;refine qa6 ?_;refine zp rfl rfl rfl rfl rfl rfl rfl zat (by simp only[ue,length_cons,length_nil];omega) ?_;refine A0 aO ?_;refine CNQQR ?_;refine qbB ?_;refine qdz ?_;refine qaF ?_;refine qc7 ?_;refine zq (y:=zdI t 0) (n:=1) rfl (by simp[zdI]) ?_;refine Lp (ι:=Nat) 2 (fun k=>((((Fr.none.set 1 (.ptr 0 0)).set 4 (.own 1)).set 42 (.val (sl outT) t.outs)).set 43 (.val i64T (t.outs.length:Int))).set 44 (.val i64T (k:Int))) (fun k=>(Hp.none.set 0 (.box 101 txT t)).set 1 (.row 5 u8T (zdI t k))) (fun k=>k<=t.outs.length/\(zdI t k).length=7*k+2+33*t.ins.length) (fun k=>t.outs.length-k) (0) (⟨uf _,by simp[zdI,hpl];omega⟩) ?_;intro k hinv;refine qap ?_;refine Cf (p:=k<t.outs.length) (fun ht45=>?_) (fun ht45=>?_)
 .
  obtain⟨x,hx⟩:∃x,t.outs[k]?=some x:=⟨_,ub ht45⟩;refine qeh ?_;refine qfy ?_;refine qcW ?_;refine CN ?_;refine zA [some 1,some 1,some 1,some 1,some 1,none,some 2,some 2,some 2,some 2,none,some 1] mixed yc ?_;refine X0 mO ?_;refine X0 (oFp zee) ?_;refine X0 (oLb zf9 ty_3) ?_;refine X0 (zg0 rfl (zlp) (us_3) rfl) ?_;refine X0 (oCl (zu (zla _ 6 yl)) rfl zwq ye) ?_;refine XK.e (fun fr' hfr kk H=>by exact zp rfl rfl rfl rfl ((hfr 48 yc).trans rfl) rfl ((hfr 52 yc).trans rfl) zat yav (zD H)) ?_;refine XK.g2 (zdp rfl rfl zhz rfl) (zdp rfl rfl zhz rfl) rfl rfl rfl ?_;refine XK.gb (t:=54) rfl rfl (fun _ he=>zr rfl rfl he zje ty_3) rfl yA rfl rfl rfl ?_;refine XK.g2 (zmE rfl (ui_5) (us_3) rfl) (zmE rfl (ui_5) (us_3) rfl) rfl rfl rfl ?_;refine XK.g2 (zW (T:=u8T) (xs:=[_]) rfl zb0 zat yA rfl rfl) (zW (T:=u8T) (xs:=[_]) rfl zb0 zat yA rfl rfl) rfl rfl rfl ?_;refine XK.e (fun fr' hfr kk H=>by exact zp rfl rfl rfl rfl ((hfr 53 yc).trans rfl) rfl ((hfr 57 yc).trans rfl) zat yav (zD H)) ?_;refine X0 aO ?_;refine qdL ?_;refine zco 4 1 5 rfl rfl rfl rfl rfl rfl ?_;refine zq (n:=1) rfl (zgf hx).symm ?_;exact Nx (k+1) (⟨by omega,by rw[zgf hx];simp only[ue,length_cons,length_nil,zF];omega⟩) ya
 refine qeY ?_;refine qcl ?_;exact zG rfl rfl (zf rfl rfl (by rw[ut hmay,show k=t.outs.length by omega];rfl)) (za rfl hmay.symm)
def rr (x:UInt32) (n:Int):UInt32:=rotl x (IntKind.i64.wrap (0-n))
def zwN (x0 x1 x2 x3:UInt8):UInt32:=zsm (zdS (IntL.toI u8T x0)) 24|||zsm (zdS (IntL.toI u8T x1)) 16|||zsm (zdS (IntL.toI u8T x2)) 8|||zdS (IntL.toI u8T x3)
def znE (a b x y:UInt32):UInt32:=a+b+(rr x 7^^^rr x 18^^^zd0 x 3)+(rr y 17^^^rr y 19^^^zd0 y 10)
def zgP (b:List UInt8) (w:List UInt32) (i:Nat):List UInt32 :=
  if i<16 then w.set i (zwN (b.getD (4*i) default) (b.getD (4*i+1) default) (b.getD (4*i+2) default) (b.getD (4*i+3) default))
  else w.set i (znE (w.getD (i-16) default) (w.getD (i-7) default) (w.getD (i-15) default) (w.getD (i-2) default))
def za5 (b:List UInt8) (k:Nat):List UInt32:=(List.range k).foldl (zgP b) (List.replicate 64 0)
def roundX (v w:List UInt32) (i:Nat):UInt32:=v.getD 7 default+(rr (v.getD 4 default) 6^^^rr (v.getD 4 default) 11^^^rr (v.getD 4 default) 25)+((v.getD 4 default&&&v.getD 5 default)^^^(~~~ (v.getD 4 default)&&&v.getD 6 default))+shaK.getD i default+w.getD i default
def roundY (v:List UInt32):UInt32:=(rr (v.getD 0 default) 2^^^rr (v.getD 0 default) 13^^^rr (v.getD 0 default) 22)+((v.getD 0 default&&&v.getD 1 default)^^^(v.getD 0 default&&&v.getD 2 default)^^^(v.getD 1 default&&&v.getD 2 default))
def znM (w v:List UInt32) (i:Nat):List UInt32:=[roundX v w i+roundY v,v.getD 0 default,v.getD 1 default,v.getD 2 default,v.getD 3 default+roundX v w i,v.getD 4 default,v.getD 5 default,v.getD 6 default]
def zfl (w s:List UInt32) (k:Nat):List UInt32:=(List.range k).foldl (znM w) s
def sumN (v s:List UInt32) (k:Nat):List UInt32:=(List.range k).foldl (fun s i=>s.set i (s.getD i default+v.getD i default)) s
def addOf (s:List UInt32) (b:List UInt8):List UInt32:=sumN (zfl (za5 b 64) s 64) s 8
theorem zcz {α:Type} {f:α->Nat->α} {z:α} {k:Nat}:(List.range (k+1)).foldl f z=f ((List.range k).foldl f z) k:=by rw[range_succ,foldl_append];rfl
theorem zvv {b:List UInt8} {k:Nat} {x0 x1 x2 x3:UInt8} (hk:k<16) (h0:b[4*k]?=some x0) (h1:b[4*k+1]?=some x1) (h2:b[4*k+2]?=some x2) (h3:b[4*k+3]?=some x3):(za5 b k).set k (zwN x0 x1 x2 x3)=za5 b (k+1):=by
  unfold za5;rw[zcz];unfold zgP;rw[ut hk];simp only[uq,h0,h1,h2,h3,Option.getD_some]
theorem zvw {b:List UInt8} {k:Nat} (hk:¬k<16):(za5 b k).set k (znE ((za5 b k).getD (k-16) default) ((za5 b k).getD (k-7) default) ((za5 b k).getD (k-15) default) ((za5 b k).getD (k-2) default))=za5 b (k+1):=by
  have e:za5 b (k+1)=zgP b (za5 b k) k:=zcz;rw[e];unfold zgP;rw[ur hk]
theorem zlA {w s:List UInt32} {k:Nat}:znM w (zfl w s k) k=zfl w s (k+1):=zcz.symm
theorem zvn {v s:List UInt32} {k:Nat} {x:UInt32} (h:v[k]?=some x):(sumN v s k).set k ((sumN v s k).getD k default+x)=sumN v s (k+1):=by
  have e:sumN v s (k+1)=_:=zcz;rw[e];show _=(sumN v s k).set k ((sumN v s k).getD k default+v.getD k default);rw[uq (l:=v),h];rfl
theorem ziR {w s:List UInt32} (hs:s.length=8):∀k,(zfl w s k).length=8
  | 0=>hs
  | k+1=>by rw[<-zlA];rfl
theorem add_ok (s:List UInt32) (b:List UInt8) (hb:b.length=64) (hs:s.length=8):zfp P 77 (.box 144 (arrT 8 yl u32T) s) [.ptr 0 0,.val (bsl u8T) b] (.lit (.tuple #[])) (.box 144 (arrT 8 yl u32T) (addOf s b)):=by
 refine zg1 trivial Tryz.func77 rfl rfl ⟨Nat.one_pos,⟨trivial,trivial⟩⟩ (fun ext pg w hext hgr=>?_);refine ze (d:=1) rfl zk (fun hsl1=>?_);refine CQR ?_;refine zN zvb rfl rfl rfl rfl ?_;refine CNQQR ?_;refine qaF ?_;refine Lp (ι:=Nat) 2 (fun (k:Nat)=>((((Fr.none).set 0 (.ptr 0 0)).set 1 (.val (bsl u8T) b)).set 4 (.ptr 1 0)).set 17 (.val i64T (k:Int))) (fun (k:Nat)=>((Hp.none).set 0 (.box 144 (arrT 8 yl u32T) s)).set 1 (.box 233 (arrT 64 yl u32T) (za5 b k))) (fun (k:Nat)=>k<=64) (fun (k:Nat)=>64-k) (0) (uf _) ?_;intro k hinv;refine qap ?_;refine Cf (p:=k<64) (fun ht18=>?_) (fun ht18=>?_)
 .
  refine qbp ?_;refine qag ?_;refine qa7 ?_;refine Cf (p:=k<16) (fun ht21=>?_) (fun ht21=>?_)
  .
   obtain⟨x0,hx0⟩:∃x,b[4*k]?=some x:=yr;obtain⟨x1,hx1⟩:∃x,b[4*k+1]?=some x:=yr;obtain⟨x2,hx2⟩:∃x,b[4*k+2]?=some x:=yr;obtain⟨x3,hx3⟩:∃x,b[4*k+3]?=some x:=yr;refine CQ ?_;refine zA [some 1,some 1,some 1,some 1,some 1,some 1,some 1,some 1,some 1,some 1,some 1,some 1,some 1,some 1,some 1,some 1,some 1,some 1,some 1,some 1,some 1,some 1,some 1,some 1,some 1,some 1,some 1,some 1,some 1,some 1,some 1,some 1,some 1,some 1,some 1,none] mixed yc ?_;refine qbC ?_;refine X0 mV ?_;refine X0 zkD ?_;refine X0 (zx (i:=4*k) rfl rfl rfl ya zb0 yj) ?_;refine qb4 ?_;refine X0 (zrm rfl rfl rfl yp rfl) ?_;refine qdW ?_;refine X0 (zx (i:=4*k+1) rfl rfl rfl ya zb0 yj) ?_;refine qb4 ?_;refine X0 (zrm rfl rfl rfl yp rfl) ?_;refine X0 (zp0 rfl rfl rfl) ?_;refine qdW ?_;refine X0 (zx (i:=4*k+2) rfl rfl rfl ya zb0 yj) ?_;refine qb4 ?_;refine X0 (zrm rfl rfl rfl yp rfl) ?_;refine X0 (zp0 rfl rfl rfl) ?_;refine qdW ?_;refine X0 (zx (i:=4*k+3) rfl rfl rfl ya zb0 yj) ?_;refine qb4 ?_;refine X0 (zp0 rfl rfl rfl) ?_;refine X0 (zy (i:=k) rfl rfl rfl yi zle ya) ?_;refine XK.e (x:=.idk) (fun fr' hfr kk H=>by exact zg rfl rfl rfl ((hfr 56 yc).trans rfl) rfl (Lens.elem (i:=k) ya u32T) zbC ((hfr 55 yc).trans rfl) (zD H)) ?_;refine qe6 ?_;refine CE ?_;refine CR ?_;refine qam ?_;refine zt (n:=1) rfl (zvv ht21 hx0 hx1 hx2 hx3) ?_;exact Nx (k+1) ya ya
  refine CS ?_;refine qdO ?_;refine G0 zc3 ?_;refine G0 (zy (i:=k-15) rfl rfl rfl yi zle ya) ?_;refine G0 (zr rfl rfl rfl (Lens.elem (i:=k-15) ya u32T) zbC) ?_;refine G0 mV ?_;refine G0 zc3 ?_;refine G0 (zy (i:=k-2) rfl rfl rfl yi zle ya) ?_;refine G0 (zr rfl rfl rfl (Lens.elem (i:=k-2) ya u32T) zbC) ?_;refine qfQ ?_;refine zA [some 1,some 1,some 1,some 1,some 1,some 1,some 1,some 1,some 1,some 1,some 1,some 1,some 1,some 1,some 1,some 1,some 1,some 1,some 1,some 1,some 1,some 1,some 1,some 1,some 1,some 1,some 1,some 1,some 1,none] mixed yc ?_;refine qbC ?_;refine X0 zc3 ?_;refine X0 (zy (i:=k-16) rfl rfl rfl yi zle ya) ?_;refine X0 (zr rfl rfl rfl (Lens.elem (i:=k-16) ya u32T) zbC) ?_;refine X0 mV ?_;refine X0 zc3 ?_;refine X0 (zy (i:=k-7) rfl rfl rfl yi zle ya) ?_;refine X0 (zr rfl rfl rfl (Lens.elem (i:=k-7) ya u32T) zbC) ?_;refine qcQ ?_;refine qdd ?_;refine qdd ?_;refine X0 (zoe rfl rfl rfl) ?_;refine X0 mV ?_;refine X0 (zoj rfl rfl rfl yp rfl) ?_;refine X0 (zoe rfl rfl rfl) ?_;refine qcQ ?_;refine qdd ?_;refine qdd ?_;refine X0 (zoe rfl rfl rfl) ?_;refine X0 mV ?_;refine X0 (zoj rfl rfl rfl yp rfl) ?_;refine X0 (zoe rfl rfl rfl) ?_;refine qcQ ?_;refine X0 (zy (i:=k) rfl rfl rfl yi zle ya) ?_;refine XK.e (x:=.idk) (fun fr' hfr kk H=>by exact zg rfl rfl rfl ((hfr 93 yc).trans rfl) rfl (Lens.elem (i:=k) ya u32T) zbC ((hfr 92 yc).trans rfl) (zD H)) ?_;refine qdL ?_;refine zt (n:=1) rfl (zvw ht21) ?_;exact Nx (k+1) ya ya
 obtain rfl:k=64:=ya;refine qaU ?_;refine A0 (oCl (numbers_ok) rfl fn_149 trivial) ?_;refine zN zvb rfl rfl rfl rfl ?_;refine zg rfl rfl rfl rfl rfl (Lens.self _) ty_233 rfl ?_;refine qgk ?_;refine qcL ?_;refine A0 (oLs rfl rfl rfl zvk) ?_;refine zN ze_144 rfl rfl rfl rfl ?_;refine zg rfl rfl rfl rfl rfl (Lens.self _) zvk rfl ?_;refine CNQQR ?_;refine qaF ?_;refine Lp (ι:=Nat) 4 (fun k=>((((Fr.none.set 0 (.ptr 0 0)).set 4 (.ptr 1 0)).set 8 (.ptr 2 0)).set 9 (.ptr 3 0)).set 99 (.val i64T (k:Int))) (fun k=>(((Hp.none.set 0 (.box 144 (arrT 8 yl u32T) s)).set 1 (.box 233 (arrT 64 yl u32T) (za5 b 64))).set 2 (.box 233 (arrT 64 yl u32T) shaK)).set 3 (.box 144 (arrT 8 yl u32T) (zfl (za5 b 64) s k))) (fun k=>k<=64) (fun k=>64-k) (0) (uf _) ?_;intro k hinv;refine qap ?_;refine Cf (p:=k<64) (fun ht100=>?_) (fun ht100=>?_)
 .
  refine qbp ?_;refine qc3 ?_;refine G0 (zy (i:=0) rfl rfl rfl yi zdY ya) ?_;refine G0 (zr rfl rfl rfl (Lens.elem (i:=0) ya u32T) zbC) ?_;refine G0 (zy (i:=4) rfl rfl rfl yi zdY ya) ?_;refine G0 (zr rfl rfl rfl (Lens.elem (i:=4) ya u32T) zbC) ?_;refine qfQ ?_;refine qaI ?_;refine G0 (zy (i:=7) rfl rfl rfl yi zdY ya) ?_;refine G0 (zr rfl rfl rfl (Lens.elem (i:=7) ya u32T) zbC) ?_;refine qbK ?_;refine qbK ?_;refine qcy ?_;refine qbK ?_;refine qcy ?_;refine qdX ?_;refine G0 mV ?_;refine G0 (zy (i:=5) rfl rfl rfl yi zdY ya) ?_;refine G0 (zr rfl rfl rfl (Lens.elem (i:=5) ya u32T) zbC) ?_;refine qdY ?_;refine G0 mV ?_;refine G0 (g_not32 rfl rfl) ?_;refine G0 (zy (i:=6) rfl rfl rfl yi zdY ya) ?_;refine G0 (zr rfl rfl rfl (Lens.elem (i:=6) ya u32T) zbC) ?_;refine qdY ?_;refine qcy ?_;refine qdX ?_;refine G0 mV ?_;refine G0 (zy (i:=k) rfl rfl rfl yi zle ya) ?_;refine G0 (zr rfl rfl rfl (Lens.elem (i:=k) ya u32T) zbC) ?_;refine qdX ?_;refine G0 mV ?_;refine G0 (zy (i:=k) rfl rfl rfl yi zle ya) ?_;refine G0 (zr rfl rfl rfl (Lens.elem (i:=k) ya u32T) zbC) ?_;refine qdX ?_;refine qaM ?_;refine qaI ?_;refine qbK ?_;refine qbK ?_;refine qcy ?_;refine qbK ?_;refine qcy ?_;refine G0 mV ?_;refine G0 (zy (i:=1) rfl rfl rfl yi zdY ya) ?_;refine G0 (zr rfl rfl rfl (Lens.elem (i:=1) ya u32T) zbC) ?_;refine qdY ?_;refine G0 mV ?_;refine G0 (zy (i:=2) rfl rfl rfl yi zdY ya) ?_;refine G0 (zr rfl rfl rfl (Lens.elem (i:=2) ya u32T) zbC) ?_;refine qdY ?_;refine qcy ?_;refine G0 (zy (i:=1) rfl rfl rfl yi zdY ya) ?_;refine G0 (zr rfl rfl rfl (Lens.elem (i:=1) ya u32T) zbC) ?_;refine G0 (zy (i:=2) rfl rfl rfl yi zdY ya) ?_;refine G0 (zr rfl rfl rfl (Lens.elem (i:=2) ya u32T) zbC) ?_;refine qdY ?_;refine qcy ?_;refine qdX ?_;refine qaM ?_;refine qfJ ?_;refine A0 (zrt rfl rfl rfl) ?_;refine qaz ?_;refine A0 (zy (i:=1) rfl rfl rfl yi zdY ya) ?_;refine A0 (zr rfl rfl rfl (Lens.elem (i:=1) ya u32T) zbC) ?_;refine A0 (zy (i:=2) rfl rfl rfl yi zdY ya) ?_;refine A0 (zr rfl rfl rfl (Lens.elem (i:=2) ya u32T) zbC) ?_;refine A0 (zy (i:=3) rfl rfl rfl yi zdY ya) ?_;refine A0 (zr rfl rfl rfl (Lens.elem (i:=3) ya u32T) zbC) ?_;refine qaz ?_;refine A0 (zrt rfl rfl rfl) ?_;refine qaz ?_;refine A0 (zy (i:=5) rfl rfl rfl yi zdY ya) ?_;refine A0 (zr rfl rfl rfl (Lens.elem (i:=5) ya u32T) zbC) ?_;refine A0 (zy (i:=6) rfl rfl rfl yi zdY ya) ?_;refine A0 (zr rfl rfl rfl (Lens.elem (i:=6) ya u32T) zbC) ?_;refine A0 (ziV (T:=u32T) (xs:=[_,_,_,_,_,_,_,_]) rfl zdY ze_144 yah rfl) ?_;refine zg rfl rfl rfl rfl rfl (Lens.self _) zvk rfl ?_;refine qb8 ?_;refine zt (n:=3) rfl zlA ?_;exact Nx (k+1) ya ya
 obtain rfl:k=64:=ya;refine qaU ?_;refine A0 (oLs rfl rfl rfl zvk) ?_;refine qaF ?_;refine Lp (ι:=Nat) 1 (fun (k:Nat)=>(((Fr.none).set 0 (.ptr 0 0)).set 179 (.val (arrT 8 yl u32T) (zfl (za5 b 64) s 64))).set 180 (.val i64T (k:Int))) (fun (k:Nat)=>(Hp.none).set 0 (.box 144 (arrT 8 yl u32T) (sumN (zfl (za5 b 64) s 64) s k))) (fun (k:Nat)=>k<=8) (fun (k:Nat)=>8-k) (0) (uf _) ?_;intro k hinv;refine qap ?_;refine Cf (p:=k<8) (fun ht181=>?_) (fun ht181=>?_)
 .
  obtain⟨x,hx⟩:∃x,(zfl (za5 b 64) s 64)[k]?=some x:=⟨_,ub (by rw[ziR hs];exact ht181)⟩;refine qbp ?_;refine A0 (zlM rfl rfl rfl rfl zdY zbC yj) ?_;refine qb2 ?_;refine xd ?_;refine X0 mP ?_;refine X0 mV ?_;refine qf2 ?_;refine X0 (zy (i:=k) rfl rfl rfl yi zdY ya) ?_;refine X0 (zr rfl rfl rfl (Lens.elem (i:=k) ya u32T) zbC) ?_;refine X0 mV ?_;refine qcQ ?_;refine qf2 ?_;refine X0 (zy (i:=k) rfl rfl rfl yi zdY ya) ?_;refine XK.e (x:=.idk) (fun fr' hfr kk H=>by exact zg rfl rfl rfl ((hfr 192 yc).trans rfl) rfl (Lens.elem (i:=k) ya u32T) zbC ((hfr 190 yc).trans rfl) (zD H)) ?_;refine qdL ?_;refine zt (n:=0) rfl (zvn hx) ?_;exact Nx (k+1) ya ya
 obtain rfl:k=8:=ya;refine CE ?_;exact ztJ rfl rfl rfl rfl rfl (zcb rfl rfl)
theorem zsL (b:List UInt8):(zcv b).length=64*((b.length+padZ b.length+9)/64):=by
  have h:(zcv b).length=b.length+padZ b.length+9:=by
    unfold zcv;rw[ue,zkz];unfold zB;simp;omega
  rw[h];unfold padZ;omega
def shaH:List UInt32:=[1779033703,3144134277,1013904242,2773480762,1359893119,2600822924,528734635,1541459225]
def shaN (p:List UInt8) (n:Nat):List UInt32:=(List.range n).foldl (fun s i=>addOf s ((p.take (64*i+64)).drop (64*i))) shaH
def zqJ (b:List UInt8):List UInt32:=shaN (zcv b) ((zcv b).length/64)
def zjE (v:List UInt32) (i:Nat):UInt8:=zaF (IntL.toI u32T (zd0 (v.getD (i/4) default) (24-8*(i%4))))
def zfj (b:List UInt8):Ab.Id:=(List.range 32).map (zjE (zqJ b))
def zd3 (v:List UInt32) (k:Nat):Ab.Id:=(List.range k).foldl (fun l i=>l.set i (zjE v i)) zId
theorem zir {α:Type} (f:Nat->α) (l:List α):∀k j,((List.range k).foldl (fun l i=>l.set i (f i)) l)[j]?=if j<k/\j<l.length then some (f j) else l[j]?
  | 0,j=>by simp
  | k+1,j=>by
    rw[range_succ,foldl_append];show(List.set _ k (f k))[j]?=_;have hl:∀k,((List.range k).foldl (fun l i=>l.set i (f i)) l).length=l.length:=fun k=>by
      induction k with
      | zero=>rfl
      | succ k ih=>rw[range_succ,foldl_append];simp only[List.foldl_cons,List.foldl_nil,length_set];exact ih
    rw[List.getElem?_set,zir f l k j,hl];by_cases c:k=j
    . subst c
      by_cases d:k<l.length
      . simp[d]
      simp[d]
    rw[ur c];by_cases d:j<k
    . have:j<k+1:=by omega
      simp[d,this]
    have:¬j<k+1:=ya
    simp[d,this]
theorem zpv (v:List UInt32):zd3 v 32=(List.range 32).map (zjE v):=by
  apply ext_getElem?;intro j;unfold zd3;rw[zir,List.getElem?_map];have hz:zId.length=32:=rfl;rw[hz];by_cases c:j<32
  . rw[ut ⟨c,c⟩,List.getElem?_range c];rfl
  rw[ur (fun h=>c h.1),List.getElem?_eq_none (by first|(rw[hz];omega)|(rw[List.length_range];omega)),List.getElem?_eq_none (by first|(rw[hz];omega)|(rw[List.length_range];omega))];rfl
theorem zfM {v:List UInt32} {k:Nat} {x:UInt8} (h:x=zjE v k):(zd3 v k).set k x=zd3 v (k+1):=by
  subst h;unfold zd3;rw[range_succ,foldl_append];rfl
theorem znz {p:List UInt8} {k:Nat}:addOf (shaN p k) ((p.take (64*k+64)).drop (64*k))=shaN p (k+1):=by
  unfold shaN;rw[range_succ,foldl_append];rfl
theorem zqD {v s:List UInt32}:∀k,(sumN v s k).length=s.length
  | 0=>rfl
  | k+1=>by
    unfold sumN;rw[range_succ,foldl_append];simp only[List.foldl_cons,List.foldl_nil,length_set];exact zqD k
theorem zmN (p:List UInt8):∀k,(shaN p k).length=8
  | 0=>rfl
  | k+1=>by rw[<-znz];unfold addOf;rw[zqD];exact zmN p k
theorem zvo (b:List UInt8) (hb:b.length<=70368744177664):Tells P 25 [.val (sl u8T) b] (.val idT (zfj b)):=by
 obtain⟨m,hm⟩:∃m,m=(b.length+padZ b.length+9)/64:=⟨_,rfl⟩;have hz2:padZ b.length<64:=by unfold padZ;omega
 have hpl:(zcv b).length=64*m:=by rw[zsL,hm]
 have hmb:m<=2000000000000:=ya;refine zc Tryz.func25 rfl rfl rfl (fun ext w hext=>?_);refine ze (d:=0) rfl zk (fun hsl0=>?_);refine qbH ?_;refine A0 (ziV (T:=u32T) (xs:=[_,_,_,_,_,_,_,_]) rfl zdY ze_144 yah rfl) ?_;refine qfn ?_;refine zjc zp_142 rfl rfl rfl rfl rfl rfl ?_;refine zay rfl rfl rfl rfl rfl rfl rfl rfl rfl rfl ty_142 ?_;refine qbD ?_;refine A0 (oCl (zu (pad_ok b hb)) rfl fn_76 yd) ?_;refine z6 rfl rfl rfl rfl Tryz.func75 fn_75 rfl rfl (fun ia2 iok2=>?_);refine qav ?_;refine A0 aL ?_;refine CNQQR ?_;refine A0 (oLs rfl rfl rfl ty_3) ?_;refine qa7 ?_;refine zgH rfl yl ?_;refine CSQR ?_;refine qfK ?_;refine A0 aC ?_;refine CN ?_;refine zcx rfl ?_;refine CNB ?_;refine zi8 rfl rfl rfl Tryz.func147 fn_147 rfl rfl y5 (fun fid3 ca3 lN3 DN3 cok3 rc3 hrc3=>?_);refine CQR ?_;refine qco ?_;refine Lp (ι:=Nat) 7 (fun (k:Nat)=>((((Fr.none).set 0 (.lit (.func (.yield lN3) #[] #[]))).set 1 (.ptr 3 0)).set 2 (.ptr 4 0)).set 4 (.val i64T ((64*k:Nat):Int))) (fun (k:Nat)=>(((((((Hp.none).set 0 (.box 49 idT zId)).set 1 (.box 144 (arrT 8 yl u32T) (shaN (zcv b) k))).set 2 (.parts 142 [.ptr 1 0])).set 3 (.box 22 (sl u8T) (zcv b))).set 4 (.box 3 i64T 64)).set 5 (.objAt DN3 (.deferred (some [])))).set 6 (.objAt lN3 (rc3 .ready none))) (fun (k:Nat)=>k<=m) (fun (k:Nat)=>m-k) (0) (uf _) ?_;intro k hinv;refine qbd ?_;refine qez ?_;refine qcr ?_;refine qa7 ?_;refine Cf (p:=64*k<(zcv b).length) (fun ht9=>?_) (fun ht9=>?_)
 .
  refine qff ?_;refine G0 (oLs rfl rfl rfl ty_3) ?_;refine G0 (oLs rfl rfl rfl zji) ?_;refine G0 mV ?_;refine G0 (zjt rfl rfl rfl zb0 yh) ?_;refine G0 (zaC rfl rfl zfT) ?_;refine G0 (g_min rfl rfl rfl) ?_;refine qaM ?_;refine zj (d:=5) (y:=(64:Int)) rfl yB ?_;refine CQR ?_;refine A0 mL ?_;refine qez ?_;refine qal ?_;refine qd9 ?_;refine qal ?_;refine qfX ?_;refine A0 (zwe rfl rfl rfl rfl rfl zb0 yB) ?_;refine zj (d:=28) (y:=((zcv b).take (64*k+64)).drop (64*k)) rfl (by congr 1) ?_;refine zi7 (nL:=6) rfl rfl rfl rfl rfl hrc3 rfl rfl rfl (fun ya4 yok4=>?_);refine CR ?_;refine qad ?_;refine zjb (nL:=6) hrc3 rfl ?_;refine CB ?_;refine CR ?_;refine A0 (zaf rfl rfl rfl rfl rfl ty_142) ?_;refine qaz ?_;refine zja (add_ok (shaN (zcv b) k) (((zcv b).take (64*k+64)).drop (64*k)) (by rw[List.length_drop,um];omega) (zmN _ k)) rfl fn_77 rfl trivial trivial rfl yb5 rfl rfl rfl ?_;refine CN ?_;refine CI ?_;refine zdV (nL:=6) hrc3 rfl ?_;refine qaT ?_;refine Cg ?_;refine CSIR ?_;refine qaz ?_;refine A0 (oLs rfl rfl rfl ty_3) ?_;refine qfX ?_;refine qad ?_;refine zj (d:=4) (y:=((64*(k+1):Nat):Int)) rfl ya ?_;refine zt (n:=1) (y:=shaN (zcv b) (k+1)) rfl znz ?_;exact Nx (k+1) ya ya
 obtain rfl:m=k:=ya;refine CE ?_;refine ze2 (nL:=6) rfl hrc3 rfl yl ?_;refine CI ?_;refine CQR ?_;refine qaC ?_;refine CNQQR ?_;refine qaF ?_;refine Lp (ι:=Nat) 8 (fun (j:Nat)=>((((Fr.none).set 2 (.ptr 0 0)).set 3 (.ptr 2 0)).set 5 (.ptr 7 0)).set 16 (.val i64T (j:Int))) (fun (j:Nat)=>(((((Hp.none).set 0 (.box 49 idT zId)).set 1 (.box 144 (arrT 8 yl u32T) (shaN (zcv b) m))).set 2 (.parts 142 [.ptr 1 0])).set 5 (.objAt DN3 (.deferred (some [])))).set 7 (.box 49 idT (zd3 (shaN (zcv b) m) j))) (fun (j:Nat)=>j<=32) (fun (j:Nat)=>32-j) (0) (uf _) ?_;intro j hinv;refine qap ?_;refine Cf (p:=j<32) (fun ht17=>?_) (fun ht17=>?_)
 .
  refine qbp ?_;refine qcc ?_;refine qaz ?_;refine A0 (zaf rfl rfl rfl rfl rfl ty_142) ?_;refine qaz ?_;refine qb9 ?_;refine qcL ?_;refine A0 (zy (i:=j/4) rfl rfl rfl yi zdY ya) ?_;refine A0 (zr rfl rfl rfl (Lens.elem (i:=j/4) ya u32T) zbC) ?_;refine qaz ?_;refine qbu ?_;refine A0 zkD ?_;refine qfv ?_;refine A0 (zoj rfl rfl rfl yp rfl) ?_;refine A0 (zmE rfl (ui_5) (zqA) rfl) ?_;refine A0 (zy (i:=j) rfl rfl rfl yi zhL ya) ?_;refine zg rfl rfl rfl rfl rfl (Lens.elem (i:=j) ya u8T) ty_5 rfl ?_;refine qb8 ?_;refine zt (n:=7) (y:=zd3 (shaN (zcv b) m) (j+1)) rfl (zfM (by unfold zjE;congr 3;simp only[IntL.toI,id_eq];omega)) ?_;exact Nx (j+1) ya ya
 obtain rfl:j=32:=ya;refine qfT ?_;refine zaA (zcp (nD:=5) rfl rfl rfl ?_);exact zrP rfl rfl rfl rfl zY ybO
def idOf (t:Tx):Ab.Id:=if zaM t=true then zfj ([6]++zum t) else zId
theorem ziS {α:Type} {T:GoT α} {U N:Nat->Prop} {w:World}:∀{l:List α} {cs:List Value},zai T U N w l cs->∀x∈l,∃c,T.rel U N w x c
  | [],_,_,x,hx=>by cases hx
  | y::l,_,⟨c1,c2,_,h1,h2⟩,x,hx=>by
    rcases mem_cons.1 hx with e|e
    . exact⟨c1,e▸h1⟩
    exact ziS h2 x e
theorem zuF {t:Tx} {ρ:Nat->Value} {B:Nat->Prop} {U N:Nat->Prop} {w:World} {v:Value} (h:(AV.val txT t).rel ρ B U N w v):∀x∈t.ins,x.tx.length=32:=fun x hx=>by
  obtain⟨cs,⟨c1,c2,_,⟨ad,cap,_,_,_,h3⟩,_⟩,_⟩:=h;obtain⟨_,ds,_,_,hr,_⟩:=h3 (List.ne_nil_of_mem hx);obtain⟨c,hc⟩:=ziS hr x hx;exact fact_in hc
theorem zht {α Z:Type} {f:α->List Z} {n:Nat}:∀{l:List α},(∀x∈l,(f x).length=n)->(l.map f).flatten.length=l.length*n
  | [],_=>by simp
  | x::l,h=>by
    rw[map_cons,List.flatten_cons,ue,h x yw,zht (fun y hy=>h y ybt),length_cons,Nat.add_mul];omega
theorem zsC {t:Tx} (h:zaM t=true) (h32:∀x∈t.ins,x.tx.length=32):(zum t).length<=200:=by
  obtain⟨h1,_,h2⟩:=zeu h;unfold zum zdI zih;have e1:=zht (f:=putIn) (n:=33) (l:=t.ins.take t.ins.length) (fun x hx=>by
    rw[take_length] at hx;unfold putIn;rw[ue,h32 x hx];rfl)
  have e2:=zht (f:=zvJ) (n:=7) (l:=t.outs.take t.outs.length) (fun x hx=>by
    unfold zvJ;rw[ue,zF];rfl)
  rw[take_length] at e1 e2;simp only[ue,length_cons,length_nil,take_length,e1,e2];omega
theorem of_ok (ls:List (List UInt8)) (hl:ls.flatten.length<=70368744177664):Tells P 70 [.val (bsl (bsl u8T)) ls] (.val idT (zfj ls.flatten)):=by
 refine zc Tryz.func70 rfl rfl rfl (fun ext w hext=>?_);refine ze (d:=0) rfl zk (fun hsl0=>?_);refine qbH ?_;refine qaz ?_;refine A0 (oCl (zu (zg3 ls ya)) rfl zp3 yd) ?_;refine A0 (oCl (zvo ls.flatten hl) rfl fn_25 yd) ?_;refine qbP ?_;exact zE rfl rfl rfl rfl zY (rfl)
theorem id_ok (t:Tx):Tells P 44 [.val txT t] (.val idT (idOf t)):=by
 refine zc Tryz.func44 rfl rfl rfl (fun ext w hext=>?_);refine ze (d:=0) rfl zuF (fun h32=>?_);refine qeP ?_;refine qcD ?_;refine A0 (oCl (zbi (put_ok t)) rfl fn_100 yd) ?_;refine qbF ?_;refine qaT ?_;refine zl (p:=¬zaM t=true) rfl yw (fun ht11=>?_) (fun ht11=>?_)
 .
  refine qeo ?_;exact zE rfl rfl rfl rfl zY (by unfold idOf;rw[ur ht11])
 refine zj (d:=3) rfl (ut (ua ht11)) ?_;refine CSQR ?_;refine qa6 ?_;refine qaz ?_;refine A0 (zW (T:=(sl u8T)) (xs:=[_,_]) rfl zcK zcQ yao rfl rfl) ?_;refine A0 (oCl (of_ok [[6],zum t] (by have:=zsC (ua ht11) h32;simp;omega)) rfl fn_70 yd) ?_;refine qbP ?_;exact zE rfl rfl rfl rfl zY (by unfold idOf;rw[ut (ua ht11)];simp)
def powN:Nat->UInt32
  | 0=>1
  | n+1=>2*powN n
theorem zmX:∀n,n<32->(powN n).toNat=2^n
  | 0,_=>rfl
  | n+1,h=>by
    have ih:=zmX n ya;have h2:2^n<=2^30:=Nat.pow_le_pow_right yl ya;rw[powN,toNat_mul,ih,Nat.pow_succ];have e:(2:UInt32).toNat=2:=rfl;rw[e];omega
theorem turn_n:∀n:Nat,n<32->0<n->(zK (IntKind.i64.wrap (0-(n:Int)))&&&31).toNat=32-n/\(32-(zK (IntKind.i64.wrap (0-(n:Int)))&&&31)).toNat=n:=yc
theorem zvR {a b k:Nat} (h:b<2^k):a*2^k|||b=a*2^k+b:=by
  rw[Nat.mul_comm];exact(Nat.two_pow_add_eq_or_of_lt h a).symm
theorem turn_rr (x:UInt32) {n:Nat} (h0:0<n) (h:n<32):x/powN n+x*powN (32-n)=rr x n:=by
  have hx:x.toNat<2^32:=x.toNat_lt;obtain⟨e1,e2⟩:=turn_n n h h0;apply toNat_inj.1;unfold rr rotl;rw[e1,e2,toNat_add,toNat_div,toNat_mul,zmX n h,zmX (32-n) ya,toNat_or];unfold zsm zd0;rw[UInt32.toNat_ofNat',Nat.min_eq_left ya,toNat_ofNat_of_lt' (Nat.lt_of_le_of_lt (Nat.div_le_self _ _) hx),Nat.min_eq_left ya];have hp:2^32=2^n*2^(32-n):=by rw[<-Nat.pow_add];congr 1;omega
  have hm:x.toNat*2^(32-n)%2^32=x.toNat%2^n*2^(32-n):=by rw[hp,Nat.mul_mod_mul_right]
  have hd:x.toNat/2^n<2^(32-n):=by rw[Nat.div_lt_iff_lt_mul (Nat.two_pow_pos n),Nat.mul_comm,<-hp];exact hx
  rw[hm,zvR hd,Nat.add_comm];refine Nat.mod_eq_of_lt ?_;have hl:=Nat.mod_lt x.toNat (Nat.two_pow_pos n)
  have:x.toNat%2^n*2^(32-n)+2^(32-n)<=2^n*2^(32-n):=by
    rw[<-Nat.succ_mul];exact Nat.mul_le_mul_right _ hl
  omega
theorem maj_eq (a b c:UInt32):(a&&&b)|||(a&&&c)|||(b&&&c)=(a&&&b)^^^(a&&&c)^^^(b&&&c):=by
  apply UInt32.toBitVec_inj.1;simp only[UInt32.toBitVec_or,UInt32.toBitVec_and,UInt32.toBitVec_xor]
  ext i hi
  simp only[BitVec.getElem_or,BitVec.getElem_and,BitVec.getElem_xor];cases a.toBitVec[i]<;>cases b.toBitVec[i]<;>cases c.toBitVec[i]<;>rfl
theorem not_eq (a:UInt32):4294967295-a = ~~~ a:=by
  apply toNat_inj.1;have ha:a.toNat<4294967296:=a.toNat_lt;rw[UInt32.toNat_sub,UInt32.toNat_not];have e:(4294967295:UInt32).toNat=4294967295:=rfl;rw[e]
  have:UInt32.size=4294967296:=rfl
  omega
theorem u32_of8 (x:UInt8):(zdS (IntL.toI u8T x)).toNat=x.toNat:=by
  have hx:x.toNat<256:=x.toNat_lt;unfold zdS;show(UInt32.ofNat ((x.toNat:Int)%4294967296).toNat).toNat=_;rw[show((x.toNat:Int)%4294967296).toNat=x.toNat by omega,toNat_ofNat_of_lt' (by show _<4294967296;omega)]
theorem be_eq (x0 x1 x2 x3:UInt8):16777216*zdS (IntL.toI u8T x0)+65536*zdS (IntL.toI u8T x1)+256*zdS (IntL.toI u8T x2)+zdS (IntL.toI u8T x3)=zwN x0 x1 x2 x3:=by
  have h0:x0.toNat<256:=x0.toNat_lt;have h1:x1.toNat<256:=x1.toNat_lt;have h2:x2.toNat<256:=x2.toNat_lt;have h3:x3.toNat<256:=x3.toNat_lt;apply toNat_inj.1;unfold zwN zsm;simp only[toNat_or,toNat_add,toNat_mul,u32_of8];rw[toNat_ofNat_of_lt' (show x0.toNat*2^min 24 32<2^32 by show x0.toNat*16777216<4294967296;omega),toNat_ofNat_of_lt' (show x1.toNat*2^min 16 32<2^32 by show x1.toNat*65536<4294967296;omega),toNat_ofNat_of_lt' (show x2.toNat*2^min 8 32<2^32 by show x2.toNat*256<4294967296;omega)];have e1:x0.toNat*2^min 24 32|||x1.toNat*2^min 16 32=(x0.toNat*256+x1.toNat)*2^16:=by
    rw[show x0.toNat*2^min 24 32=x0.toNat*2^24 from rfl,zvR (k:=24) (by show x1.toNat*65536<16777216;omega)];show x0.toNat*16777216+x1.toNat*65536=(x0.toNat*256+x1.toNat)*65536;omega
  rw[e1,zvR (k:=16) (by show x2.toNat*256<65536;omega)];have e2:(x0.toNat*256+x1.toNat)*2^16+x2.toNat*2^min 8 32=((x0.toNat*256+x1.toNat)*256+x2.toNat)*2^8:=by
    show(x0.toNat*256+x1.toNat)*65536+x2.toNat*256=((x0.toNat*256+x1.toNat)*256+x2.toNat)*256;omega
  rw[e2,zvR (k:=8) (by show x3.toNat<256;omega)];have c1:(16777216:UInt32).toNat=16777216:=rfl;have c2:(65536:UInt32).toNat=65536:=rfl;have c3:(256:UInt32).toNat=256:=rfl;rw[c1,c2,c3];omega
theorem div8 (x:UInt32):x/8=zd0 x 3:=by
  apply toNat_inj.1;have hx:x.toNat<4294967296:=x.toNat_lt;unfold zd0;rw[toNat_div,toNat_ofNat_of_lt' (Nat.lt_of_le_of_lt (Nat.div_le_self _ _) hx)];rfl
theorem div1024 (x:UInt32):x/1024=zd0 x 10:=by
  apply toNat_inj.1;have hx:x.toNat<4294967296:=x.toNat_lt;unfold zd0;rw[toNat_div,toNat_ofNat_of_lt' (Nat.lt_of_le_of_lt (Nat.div_le_self _ _) hx)];rfl
theorem zb4 {b:List UInt8}:∀k,(za5 b k).length=64
  | 0=>by simp[za5]
  | k+1=>by
    have e:za5 b (k+1)=zgP b (za5 b k) k:=zcz;rw[e];unfold zgP
    have:=zb4 (b:=b) k
    split<;>rw[length_set]<;>exact this
theorem zvm {α:Type} {l:List α} {k:Nat} {x:α} (hk:k<l.length):(l.set k x).take (k+1)=l.take k++[x]:=by
  rw[un,List.take_set_of_le (ug k),List.getElem?_set_self hk];rfl
theorem words_lo {b:List UInt8} {k:Nat} {x0 x1 x2 x3:UInt8} (hk:k<16) (h0:b[4*k]?=some x0) (h1:b[4*k+1]?=some x1) (h2:b[4*k+2]?=some x2) (h3:b[4*k+3]?=some x3):(za5 b k).take k++[16777216*zdS (IntL.toI u8T x0)+65536*zdS (IntL.toI u8T x1)+256*zdS (IntL.toI u8T x2)+zdS (IntL.toI u8T x3)]=(za5 b (k+1)).take (k+1):=by
  rw[be_eq,<-zvv hk h0 h1 h2 h3,zvm (by rw[zb4];omega)]
theorem zkd {l:List UInt32} {k j:Nat} {x:UInt32} (h:(l.take k)[j]?=some x):l.getD j default=x:=by
  have hj:j<k:=by
    have:=(ul.1 h).1
    rw[um] at this;omega
  rw[List.getElem?_take_of_lt hj] at h;rw[uq,h];rfl
theorem words_hi {b:List UInt8} {k:Nat} {u v x y:UInt32} (hk:¬k<16) (hk2:k<64) (hu:((za5 b k).take k)[k-16]?=some u) (hv:((za5 b k).take k)[k-7]?=some v) (hx:((za5 b k).take k)[k-15]?=some x) (hy:((za5 b k).take k)[k-2]?=some y) :
    (za5 b k).take k++[u+(rr x 7^^^rr x 18^^^x/8)+v+(rr y 17^^^rr y 19^^^y/1024)]=(za5 b (k+1)).take (k+1):=by
  rw[<-zvw hk,zvm (by rw[zb4];omega),zkd hu,zkd hv,zkd hx,zkd hy,div8,div1024];unfold znE;rw[add_assoc u _ v,add_comm _ v,<-add_assoc]
theorem eight {l:List UInt32} (h:l.length=8):∃a b c d e f g i,l=[a,b,c,d,e,f,g,i]:=by
  match l,h with
  | [a,b,c,d,e,f,g,i],_=>exact⟨a,b,c,d,e,f,g,i,rfl⟩
theorem round_ref {w h:List UInt32} {k:Nat} {a b c d e f g i kk ww:UInt32} (hv:zfl w h k=[a,b,c,d,e,f,g,i]) (hk:shaK[k]?=some kk) (hw:w[k]?=some ww) :
    [i+(rr e 6^^^rr e 11^^^rr e 25)+((e&&&f)^^^((4294967295-e)&&&g))+kk+ww+(rr a 2^^^rr a 13^^^rr a 22)+((a&&&b)|||(a&&&c)|||(b&&&c)),a,b,c,d+(i+(rr e 6^^^rr e 11^^^rr e 25)+((e&&&f)^^^((4294967295-e)&&&g))+kk+ww),e,f,g]=zfl w h (k+1):=by
  rw[<-zlA,hv,maj_eq,not_eq,add_assoc _ _ ((a&&&b)^^^(a&&&c)^^^(b&&&c))];unfold znM roundX roundY;simp only[uq (l:=shaK),uq (l:=w),hk,hw,Option.getD_some];rfl
theorem sumN_comm {v s:List UInt32} (hv:v.length=8) (hs:s.length=8):sumN v s 8=sumN s v 8:=by
  obtain⟨a,b,c,d,e,f,g,i,rfl⟩:=eight hv;obtain⟨a',b',c',d',e',f',g',i',rfl⟩:=eight hs;show [a'+a,b'+b,c'+c,d'+d,e'+e,f'+f,g'+g,i'+i]=[a+a',b+b',c+c',d+d',e+e',f+f',g+g',i+i'];simp only[add_comm]
theorem sum_succ2 {v s:List UInt32} {k:Nat} {x y:UInt32} (h:v[k]?=some x) (hy:(sumN v s k)[k]?=some y):(sumN v s k).set k (y+x)=sumN v s (k+1):=by
  rw[<-zvn h,uq,hy];rfl
theorem rpow_ok (n:Int) (hn:n<100):Tells P 379 [.val i64T n] (.val u32T (powN n.toNat)):=by
 refine zc Tryz.func379 rfl rfl rfl (fun ext w hext=>?_);refine ze (d:=0) rfl zz (fun hin0=>?_);refine qf5 ?_;refine qcz ?_;refine Lp (ι:=Nat) 0 (fun (k:Nat)=>(((Fr.none).set 0 (.val i64T n)).set 3 (.val u32T (powN k))).set 4 (.val i64T (k:Int))) (fun (k:Nat)=>Hp.none) (fun (k:Nat)=>k<=n.toNat) (fun (k:Nat)=>n.toNat-k) (0) (uf _) ?_;intro k hinv;refine qb6 ?_;refine qa7 ?_;refine Cf (p:=k<n.toNat) (fun ht7=>?_) (fun ht7=>?_)
 .
  refine qaS ?_;refine qe5 ?_;refine A0 (zom rfl rfl rfl) ?_;refine qdB ?_;exact Nx (k+1) ya ya
 obtain rfl:k=n.toNat:=ya;refine qdl ?_;exact zb rfl rfl (za rfl rfl)
theorem zeM (x:UInt32) (n:Nat) (h0:0<n) (h:n<32):Tells P 353 [.val u32T x,.val i64T (n:Int)] (.val u32T (rr x (n:Int))):=by
 refine zc Tryz.func353 rfl rfl rfl (fun ext w hext=>?_);refine ze (d:=1) rfl zz (fun hin1=>?_);refine CQR ?_;refine qc3 ?_;refine qbl ?_;refine G0 (oCl (rpow_ok (n:Int) ya) rfl fn_379 yd) ?_;refine G0 (zol rfl rfl rfl (by rw[Int.toNat_natCast,zmX _ h];exact Nat.ne_of_gt (Nat.two_pow_pos n))) ?_;refine qbl ?_;refine G0 zc3 ?_;refine G0 (oCl (rpow_ok (32-(n:Int)) ya) rfl fn_379 yd) ?_;refine G0 (zom rfl rfl rfl) ?_;refine qdX ?_;refine qaM ?_;exact zb rfl rfl (za rfl (by rw[show(32-(n:Int)).toNat=32-n by omega,Int.toNat_natCast];exact turn_rr x h0 h))
theorem zue:Tells P 352 [] (.val (sl u32T) shaK):=by
 refine zc Tryz.func352 rfl rfl rfl (fun ext w hext=>?_);refine qbQ ?_;refine A0 (zW (T:=u32T) (xs:=[_,_,_,_,_,_,_,_,_,_,_,_,_,_,_,_,_,_,_,_,_,_,_,_,_,_,_,_,_,_,_,_,_,_,_,_,_,_,_,_,_,_,_,_,_,_,_,_,_,_,_,_,_,_,_,_,_,_,_,_,_,_,_,_]) rfl zba zia yJ rfl rfl) ?_;refine qad ?_;exact zb rfl rfl (za rfl rfl)
theorem rfirst_ok:Tells P 310 [] (.val (sl u32T) shaH):=by
 refine zc Tryz.func310 rfl rfl rfl (fun ext w hext=>?_);refine qbQ ?_;refine A0 (zW (T:=u32T) (xs:=[_,_,_,_,_,_,_,_]) rfl zba zia yah rfl rfl) ?_;refine qad ?_;exact zb rfl rfl (za rfl rfl)
theorem rwords_ok (b:List UInt8) (hb:b.length=64):Tells P 312 [.val (bsl u8T) b] (.fresh 53 u32T (za5 b 64)):=by
 refine zc Tryz.func312 rfl rfl rfl (fun ext w hext=>?_);refine ze (d:=0) rfl zk (fun hsl0=>?_);refine qeR ?_;refine qa4 ?_;refine za7 (T:=u32T) (d:=3) 53 rfl ?_;refine Lp (ι:=Nat) 1 (fun (k:Nat)=>(((Fr.none).set 0 (.val (bsl u8T) b)).set 3 (.own 0)).set 4 (.val i64T (k:Int))) (fun (k:Nat)=>(Hp.none).set 0 (.row 53 u32T ((za5 b k).take k))) (fun (k:Nat)=>k<=16) (fun (k:Nat)=>16-k) (0) (uf _) ?_;intro k hinv;refine qes ?_;refine Cf (p:=k<16) (fun ht9=>?_) (fun ht9=>?_)
 .
  obtain⟨x0,hx0⟩:∃x,b[4*k]?=some x:=yr;obtain⟨x1,hx1⟩:∃x,b[4*k+1]?=some x:=yr;obtain⟨x2,hx2⟩:∃x,b[4*k+2]?=some x:=yr;obtain⟨x3,hx3⟩:∃x,b[4*k+3]?=some x:=yr;refine qaS ?_;refine zA [some 1,some 1,some 1,some 1,some 1,some 1,some 1,some 1,some 1,some 1,some 1,some 1,some 1,some 1,some 1,some 1,some 1,some 1,some 1,some 1,some 1,some 1,some 1,some 1,some 1,some 1,some 1,some 1,some 1,some 1,some 1,some 1,some 1,some 1,some 1,none,some 1] mixed yc ?_;refine X0 mO ?_;refine qbC ?_;refine X0 zkD ?_;refine X0 (zx (i:=4*k) rfl rfl rfl ya zb0 yj) ?_;refine qb4 ?_;refine X0 (zom rfl rfl rfl) ?_;refine qdW ?_;refine X0 (zx (i:=4*k+1) rfl rfl rfl ya zb0 yj) ?_;refine qb4 ?_;refine X0 (zom rfl rfl rfl) ?_;refine qcQ ?_;refine qdW ?_;refine X0 (zx (i:=4*k+2) rfl rfl rfl ya zb0 yj) ?_;refine qb4 ?_;refine X0 (zom rfl rfl rfl) ?_;refine qcQ ?_;refine qdW ?_;refine X0 (zx (i:=4*k+3) rfl rfl rfl ya zb0 yj) ?_;refine qb4 ?_;refine qcQ ?_;refine X0 (zW (T:=u32T) (xs:=[_]) rfl zba zia yA rfl rfl) ?_;refine XK.e (fun fr' hfr kk H=>by exact zp rfl rfl rfl rfl ((hfr 12 yc).trans rfl) rfl ((hfr 46 yc).trans rfl) zia yb0 (zD H)) ?_;refine qfD ?_;refine qbI ?_;refine zq (n:=0) rfl (words_lo ht9 hx0 hx1 hx2 hx3) ?_;exact Nx (k+1) ya ya
 obtain rfl:k=16:=ya;refine CE ?_;refine CQQR ?_;refine qco ?_;refine Lp (ι:=Nat) 1 (fun (k:Nat)=>((Fr.none).set 3 (.own 0)).set 5 (.val i64T (k:Int))) (fun (k:Nat)=>(Hp.none).set 0 (.row 53 u32T ((za5 b k).take k))) (fun (k:Nat)=>16<=k/\k<=64) (fun (k:Nat)=>64-k) (16) (⟨ug _,by decide⟩) ?_;intro k hinv;refine qes ?_;refine Cf (p:=k<64) (fun ht49=>?_) (fun ht49=>?_)
 .
  obtain⟨u,hu⟩:∃x,((za5 b k).take k)[k-16]?=some x:=⟨_,ub (by rw[um,zb4];omega)⟩;obtain⟨v,hv⟩:∃x,((za5 b k).take k)[k-7]?=some x:=⟨_,ub (by rw[um,zb4];omega)⟩;obtain⟨x,hx⟩:∃x,((za5 b k).take k)[k-15]?=some x:=⟨_,ub (by rw[um,zb4];omega)⟩;obtain⟨y,hy⟩:∃x,((za5 b k).take k)[k-2]?=some x:=⟨_,ub (by rw[um,zb4];omega)⟩;have hl:((za5 b k).take k).length=k:=by rw[um,zb4];omega
  refine qff ?_;refine qef ?_;refine G0 (zau (i:=k-15) rfl rfl rfl rfl yi zba yh) ?_;refine qa3 ?_;refine G0 (oCl (zeM x 7 yl yl) rfl zju ye) ?_;refine qef ?_;refine G0 (zau (i:=k-15) rfl rfl rfl rfl yi zba yh) ?_;refine qa3 ?_;refine G0 (oCl (zeM x 18 yl yl) rfl zju ye) ?_;refine qcy ?_;refine qef ?_;refine G0 (zau (i:=k-15) rfl rfl rfl rfl yi zba yh) ?_;refine qa3 ?_;refine G0 (zol rfl rfl rfl yl) ?_;refine qcy ?_;refine qaM ?_;refine qaI ?_;refine qef ?_;refine G0 (zau (i:=k-2) rfl rfl rfl rfl yi zba yh) ?_;refine qa3 ?_;refine G0 (oCl (zeM y 17 yl yl) rfl zju ye) ?_;refine qef ?_;refine G0 (zau (i:=k-2) rfl rfl rfl rfl yi zba yh) ?_;refine qa3 ?_;refine G0 (oCl (zeM y 19 yl yl) rfl zju ye) ?_;refine qcy ?_;refine qef ?_;refine G0 (zau (i:=k-2) rfl rfl rfl rfl yi zba yh) ?_;refine qa3 ?_;refine G0 (zol rfl rfl rfl yl) ?_;refine qcy ?_;refine qaM ?_;refine zA [some 1,some 1,some 1,some 1,some 1,some 1,some 1,some 1,some 1,some 1,some 1,some 1,some 1,some 1,some 1,some 1,some 1,none,some 1] mixed yc ?_;refine X0 mO ?_;refine qdm ?_;refine X0 zc3 ?_;refine X0 (zau (i:=k-16) rfl rfl rfl rfl yi zba yh) ?_;refine qbm ?_;refine X0 mV ?_;refine qcQ ?_;refine qdm ?_;refine X0 zc3 ?_;refine X0 (zau (i:=k-7) rfl rfl rfl rfl yi zba yh) ?_;refine qbm ?_;refine qcQ ?_;refine X0 mV ?_;refine qcQ ?_;refine X0 (zW (T:=u32T) (xs:=[_]) rfl zba zia yA rfl rfl) ?_;refine XK.e (fun fr' hfr kk H=>by exact zp rfl rfl rfl rfl ((hfr 92 yc).trans rfl) rfl ((hfr 108 yc).trans rfl) zia yb0 (zD H)) ?_;refine qfD ?_;refine qbI ?_;refine zq (n:=0) rfl (words_hi ya ht49 hu hv hx hy) ?_;exact Nx (k+1) (⟨by omega,by omega⟩) ya
 obtain rfl:k=64:=ya;refine qa8 ?_;exact zb rfl rfl (zf rfl rfl (uc (by rw[zb4];exact ug _)))
theorem rrounds_ok (hs ws:List UInt32) (hh:hs.length=8) (hw:ws.length=64):Tells P 311 [.val (bsl u32T) hs,.val (bsl u32T) ws] (.fresh 53 u32T (sumN (zfl ws hs 64) hs 8)):=by
 refine zc Tryz.func311 rfl rfl rfl (fun ext w hext=>?_);refine ze (d:=0) rfl zk (fun hsl0=>?_);refine ze (d:=1) rfl zk (fun hsl1=>?_);refine qbQ ?_;refine A0 (oCl (zue) rfl fn_352 trivial) ?_;refine qaR ?_;refine zdX rfl rfl rfl rfl rfl rfl zia ya ?_;refine A0 aO ?_;refine qa4 ?_;refine Lp (ι:=Nat) 1 (fun (k:Nat)=>(((((Fr.none).set 0 (.val (bsl u32T) hs)).set 1 (.val (bsl u32T) ws)).set 5 (.val (sl u32T) shaK)).set 6 (.own 0)).set 7 (.val i64T (k:Int))) (fun (k:Nat)=>(Hp.none).set 0 (.row 53 u32T (zfl ws hs k))) (fun (k:Nat)=>k<=64) (fun (k:Nat)=>64-k) (0) (uf _) ?_;intro k hinv;refine qes ?_;refine Cf (p:=k<64) (fun ht18=>?_) (fun ht18=>?_)
 .
  obtain⟨kk,hkk⟩:∃x,shaK[k]?=some x:=⟨_,ub (by show k<64;omega)⟩;obtain⟨ww,hww⟩:∃x,ws[k]?=some x:=yr;obtain⟨a,b,c,d,e,f,g,i,hv⟩:=eight (ziR (w:=ws) hh k);refine zq (n:=0) rfl hv ?_;have h0:([a,b,c,d,e,f,g,i]:List UInt32)[0]?=some a:=rfl;have h1:([a,b,c,d,e,f,g,i]:List UInt32)[1]?=some b:=rfl;have h2:([a,b,c,d,e,f,g,i]:List UInt32)[2]?=some c:=rfl;have h3:([a,b,c,d,e,f,g,i]:List UInt32)[3]?=some d:=rfl;have h4:([a,b,c,d,e,f,g,i]:List UInt32)[4]?=some e:=rfl;have h5:([a,b,c,d,e,f,g,i]:List UInt32)[5]?=some f:=rfl;have h6:([a,b,c,d,e,f,g,i]:List UInt32)[6]?=some g:=rfl;have h7:([a,b,c,d,e,f,g,i]:List UInt32)[7]?=some i:=rfl;have b0:0<([a,b,c,d,e,f,g,i]:List UInt32).length:=yw;have b1:1<([a,b,c,d,e,f,g,i]:List UInt32).length:=yw;have b2:2<([a,b,c,d,e,f,g,i]:List UInt32).length:=yw;have b3:3<([a,b,c,d,e,f,g,i]:List UInt32).length:=yw;have b4:4<([a,b,c,d,e,f,g,i]:List UInt32).length:=yw;have b5:5<([a,b,c,d,e,f,g,i]:List UInt32).length:=yw;have b6:6<([a,b,c,d,e,f,g,i]:List UInt32).length:=yw;have b7:7<([a,b,c,d,e,f,g,i]:List UInt32).length:=yw;refine qff ?_;refine qbv ?_;refine G0 (oCl (zeM e 6 yl yl) rfl zju ye) ?_;refine qbv ?_;refine G0 (oCl (zeM e 11 yl yl) rfl zju ye) ?_;refine qcy ?_;refine qbv ?_;refine G0 (oCl (zeM e 25 yl yl) rfl zju ye) ?_;refine qcy ?_;refine qaM ?_;refine qaI ?_;refine qbv ?_;refine G0 mO ?_;refine G0 (zau (i:=5) rfl rfl rfl rfl yi zba yh) ?_;refine qa3 ?_;refine qdY ?_;refine qbv ?_;refine G0 (g_sub32 rfl rfl rfl) ?_;refine G0 mO ?_;refine G0 (zau (i:=6) rfl rfl rfl rfl yi zba yh) ?_;refine qa3 ?_;refine qdY ?_;refine qcy ?_;refine qaM ?_;refine qaI ?_;refine G0 mO ?_;refine G0 (zau (i:=7) rfl rfl rfl rfl yi zba yh) ?_;refine qa3 ?_;refine G0 mV ?_;refine qdX ?_;refine G0 mV ?_;refine qdX ?_;refine qbl ?_;refine G0 (zx (i:=k) rfl rfl rfl ya zba yj) ?_;refine G0 (zh rfl rfl zbC) ?_;refine qdX ?_;refine qbl ?_;refine G0 (zx (i:=k) rfl rfl rfl ya zba yj) ?_;refine G0 (zh rfl rfl zbC) ?_;refine qdX ?_;refine qaM ?_;refine qaI ?_;refine qb3 ?_;refine G0 (oCl (zeM a 2 yl yl) rfl zju ye) ?_;refine qb3 ?_;refine G0 (oCl (zeM a 13 yl yl) rfl zju ye) ?_;refine qcy ?_;refine qb3 ?_;refine G0 (oCl (zeM a 22 yl yl) rfl zju ye) ?_;refine qcy ?_;refine qaM ?_;refine qaI ?_;refine qb3 ?_;refine G0 mO ?_;refine G0 (zau (i:=1) rfl rfl rfl rfl yi zba yh) ?_;refine qa3 ?_;refine qdY ?_;refine qb3 ?_;refine G0 mO ?_;refine G0 (zau (i:=2) rfl rfl rfl rfl yi zba yh) ?_;refine qa3 ?_;refine qdY ?_;refine G0 (zp0 rfl rfl rfl) ?_;refine G0 mO ?_;refine G0 (zau (i:=1) rfl rfl rfl rfl yi zba yh) ?_;refine qa3 ?_;refine G0 mO ?_;refine G0 (zau (i:=2) rfl rfl rfl rfl yi zba yh) ?_;refine qa3 ?_;refine qdY ?_;refine G0 (zp0 rfl rfl rfl) ?_;refine qaM ?_;refine zA [some 1,some 1,some 1,some 1,some 1,some 1,some 1,some 1,some 1,some 1,some 1,some 1,some 1,some 1,some 1,some 1,some 1,some 1,some 1,some 1,some 1,some 1,some 1,some 1,some 1,some 1,some 1,some 1,none,some 1] mixed yc ?_;refine qbC ?_;refine qcQ ?_;refine X0 mV ?_;refine qcQ ?_;refine X0 mO ?_;refine X0 (zau (i:=0) rfl rfl rfl rfl yi zba yh) ?_;refine qbm ?_;refine X0 mO ?_;refine X0 (zau (i:=1) rfl rfl rfl rfl yi zba yh) ?_;refine qbm ?_;refine X0 mO ?_;refine X0 (zau (i:=2) rfl rfl rfl rfl yi zba yh) ?_;refine qbm ?_;refine X0 mO ?_;refine X0 (zau (i:=3) rfl rfl rfl rfl yi zba yh) ?_;refine qbm ?_;refine X0 mV ?_;refine qcQ ?_
  refine X0 mO ?_;refine X0 (zau (i:=4) rfl rfl rfl rfl yi zba yh) ?_;refine qbm ?_;refine X0 mO ?_;refine X0 (zau (i:=5) rfl rfl rfl rfl yi zba yh) ?_;refine qbm ?_;refine X0 mO ?_;refine X0 (zau (i:=6) rfl rfl rfl rfl yi zba yh) ?_;refine qbm ?_;refine XK.e (fun fr' hfr kk H=>by exact zbg (T:=u32T) (xs:=[_,_,_,_,_,_,_,_]) rfl rfl rfl rfl zba zia ⟨rfl,((hfr 109 yc).trans rfl),rfl,((hfr 112 yc).trans rfl),rfl,((hfr 115 yc).trans rfl),rfl,((hfr 118 yc).trans rfl),rfl,((hfr 123 yc).trans rfl),rfl,((hfr 126 yc).trans rfl),rfl,((hfr 129 yc).trans rfl),rfl,((hfr 132 yc).trans rfl),trivial⟩ rfl rfl (zD H)) ?_;refine qfD ?_;refine zeE 0 ?_;refine qbI ?_;refine zq (n:=0) rfl (round_ref hv hkk hww) ?_;exact Nx (k+1) ya ya
 obtain rfl:k=64:=ya;refine CE ?_;refine CQQR ?_;refine qco ?_;refine zq (n:=0) (y:=sumN hs (zfl ws hs 64) 0) rfl (by simp[sumN]) ?_;refine Lp (ι:=Nat) 1 (fun (k:Nat)=>(((Fr.none).set 0 (.val (bsl u32T) hs)).set 6 (.own 0)).set 13 (.val i64T (k:Int))) (fun (k:Nat)=>(Hp.none).set 0 (.row 53 u32T (sumN hs (zfl ws hs 64) k))) (fun (k:Nat)=>k<=8) (fun (k:Nat)=>8-k) (0) (uf _) ?_;intro k hinv;refine qes ?_;refine Cf (p:=k<8) (fun ht135=>?_) (fun ht135=>?_)
 .
  have hsl:(sumN hs (zfl ws hs 64) k).length=8:=by rw[zqD,ziR hh]
  obtain⟨y,hy⟩:∃x,(sumN hs (zfl ws hs 64) k)[k]?=some x:=yr;obtain⟨x,hx⟩:∃x,hs[k]?=some x:=yr;refine qaS ?_;refine zA [some 1,some 1,some 1,some 1,some 1,some 1,some 1,some 1,some 1,some 1,some 1,some 1,none] mixed yc ?_;refine qdm ?_;refine qdm ?_;refine X0 (zau (i:=k) rfl rfl rfl rfl yi zba yh) ?_;refine qbm ?_;refine qbC ?_;refine X0 (zx (i:=k) rfl rfl rfl ya zba yj) ?_;refine X0 (zh rfl rfl zbC) ?_;refine qcQ ?_;refine X0 (zau (i:=k) rfl rfl rfl rfl yi zba yh) ?_;refine XK.e (x:=.idk) (fun fr' hfr kk H=>by exact zda rfl rfl rfl ((hfr 149 yc).trans rfl) rfl rfl yj (Lens.self _) zbC ((hfr 148 yc).trans rfl) (zD H)) ?_;refine qaV ?_;refine qan ?_;refine zq (n:=0) rfl (sum_succ2 hx hy) ?_;exact Nx (k+1) ya ya
 obtain rfl:k=8:=ya;refine qa8 ?_;exact zb rfl rfl (zf rfl rfl (sumN_comm hh (ziR hh _)))
theorem zoL:∀{a b:List UInt8},Lib.compareBytes a b=0↔a=b
  | [],[]=>by simp[Lib.compareBytes]
  | [],_::_=>by simp[Lib.compareBytes]
  | _::_,[]=>by simp[Lib.compareBytes]
  | x::a,y::b=>by
    unfold Lib.compareBytes;by_cases h1:x<y
    . rw[ut h1]
      constructor
      . intro h;omega
      intro h;injection h with h _;subst h;exact absurd h1 (UInt8.lt_irrefl _)
    rw[ur h1];by_cases h2:y<x
    . rw[ut h2]
      constructor
      . intro h;omega
      intro h;injection h with h _;subst h;exact absurd h2 (UInt8.lt_irrefl _)
    rw[ur h2];have e:x=y:=UInt8.le_antisymm (UInt8.not_lt.1 h2) (UInt8.not_lt.1 h1);subst e;rw[zoL (a:=a) (b:=b)];simp
theorem cb_neg:∀{a b:List UInt8},Lib.compareBytes b a = -Lib.compareBytes a b
  | [],[]=>by simp[Lib.compareBytes]
  | [],_::_=>by simp[Lib.compareBytes]
  | _::_,[]=>by simp[Lib.compareBytes]
  | x::a,y::b=>by
    unfold Lib.compareBytes;by_cases h1:x<y
    . have h2:¬y<x:=fun h=>UInt8.lt_irrefl _ (UInt8.lt_trans h1 h)
      simp[h1,h2]
    by_cases h2:y<x
    . simp[h1,h2]
    simp only[ur h1,ur h2];exact cb_neg
theorem zwK:∀{a b c:List UInt8},Lib.compareBytes a b<0->Lib.compareBytes b c<0->Lib.compareBytes a c<0
  | [],[],_,h,_=>by simp[Lib.compareBytes] at h
  | _::_,[],_,h,_=>by simp[Lib.compareBytes] at h
  | _,_::_,[],_,h=>by simp[Lib.compareBytes] at h
  | [],_::_,_::_,_,_=>by simp[Lib.compareBytes]
  | x::a,y::b,z::c,h,k=>by
    unfold Lib.compareBytes at h k ⊢;by_cases h1:x<y
    . by_cases k1:y<z
      . rw[ut (UInt8.lt_trans h1 k1)];omega
      rw[ur k1] at k;by_cases k2:z<y
      . rw[ut k2] at k;omega
      have e:y=z:=UInt8.le_antisymm (UInt8.not_lt.1 k2) (UInt8.not_lt.1 k1);subst e;rw[ut h1];omega
    rw[ur h1] at h;by_cases h2:y<x
    . rw[ut h2] at h;omega
    rw[ur h2] at h;have e:x=y:=UInt8.le_antisymm (UInt8.not_lt.1 h2) (UInt8.not_lt.1 h1);subst e;by_cases k1:x<z
    . rw[ut k1];omega
    rw[ur k1] at k ⊢;by_cases k2:z<x
    . rw[ut k2] at k;omega
    rw[ur k2] at k ⊢;exact zwK h k
theorem zm2 (a b:In):zbj a b=if Lib.compareBytes a.tx b.tx=0 then zjy a.i b.i else Lib.compareBytes a.tx b.tx:=by
  unfold zbj;simp only[orL];by_cases h:Lib.compareBytes a.tx b.tx=0
  . rw[ut h,ut h]
    split<;>simp_all
  rw[ur h,ur h]
theorem zuO {x y:Int}:zjy x y=0↔x=y:=by unfold zjy;split<;>(try split)<;>omega
theorem zc2 {a b:In}:zbj a b=0↔a=b:=by
  rw[zm2];by_cases h:Lib.compareBytes a.tx b.tx=0
  . rw[ut h,zuO]
    have:=zoL.1 h
    cases a;cases b;simp_all
  rw[ur h]
  constructor
  . intro e;exact absurd e h
  intro e;subst e;exact absurd (zoL.2 rfl) h
theorem zdl (a b:In):zbj b a = -zbj a b:=by
  rw[zm2,zm2,cb_neg (a:=a.tx) (b:=b.tx)];by_cases h:Lib.compareBytes a.tx b.tx=0
  . rw[ut h,ut ya]
    unfold zjy;split<;>split<;>(try split)<;>omega
  rw[ur h,ur ya]
theorem zfP {a b c:In} (h:zbj a b<0) (k:zbj b c<0):zbj a c<0:=by
  rw[zm2] at h k ⊢;by_cases h1:Lib.compareBytes a.tx b.tx=0
  . rw[ut h1] at h
    have e:=zoL.1 h1;rw[e];by_cases k1:Lib.compareBytes b.tx c.tx=0
    . rw[ut k1] at k ⊢
      unfold zjy at *;split at h<;>split at k<;>(try split at h)<;>(try split at k)<;>split<;>(try split)<;>omega
    rw[ur k1] at k ⊢;exact k
  rw[ur h1] at h;by_cases k1:Lib.compareBytes b.tx c.tx=0
  . have e:=zoL.1 k1
    rw[<-e,ur h1];exact h
  rw[ur k1] at k
  have:=zwK h k
  rw[ur ya];exact this
def sortL_ren:Go.Shelf.Ren:=⟨fun|6=>288|15=>169|14=>334|28=>223|29=>224|20=>363|21=>364|22=>365|23=>366|24=>367|25=>368|26=>369|27=>370|46=>381|47=>355|48=>356|49=>382|50=>383|57=>387|n=>n,fun|22=>61|24=>293|25=>373|3=>3|39=>234|0=>0|53=>53|55=>50|4=>4|46=>384|45=>383|50=>167|5=>5|9=>9|66=>403|70=>407|76=>418|77=>126|n=>n,fun|n=>n⟩
theorem sortL:Go.Proofs.SlLaysF0.n6 P sortL_ren:={
  mixed:=by kernel_rfl,
  f6:=⟨Tryz.f288.name,by decide,Tryz.func288.trans (congrArg some yt)⟩,
  f14:=⟨Tryz.f334.name,by decide,Tryz.func334.trans (congrArg some yt)⟩,
  f15:=Tryz.func169.trans (congrArg some yt),
  f20:=⟨Tryz.f363.name,by decide,Tryz.func363.trans (congrArg some yt)⟩,
  f21:=⟨Tryz.f364.name,by decide,Tryz.func364.trans (congrArg some yt)⟩,
  f22:=⟨Tryz.f365.name,by decide,Tryz.func365.trans (congrArg some yt)⟩,
  f23:=⟨Tryz.f366.name,by decide,Tryz.func366.trans (congrArg some yt)⟩,
  f24:=⟨Tryz.f367.name,by decide,Tryz.func367.trans (congrArg some yt)⟩,
  f25:=⟨Tryz.f368.name,by decide,Tryz.func368.trans (congrArg some yt)⟩,
  f26:=⟨Tryz.f369.name,by decide,Tryz.func369.trans (congrArg some yt)⟩,
  f27:=⟨Tryz.f370.name,by decide,Tryz.func370.trans (congrArg some yt)⟩,
  f28:=Tryz.func223.trans (congrArg some yt),
  f29:=Tryz.func224.trans (congrArg some yt),
  f46:=⟨Tryz.f381.name,by decide,Tryz.func381.trans (congrArg some yt)⟩,
  f47:=Tryz.func355.trans (congrArg some yt),
  f48:=Tryz.func356.trans (congrArg some yt),
  f49:=⟨Tryz.f382.name,by decide,Tryz.func382.trans (congrArg some yt)⟩,
  f50:=⟨Tryz.f383.name,by decide,Tryz.func383.trans (congrArg some yt)⟩,
  f57:=⟨Tryz.f387.name,by decide,Tryz.func387.trans (congrArg some yt)⟩,
  t0:=Tryz.underlying0,
  a0:=Tryz.isAgg0,
  z0:=Tryz.sizeOf0,
  v0:=Tryz.zeroValue0,
  t3:=Tryz.underlying3,
  a3:=Tryz.isAgg3,
  z3:=Tryz.sizeOf3,
  v3:=Tryz.zeroValue3,
  t4:=Tryz.underlying4,
  a4:=Tryz.isAgg4,
  z4:=Tryz.sizeOf4,
  v4:=Tryz.zeroValue4,
  t5:=Tryz.underlying5,
  a5:=Tryz.isAgg5,
  z5:=Tryz.sizeOf5,
  v5:=Tryz.zeroValue5,
  t9:=Tryz.underlying9,
  a9:=Tryz.isAgg9,
  z9:=Tryz.sizeOf9,
  v9:=Tryz.zeroValue9,
  t22:=Tryz.underlying61,
  a22:=Tryz.isAgg61,
  z22:=Tryz.sizeOf61,
  v22:=Tryz.zeroValue61,
  t25:=Tryz.underlying373,
  a25:=Tryz.isAgg373,
  z25:=Tryz.sizeOf373,
  v25:=Tryz.zeroValue373,
  t39:=Tryz.underlying234,
  a39:=Tryz.isAgg234,
  z39:=Tryz.sizeOf234,
  v39:=Tryz.zeroValue234,
  t45:=Tryz.underlying383,
  a45:=Tryz.isAgg383,
  z45:=Tryz.sizeOf383,
  v45:=Tryz.zeroValue383,
  t46:=Tryz.underlying384,
  a46:=Tryz.isAgg384,
  z46:=Tryz.sizeOf384,
  v46:=Tryz.zeroValue384,
  t50:=Tryz.underlying167,
  a50:=Tryz.isAgg167,
  z50:=Tryz.sizeOf167,
  v50:=Tryz.zeroValue167,
  t53:=Tryz.underlying53,
  a53:=Tryz.isAgg53,
  z53:=Tryz.sizeOf53,
  v53:=Tryz.zeroValue53,
  t55:=Tryz.underlying50,
  a55:=Tryz.isAgg50,
  z55:=Tryz.sizeOf50,
  v55:=Tryz.zeroValue50,
  t66:=Tryz.underlying403,
  a66:=Tryz.isAgg403,
  z66:=Tryz.sizeOf403,
  v66:=Tryz.zeroValue403,
  t70:=Tryz.underlying407,
  a70:=Tryz.isAgg407,
  z70:=Tryz.sizeOf407,
  v70:=Tryz.zeroValue407,
  t76:=Tryz.underlying418,
  a76:=Tryz.isAgg418,
  z76:=Tryz.sizeOf418,
  v76:=Tryz.zeroValue418,
  t77:=Tryz.underlying126,
  a77:=Tryz.isAgg126,
  z77:=Tryz.sizeOf126,
  v77:=Tryz.zeroValue126 }
def Apart (l:List Coin):Prop:=l.Pairwise fun a b=>zbj a.inn b.inn≠0
def zki (l:List Coin):List Coin:=l.mergeSort fun a b=>decide (zbj a.inn b.inn<=0)
def ztg (l:Ab.Id):List Value:=l.map fun b=>.int .u8 b.toNat
def zoy (c:Coin):List Value:=ztg c.inn.tx++[.int .i64 c.inn.i,.int .i64 c.out.v,.int .i64 c.out.to]
def okCoin (c:Coin):Prop:=c.inn.tx.length=32/\IntKind.InR .i64 c.inn.i/\IntKind.InR .i64 c.out.v/\IntKind.InR .i64 c.out.to
theorem flat_u8:Flat1 u8T (fun b=>[.int .u8 b.toNat]) (fun _=>True):=fun _ _ _ _ _=>Iff.rfl
theorem flat_id:Flat1 idT ztg (fun l=>l.length=32):=fun U N w l cs=>by
  show(l.length=32/\zai u8T U N w l cs)↔_;rw[zhu flat_u8];have e:(l.map fun b:UInt8=>[Value.int .u8 b.toNat]).flatten=ztg l:=by
    unfold ztg
    induction l with
    | nil=>rfl
    | cons x l ih=>rw[map_cons,List.flatten_cons,ih];rfl
  rw[e];exact⟨fun h=>⟨h.2.1,h.1⟩,fun h=>⟨h.2,h.1,fun _ _=>trivial⟩⟩
theorem flat_coin:Flat1 zbq zoy okCoin:=fun U N w c cs=>by
  constructor
  . rintro ⟨c1,c2,rfl,⟨d1,d2,rfl,h1,h2⟩,⟨d3,d4,rfl,h3,h4⟩⟩
    obtain⟨rfl,k1⟩:=(flat_id _ _ _ _ _).1 h1;obtain⟨rfl,k2⟩:=h2;obtain⟨rfl,k3⟩:=h3;obtain⟨rfl,k4⟩:=h4;exact⟨by simp[zoy],k1,k2,k3,k4⟩
  rintro ⟨rfl,k1,k2,k3,k4⟩
  exact⟨ztg c.inn.tx++[.int .i64 c.inn.i],[.int .i64 c.out.v,.int .i64 c.out.to],by simp[zoy],⟨ztg c.inn.tx,[.int .i64 c.inn.i],rfl,(flat_id _ _ _ _ _).2 ⟨rfl,k1⟩,rfl,k2⟩,⟨[.int .i64 c.out.v],[.int .i64 c.out.to],rfl,⟨rfl,k3⟩,rfl,k4⟩⟩
theorem zt7 {l r:List Coin} (hl:Apart l) (hp:r.Perm l) (hs:r.Pairwise fun a b=>¬zbj b.inn a.inn<0):r=zki l:=by
  have hle:∀a b c:Coin,(decide (zbj a.inn b.inn<=0))=true->(decide (zbj b.inn c.inn<=0))=true->(decide (zbj a.inn c.inn<=0))=true:=fun a b c h1 h2=>by
    have h1:=of_decide_eq_true h1;have h2:=of_decide_eq_true h2;apply ui;by_cases e1:zbj a.inn b.inn=0
    . rw[zc2.1 e1];exact h2
    by_cases e2:zbj b.inn c.inn=0
    . rw[<-zc2.1 e2];exact h1
    have:=zfP (show zbj a.inn b.inn<0 by omega) (show zbj b.inn c.inn<0 by omega);omega
  have htot:∀a b:Coin,(decide (zbj a.inn b.inn<=0)||decide (zbj b.inn a.inn<=0))=true:=fun a b=>by
    have:=zdl a.inn b.inn
    rw[Bool.or_eq_true,uj,uj];omega
  have h1:(zki l).Pairwise fun a b=>(decide (zbj a.inn b.inn<=0))=true:=List.pairwise_mergeSort (fun a b c=>hle a b c) (fun a b=>htot a b) l
  have h2:r.Pairwise fun a b=>(decide (zbj a.inn b.inn<=0))=true:=hs.imp fun {a b} h=>by
    have:=zdl a.inn b.inn
    exact ui ya
  have hperm:r.Perm (zki l):=hp.trans (List.mergeSort_perm l _).symm;have hap:Apart (zki l):=(List.mergeSort_perm l _).symm.pairwise hl (fun {a b} h=>by have:=zdl a.inn b.inn;omega);have hinj:∀a∈zki l,∀b∈zki l,zbj a.inn b.inn=0->a=b:=by
    intro a ha b hb h0;apply Classical.byContradiction;intro hne;obtain⟨i,hi,rfl⟩:=List.getElem_of_mem ha;obtain⟨j,hj,rfl⟩:=List.getElem_of_mem hb;have hw:=List.pairwise_iff_getElem.1 hap;rcases Nat.lt_trichotomy i j with h|h|h
    . exact hw i j hi hj h h0
    . subst h;exact hne rfl
    have:=zdl (zki l)[i].inn (zki l)[j].inn
    exact hw j i hj hi h ya
  refine hperm.eq_of_pairwise (le:=fun a b=>(decide (zbj a.inn b.inn<=0))=true) (fun a b ha hb x y=>?_) h2 h1;have x:=of_decide_eq_true x;have y:=of_decide_eq_true y
  have:=zdl a.inn b.inn
  exact hinj a (hperm.mem_iff.1 ha) b hb ya
theorem sort_ok (l:List Coin) (hl:Apart l) (hn:l.length<1000000):zfp P 288 (.row 293 zbq l) [.own 0,.clo 289 []] (.lit (.tuple #[])) (.row 293 zbq (zki l)) :=
  sort_tells sortL flat_coin (fun c h=>by unfold zoy ztg;simp only[ue,List.length_map,h.1,length_cons,length_nil];rfl) (fun c _ v hv=>by
    unfold zoy ztg at hv;simp only[List.mem_append,mem_map,mem_cons,List.not_mem_nil,or_false] at hv;rcases hv with ⟨b,_,rfl⟩|rfl|rfl|rfl<;>rfl) rfl (x0:=⟨⟨zId,0⟩,⟨0,0⟩⟩) ⟨rfl,zdo.2 yl,zdo.2 yl,zdo.2 yl⟩ zpo (cf:=fun a b=>zbj a.inn b.inn)
    (fun c _ h=>by have:=zc2.2 (rfl:c.inn=c.inn);omega) (fun a b c _ _ _ h1 h2=>zfP h1 h2)
    (fun a b c _ _ _ h1 h2 h3=>by
      have n1:=zdl a.inn b.inn;have n2:=zdl b.inn c.inn;by_cases e1:zbj a.inn b.inn=0
      . rw[zc2.1 e1] at h3;exact h2 h3
      by_cases e2:zbj b.inn c.inn=0
      . rw[<-zc2.1 e2] at h3;exact h1 h3
      have:=zfP (show zbj c.inn b.inn<0 by omega) (show zbj b.inn a.inn<0 by omega)
      have n3:=zdl a.inn c.inn;omega) fn_289 (fun x y=>made2_ok x y) ya (fun r hp hs=>zt7 hl hp hs)
def newN (id:Ab.Id) (outs:List Out) (k:Nat):List Coin:=(outs.take k).zipIdx.map fun x=>⟨⟨id,(x.2:Int)⟩,x.1⟩
theorem zq9 {id:Ab.Id} {outs:List Out} {k:Nat} (h:k<=outs.length):(newN id outs k).length=k:=by simp[newN];omega
theorem newN_succ {id:Ab.Id} {outs:List Out} {k:Nat} {o:Out} (h:outs[k]?=some o) (p:List Coin):p++newN id outs k++[⟨⟨id,(k:Int)⟩,o⟩]=p++newN id outs (k+1):=by
  have hk:=(ul.1 h).1;unfold newN;rw[un,h,List.zipIdx_append,List.map_append,List.append_assoc];simp;omega
def zca (p:List Coin) (t:Tx):List Coin×Int:=if (p.any fun c=>decide (c.inn.tx=idOf t))=true then ([],10) else (zki (p++newN (idOf t) t.outs t.outs.length),0)
theorem made_ok (p:List Coin) (t:Tx) (hp:p.length<=48) (hto:t.outs.length<=3) (hd:(p.any fun c=>decide (c.inn.tx=idOf t))=false->Apart (p++newN (idOf t) t.outs t.outs.length)):zfp P 249 (.row 293 zbq p) [.own 0,.val txT t] (.tup2 (.fresh 293 zbq (zca p t).1) (.val i64T (zca p t).2)) (.none_):=by
 refine zg1 trivial Tryz.func249 rfl rfl ⟨Nat.one_pos,⟨trivial,trivial⟩⟩ (fun ext pg w hext hgr=>?_);refine zlV (n:=0) rfl (fun hrl=>?_);refine qbN ?_;refine qaj ?_;refine qcD ?_;refine A0 (oCl (id_ok t) rfl fn_44 yd) ?_;refine qaC ?_;refine qaq ?_;refine CNQQR ?_;refine A0 mO ?_;refine qex ?_;refine A0 (oCl (zmH _ _) rfl fn_286 ⟨(zL rfl rfl),(by first|exact zdO (Cs:=[_]) rfl fn_287 yn yb2 rfl (fun x=>zvY _ x)|exact zdN (Cs:=[_]) rfl fn_287 yn yb2 rfl (fun x y=>zvY _ x)|exact zdP rfl),trivial⟩) ?_;refine CN ?_;refine zl (p:=(p.any fun c=>decide (c.inn.tx=idOf t))=true) rfl (Bool.decide_eq_true.symm) (fun ht13=>?_) (fun ht13=>?_)
 .
  refine qbE ?_;exact zwP rfl rfl rfl rfl rfl zgX (by unfold zca;rw[ut ht13];exact zo8 rfl) (zgw zgX rfl (by unfold zca;rw[ut ht13]))
 have hnot:(p.any fun c=>decide (c.inn.tx=idOf t))=false:=by simpa using ht13
 refine CSQQR ?_;refine qbB ?_;refine qdz ?_;refine qaF ?_;refine zco 0 3 4 rfl rfl rfl rfl rfl rfl ?_;refine zq (n:=3) (y:=p++newN (idOf t) t.outs 0) rfl (by simp[newN]) ?_;refine Lp (ι:=Nat) 4 (fun (k:Nat)=>((((((Fr.none).set 0 (.own 3)).set 3 (.ptr 1 0)).set 6 (.ptr 2 0)).set 15 (.val (sl outT) t.outs)).set 16 (.val i64T (t.outs.length:Int))).set 17 (.val i64T (k:Int))) (fun (k:Nat)=>(((Hp.none).set 1 (.box 101 txT t)).set 2 (.box 49 idT (idOf t))).set 3 (.row 293 zbq (p++newN (idOf t) t.outs k))) (fun (k:Nat)=>k<=t.outs.length) (fun (k:Nat)=>t.outs.length-k) (0) (uf _) ?_;intro k hinv;refine qap ?_;refine Cf (p:=k<t.outs.length) (fun ht18=>?_) (fun ht18=>?_)
 .
  obtain⟨o,ho⟩:∃o,t.outs[k]?=some o:=⟨_,ub ht18⟩;have hnl:=zq9 (id:=idOf t) hinv;refine qbp ?_;refine qfy ?_;refine A0 (zh rfl rfl zjl) ?_;refine zN ze_258 rfl rfl rfl rfl ?_;refine A0 aV ?_;refine zg rfl rfl rfl rfl rfl (Lens.self _) zjl rfl ?_;refine qdA ?_;refine qbf ?_;refine qaz ?_;refine A0 (zJ rfl ze_256 bd_256 (.cons zhA zj5 zY rfl (.cons zc9 zhW ty_3 rfl .nil)) rfl) ?_;refine A0 (oLs rfl rfl rfl zjl) ?_;refine A0 (zJ rfl ze_293 bd_293 (.cons zhy zeI zeS rfl (.cons ziW zfH zjl rfl .nil)) rfl) ?_;refine A0 (zW (T:=zbq) (xs:=[_]) rfl zmt zpE yA rfl rfl) ?_;refine zp rfl rfl rfl rfl rfl rfl rfl zpE (by simp only[ue,length_cons,length_nil,hnl];omega) ?_;refine qem ?_;refine zco 5 3 6 rfl rfl rfl rfl rfl rfl ?_;refine zq (n:=3) rfl (newN_succ ho p) ?_;exact Nx (k+1) ya ya
 obtain rfl:k=t.outs.length:=ya;refine qeY ?_;refine zja (sort_ok _ (hd hnot) (by rw[ue,zq9 (ug _)];omega)) rfl fn_288 rfl trivial trivial rfl yb5 rfl rfl rfl ?_;refine qgn ?_;refine qcl ?_;exact zwP rfl rfl rfl rfl rfl zgX (retm_fresh zgX (fun h=>False.elim h) rfl rfl (by unfold zca;rw[ur ht13])) (zgw zgX rfl (by unfold zca;rw[ur ht13]))
def Sorted (p:List Coin):Prop:=p.Pairwise fun a b=>zbj a.inn b.inn<0
theorem zqc {p:List Coin} {k:Nat} {c:Coin} (h:p[k]?=some c):zjx p k=true↔zgq c=true/\∀j b,k=j+1->p[j]?=some b->zbj b.inn c.inn<0:=by
  unfold zjx;rw[h];simp only[uk];cases k with
  | zero=>simp
  | succ k =>
    constructor
    . rintro ⟨h1,h2⟩
      refine⟨h1,fun j b e hb=>?_⟩;obtain rfl:k=j:=ya;simp only[hb] at h2;exact of_decide_eq_true h2
    rintro ⟨h1,h2⟩
    refine⟨h1,?_⟩;simp only[];cases hb:p[k]? with
    | none=>rfl
    | some b=>exact ui (h2 k b rfl hb)
theorem zbb {p:List Coin}:zaW p=true↔(∀c∈p,zgq c=true)/\Sorted p/\p.length<=48:=by
  unfold zaW;simp only[uk,uj,List.all_eq_true,List.mem_range]
  constructor
  . rintro ⟨h1,h2⟩
    have hat:∀k c,p[k]?=some c->zgq c=true/\∀j b,k=j+1->p[j]?=some b->zbj b.inn c.inn<0:=fun k c hc=>(zqc hc).1 (h1 k (ul.1 hc).1)
    refine⟨fun c hc=>?_,?_,h2⟩
    . obtain⟨k,hk⟩:=List.mem_iff_getElem?.1 hc
      exact(hat k c hk).1
    have key : ∀ (k i : Nat) (a b : Coin), i < k -> p[i]? = some a -> p[k]? = some b -> zbj a.inn b.inn < 0 := fun k => by
      induction k with
      | zero=>intro i a b h;omega
      | succ k ih =>
        intro i a b h ha hb;obtain⟨m,hm⟩:∃m,p[k]?=some m:=⟨_,ub (by have:=(ul.1 hb).1;omega)⟩;have hlast:=(hat (k+1) b hb).2 k m rfl hm;by_cases e:i=k
        . subst e;rw[ha] at hm;injection hm with hm;subst hm;exact hlast
        exact zfP (ih i a m ya ha hm) hlast
    unfold Sorted;rw[List.pairwise_iff_getElem];intro i j hi hj hij;exact key j i _ _ hij (ub hi) (ub hj)
  rintro ⟨h1,h2,h3⟩
  refine⟨fun k hk=>?_,h3⟩;refine(zqc (ub hk)).2 ⟨h1 _ (List.getElem_mem hk),fun j b e hb=>?_⟩;subst e;have hj:=(ul.1 hb).1
  have:=List.pairwise_iff_getElem.1 h2 j (j+1) hj hk ya
  rw[ub hj] at hb;injection hb with hb;rw[<-hb];exact this
theorem Sorted.apart {p:List Coin} (h:Sorted p):Apart p:=List.Pairwise.imp (fun h=>by omega) h
theorem zoW {p:List Coin} {id:Ab.Id} {outs:List Out} {k:Nat} (h:Apart p) (hn:(p.any fun c=>decide (c.inn.tx=id))=false):Apart (p++newN id outs k):=by
  unfold Apart;rw[List.pairwise_append];refine⟨h,?_,fun a ha b hb e=>?_⟩
  . unfold newN
    rw[List.pairwise_map,List.pairwise_iff_getElem];intro i j hi hj hij e
    have:=zc2.1 e
    injection this with _ h2;simp at h2;omega
  have:=zc2.1 e
  unfold newN at hb;obtain⟨x,_,rfl⟩:=mem_map.1 hb;have h2:=List.any_eq_false.1 hn a ha;rw[this] at h2;simp at h2
theorem del_sorted {l:List Coin} (i:Nat) (h:Sorted l):Sorted (l.take i++l.drop (i+1)):=by
  rw[<-List.eraseIdx_eq_take_drop_succ];exact List.Pairwise.sublist (List.eraseIdx_sublist _ _) h
def zde:List Coin->Int->List In->Option (List Coin×Int)
  | p,n,[]=>some (p,n)
  | p,n,x::l=>match p[placeOf p x]? with
    | none=>none
    | some c=>if zbj c.inn x=0 then zde (p.take (placeOf p x)++p.drop (placeOf p x+1)) (IntKind.i64.wrap (n+c.out.v)) l else none
def zah (p:List Coin) (t:Tx):List Coin×Int×Int :=
  if ¬(zaW p=true/\zaM t=true/\t.ins≠[]) then (p,0,1) else
  match zde p 0 t.ins with
  | none=>(p,0,8)
  | some (rest,n) =>
    if IntKind.i64.wrap (n-zfJ (·.v) t.outs)<0 then (p,0,8)
    else if (zca rest t).2=0 then (if 48<(zca rest t).1.length then (p,0,11) else ((zca rest t).1,IntKind.i64.wrap (n-zfJ (·.v) t.outs),0))
    else (p,0,(zca rest t).2)
theorem zeZ {p:List Coin} (h:zaW p=true):p.length<=48:=by
  unfold zaW at h;simp only[uk,uj] at h;exact h.2
theorem zr8 {p:List Coin} {n:Int} {ins:List In} {k:Nat} {x:In} {c:Coin} (hx:ins[k]?=some x) (hc:p[placeOf p x]?=some c) (h0:zbj c.inn x=0):zde p n (ins.drop k)=zde (p.take (placeOf p x)++p.drop (placeOf p x+1)) (IntKind.i64.wrap (n+c.out.v)) (ins.drop (k+1)):=by
  obtain⟨hk,rfl⟩:=ul.1 hx;rw[drop_eq_getElem_cons hk];rw[zde.eq_2];simp only[hc,ut h0]
theorem zr7 {p:List Coin} {n:Int} {ins:List In} {k:Nat} {x:In} (hx:ins[k]?=some x) (h:¬zlI p x=true):zde p n (ins.drop k)=none:=by
  obtain⟨hk,rfl⟩:=ul.1 hx;rw[drop_eq_getElem_cons hk];rw[zde.eq_2];unfold zlI zlO at h
  split
  . rfl
  rename_i c hc;rw[hc] at h;simp only[uj] at h;rw[ur h]
theorem isThere_at {p:List Coin} {x:In} (h:zlI p x=true):∃c,p[placeOf p x]?=some c/\zbj c.inn x=0:=by
  unfold zlI zlO at h
  split at h
  . cases h
  rename_i c hc;exact⟨c,hc,by simpa using h⟩
theorem zfK (p:List Coin) (e:Int) (hp:p.length<=2000000000000):Tells P 283 [.val i64T e,.rptr (bsl zbq) p] (.tup3 (.fresh 293 zbq p) (.val i64T 0) (.val i64T e)):=by
 refine zc Tryz.func283 rfl rfl rfl (fun ext w hext=>?_);refine ze (d:=0) rfl zz (fun hin0=>?_);refine qau ?_;refine A0 aV ?_;refine qaj ?_;refine A0 (zh rfl rfl zms) ?_;refine zao (ziC p yV) rfl zte yd rfl rfl rfl ?_;refine qaz ?_;refine A0 aO ?_;refine qb2 ?_;exact zdM rfl rfl (zf rfl rfl rfl) (zdf rfl) (zdf rfl)
theorem zvs (p:List Coin) (t:Tx) (hp:p.length<=2000000000000):Tells P 248 [.val (bsl zbq) p,.val txT t] (.tup3 (.fresh 293 zbq (zah p t).1) (.val i64T (zah p t).2.1) (.val i64T (zah p t).2.2)):=by
 refine zc Tryz.func248 rfl rfl rfl (fun ext w hext=>?_);refine ze (d:=0) rfl zk (fun hsl0=>?_);refine qav ?_;refine A0 aL ?_;refine A0 aV ?_;refine qaj ?_;refine qex ?_;refine A0 aC ?_;refine CNQQR ?_;refine A0 (oLs rfl rfl rfl zms) ?_;refine A0 (oCl (may_ok _) rfl fn_247 yd) ?_;refine A0 oN ?_;refine qaz ?_;refine zX (d:=21) (p:=¬zaW p=true) rfl yw (fun g21=>?_) (fun g21=>?_)
 .
  refine qcX ?_;refine A2 ?_;refine qat ?_;refine Ct ?_;refine qdx ?_;refine xe ?_;refine qbU ?_;have hS:zah p t=(p,0,1):=by unfold zah;rw[ut (fun h=>g21 h.1)]
  exact zdM rfl rfl (zf rfl rfl yR) (za rfl yR) (za rfl yR)
 refine A1 (oLs rfl rfl rfl zjm) ?_;refine A1 (oCl (zrc _) rfl fn_168 yd) ?_;refine A1 oN ?_;refine qai ?_;refine zX (d:=26) (p:=¬zaM t=true) rfl yw (fun g26=>?_) (fun g26=>?_)
 .
  refine qda ?_;refine qat ?_;refine Ct ?_;refine qdx ?_;refine xe ?_;refine qbU ?_;have hS:zah p t=(p,0,1):=by unfold zah;rw[ut (fun h=>g26 h.2.1)]
  exact zdM rfl rfl (zf rfl rfl yR) (za rfl yR) (za rfl yR)
 refine A1 (oFp zdA) ?_;refine A1 (oLb zdE zmr) ?_;refine A1 (zaC rfl rfl zjq) ?_;refine A1 zd7 ?_;refine A0 oK ?_;refine Sp (d:=31) (p:=t.ins.length=0) (fun g31=>?_) (fun g31=>?_)
 .
  refine CN ?_;refine Ct ?_;refine qdx ?_;refine xe ?_;refine qbU ?_;have hS:zah p t=(p,0,1):=by unfold zah;rw[ut (fun h=>h.2.2 (List.length_eq_zero_iff.1 g31))]
  exact zdM rfl rfl (zf rfl rfl yR) (za rfl yR) (za rfl yR)
 have hmp:=ua g21;have hmt:=ua g26;have hpl:=zeZ hmp;have hne:t.ins≠[]:=fun e=>g31 (by rw[e];rfl)
 refine CN ?_;refine Cg ?_;refine CSQR ?_;refine A0 (oLs rfl rfl rfl zms) ?_;refine zao (ziC p yV) rfl zte yd rfl rfl rfl ?_;refine A0 aO ?_;refine CNQR ?_;refine qbT ?_;refine qba ?_;refine qaF ?_;refine Lp (ι:=Nat×List Coin×Int) 3 (fun(k,rest,n)=>(((((((Fr.none.set 2 (.ptr 0 0)).set 3 (.ptr 1 0)).set 7 (.clo 283 [0])).set 8 (.own 2)).set 9 (.val i64T n)).set 40 (.val (sl inT) t.ins)).set 41 (.val i64T (t.ins.length:Int))).set 42 (.val i64T (k:Int))) (fun(k,rest,n)=>((Hp.none.set 0 (.box 61 (bsl zbq) p)).set 1 (.box 101 txT t)).set 2 (.row 293 zbq rest)) (fun(k,rest,n)=>k<=t.ins.length/\Sorted rest/\rest.length<=48/\zde p 0 t.ins=zde rest n (t.ins.drop k)) (fun(k,rest,n)=>t.ins.length-k) ((0,p,0)) (⟨uf _,(zbb.1 hmp).2.1,hpl,rfl⟩) ?_;intro⟨k,rest,n⟩ hinv;dsimp only at hinv;refine ze (d:=40) rfl zk (fun hsi=>?_);refine qap ?_;refine Cf (p:=k<t.ins.length) (fun ht43=>?_) (fun ht43=>?_)
 .
  obtain⟨x,hx⟩:∃x,t.ins[k]?=some x:=⟨_,ub ht43⟩;refine qeh ?_;refine qdn ?_;refine qge ?_;refine qgn ?_;refine A0 (oLs rfl rfl rfl zeS) ?_;refine A0 (oCl (place_ok rest x ya) rfl fn_284 ⟨(zL rfl rfl),yk,trivial⟩) ?_;refine qbF ?_;refine qaT ?_;refine zl (p:=¬zlI rest x=true) rfl yw (fun ht53=>?_) (fun ht53=>?_)
  .
   refine qdx ?_;refine xe ?_;refine qbU ?_;have hS:zah p t=(p,0,8):=by unfold zah;rw[ur (Classical.not_not.2 ⟨hmp,hmt,hne⟩)];rw[hinv.2.2.2,zr7 hx ht53]
   exact zdM rfl rfl (zf rfl rfl yR) (za rfl yR) (za rfl yR)
  obtain⟨c,hc,h0⟩:=isThere_at (ua ht53);have hlt:placeOf rest x<rest.length:=(ul.1 hc).1;refine qbY ?_;refine A0 mO ?_;refine qaz ?_;refine A0 (zau (i:=placeOf rest x) rfl rfl rfl rfl yi zmt yh) ?_;refine A0 (zoo rfl rfl ziW rfl) ?_;refine A0 (zoo rfl rfl zee rfl) ?_;refine A0 (zc8 rfl rfl rfl rfl yj (zfH.comp zf9) ty_3) ?_;refine qfX ?_;refine qcc ?_;refine A0 mO ?_;refine qal ?_;refine qfX ?_;refine aw_callc (delete_ok rest (placeOf rest x) hlt) rfl fn_285 rfl trivial ⟨yo,yo,yo,trivial⟩ rfl rfl rfl ?_;refine qem ?_;refine qeu ?_;exact Nx ((k+1,rest.take (placeOf rest x)++rest.drop (placeOf rest x+1),IntKind.i64.wrap (n+c.out.v))) (⟨by omega,del_sorted _ hinv.2.1,by simp;omega,hinv.2.2.2.trans (zr8 hx hc h0)⟩) (by show _<t.ins.length-k;simp only[];omega)
 obtain rfl:k=t.ins.length:=ya;have htk:zde p 0 t.ins=some (rest,n):=by rw[hinv.2.2.2,List.drop_of_length_le (ug _)];rfl
 refine qaU ?_;refine qaz ?_;refine qcD ?_;refine A0 (oCl (outs_ok _) rfl fn_250 yd) ?_;refine qfv ?_;refine qag ?_;refine qa7 ?_;refine Cf (p:=IntKind.i64.wrap (n-zfJ (·.v) t.outs)<0) (fun ht78=>?_) (fun ht78=>?_)
 .
  refine qdx ?_;refine xe ?_;refine qbU ?_;have hS:zah p t=(p,0,8):=by unfold zah;rw[ur (Classical.not_not.2 ⟨hmp,hmt,hne⟩)];rw[htk];exact ut ht78
  exact zdM rfl rfl (zf rfl rfl yR) (za rfl yR) (za rfl yR)
 refine qee ?_;refine qcD ?_;refine ztM (made_ok rest t ya (zeu hmt).2.2 (zoW (Sorted.apart hinv.2.1))) rfl fn_249 rfl trivial zaE yb5 rfl rfl rfl ?_;refine A0 yz ?_;refine qaa ?_;refine A0 aO ?_;refine A0 aX ?_;refine CNQQR ?_;refine A0 mX ?_;refine A0 zd7 ?_;refine qaz ?_;refine Sp (d:=92) (p:=(zca rest t).2=0) (fun g92=>?_) (fun g92=>?_)
 .
  refine A1 mO ?_;refine A1 (zbS rfl rfl rfl zjr) ?_;refine A1 zcq ?_;refine A0 oK ?_;refine Sp (d:=96) (p:=48<(zca rest t).1.length) (fun g96=>?_) (fun g96=>?_)
  .
   refine CN ?_;refine Ct ?_;refine CR ?_;refine qag ?_;refine qaG ?_;refine Ct ?_;refine qdx ?_;refine qaz ?_;refine xe ?_;refine qbU ?_;have hS:zah p t=(p,0,11):=by unfold zah;rw[ur (Classical.not_not.2 ⟨hmp,hmt,hne⟩)];rw[htk];simp only[ur ht78,ut g92,ut g96]
   exact zdM rfl rfl (zf rfl rfl yR) (za rfl yR) (za rfl yR)
  refine CN ?_;refine Cg ?_;refine CSQQR ?_;refine A0 mX ?_;refine qaG ?_;refine zgH rfl (by simp[IntL.toI,g92]) ?_;refine qee ?_;refine qaz ?_;refine A0 aO ?_;refine qb2 ?_;have hS:zah p t=((zca rest t).1,IntKind.i64.wrap (n-zfJ (·.v) t.outs),0):=by unfold zah;rw[ur (Classical.not_not.2 ⟨hmp,hmt,hne⟩)];rw[htk];simp only[ur ht78,ut g92,ur g96]
  exact zdM rfl rfl (zf rfl rfl yR) (za rfl yR) (za rfl yR)
 refine qcA ?_;refine Cg ?_;refine CSQQR ?_;refine A0 mX ?_;refine qaG ?_;refine zf6 rfl (by simp[IntL.toI,g92]) ?_;refine qdx ?_;refine A0 mX ?_;refine zf7 (As:=[_]) (Cs:=[_]) (zfK p _ hp) rfl rfl zos yb1 yn yb2 zaE zaE rfl rfl rfl ?_;refine qbU ?_;have hS:zah p t=(p,0,(zca rest t).2):=by unfold zah;rw[ur (Classical.not_not.2 ⟨hmp,hmt,hne⟩)];rw[htk];simp only[ur ht78,ur g92]
 exact zdM rfl rfl (zf rfl rfl yR) (za rfl yR) (za rfl yR)
theorem leC_trans (a b c:Coin) (h:decide (zbj a.inn b.inn<=0)=true) (k:decide (zbj b.inn c.inn<=0)=true):decide (zbj a.inn c.inn<=0)=true:=by
  simp only[uj] at *;by_cases h0:zbj a.inn b.inn=0
  . rw[zc2.1 h0];exact k
  by_cases k0:zbj b.inn c.inn=0
  . rw[<-zc2.1 k0];exact h
  have:=zfP (a:=a.inn) (b:=b.inn) (c:=c.inn) ya ya
  omega
theorem leC_total (a b:Coin):(decide (zbj a.inn b.inn<=0)||decide (zbj b.inn a.inn<=0))=true:=by
  have:=zdl a.inn b.inn
  simp only[Bool.or_eq_true,uj];omega
theorem ziO (l:List Coin):(zki l).Perm l:=List.mergeSort_perm l _
theorem zsg {l:List Coin} (h:Apart l):Sorted (zki l):=by
  have h1:(zki l).Pairwise fun a b=>decide (zbj a.inn b.inn<=0)=true:=List.pairwise_mergeSort leC_trans leC_total l
  have h2:Apart (zki l):=((ziO l).pairwise_iff (R:=fun a b:Coin=>zbj a.inn b.inn≠0) (fun {a b} h=>by have:=zdl a.inn b.inn;omega)).2 h;unfold Sorted Apart at *;refine List.Pairwise.imp₂ (fun a b h1 h2=>?_) h1 h2
  have:=of_decide_eq_true h1
  omega
theorem zr4 {t:Tx} (h:zaM t=true):∀o∈t.outs,zl5 o=false:=fun o ho=>by
  unfold zaM at h;simp only[uk,Bool.not_eq_true'] at h
  have:=List.any_eq_false.1 h.2.2.2.2 o ho
  simpa using this
theorem newN_ok {t:Tx} {id:Ab.Id} {k:Nat} (h:zaM t=true):∀c∈newN id t.outs k,zgq c=true:=fun c hc=>by
  unfold newN at hc;obtain⟨⟨o,i⟩,hx,rfl⟩:=mem_map.1 hc;have hi:=List.mk_mem_zipIdx_iff_getElem?.1 hx;have hlt:=(ul.1 hi).1;have ho:o∈t.outs:=List.mem_of_mem_take (ud hi);have h1:=zr4 h o ho;have h3:=(zeu h).2.2;rw[um] at hlt;unfold zl5 at h1;have h1:=of_decide_eq_false h1;unfold zgq;apply ui;simp only[];omega
theorem zn4 {p:List Coin} {t:Tx} (hp:∀c∈p,zgq c=true) (hs:Sorted p) (ht:zaM t=true):(∀c∈(zca p t).1,zgq c=true)/\Sorted (zca p t).1:=by
  unfold zca
  split
  . exact⟨fun c hc=>absurd hc (List.not_mem_nil),List.Pairwise.nil⟩
  rename_i h;have h:(p.any fun c=>decide (c.inn.tx=idOf t))=false:=by simpa using h
  refine⟨fun c hc=>?_,zsg (zoW (Sorted.apart hs) h)⟩
  have:=(ziO _).mem_iff.1 hc
  rcases List.mem_append.1 this with h|h
  . exact hp c h
  exact newN_ok ht c h
theorem zh5:∀{ins:List In} {p rest:List Coin} {n m:Int},zde p n ins=some (rest,m)->rest.Sublist p
  | [],p,rest,n,m,h=>by
    rw[zde.eq_1] at h;injection h with h;injection h with h _;subst h;exact List.Sublist.refl _
  | x::ins,p,rest,n,m,h=>by
    rw[zde.eq_2] at h
    split at h
    . cases h
    split at h
    . have:=zh5 h
      refine this.trans ?_;rw[<-List.eraseIdx_eq_take_drop_succ];exact List.eraseIdx_sublist _ _
    cases h
theorem zhk {p:List Coin} {t:Tx} (h:zaW p=true):zaW (zah p t).1=true:=by
  obtain⟨h1,h2,h3⟩:=zbb.1 h;unfold zah
  split
  . exact h
  rename_i hn;have hn:=ua hn
  split
  . exact h
  rename_i rest n hrest;have hsub:=zh5 hrest
  split
  . exact h
  split
  . split
    . exact h
    rename_i hl;have hg:=zn4 (p:=rest) (fun c hc=>h1 c (hsub.subset hc)) (h2.sublist hsub) hn.2.1;exact zbb.2 ⟨hg.1,hg.2,Nat.le_of_not_lt hl⟩
  exact h
end Go.Proofs.YtikaeepohlkjdaaGreat
