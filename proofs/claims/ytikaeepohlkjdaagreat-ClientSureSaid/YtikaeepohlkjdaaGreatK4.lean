/- Parts of the proof: the layer that reads Go values as data, and what the functions of the program tell. -/
import Derived.Test.YtikaeepohlkjdaaGreatProg
import Derived.KernelRfl
import Derived.Test.YtikaeepohlkjdaaGreatK3
set_option linter.unusedVariables false
set_option linter.unusedSimpArgs false
set_option maxRecDepth 100000
namespace Go.Proofs.YtikaeepohlkjdaaGreat
open Go.Ab
noncomputable abbrev P:Program:=Go.Proofs.Tryz.prog
theorem ty_3:tyB P 3 1 false=true:=yr
theorem ui_3:P.underlying 3=some (.int .i64):=yr
theorem us_3:(P.underlying 3).isSome=true:=yr
theorem ze_3:zay P 3 i64T 0:=zeR zbG yr
theorem ty_4:tyB P 4 1 false=true:=yr
theorem ze_4:zay P 4 zm false:=zeR zsE yr
theorem ty_5:tyB P 5 1 false=true:=yr
theorem ui_5:P.underlying 5=some (.int .u8):=yr
theorem us_5:(P.underlying 5).isSome=true:=yr
theorem ze_5:zay P 5 u8T 0:=zeR zero_u8 yr
theorem st_9:P.underlying 9=some .string:=yr
theorem zbi:tyB P 22 1 false=true:=yr
theorem zc4:rowB P 22 5 1 1=true:=yr
theorem zd3:sliceB P 22 5 1=true:=yr
theorem zc8:(match P.underlying 22 with|some (.slice _)=>true|_=>false)=true:=yr
theorem ze_22:zay P 22 (sl u8T) []:=zeR zc2 yr
theorem zen:tyB P 24 1 false=true:=yr
theorem zeo:rowB P 24 3 1 8=true:=yr
theorem zbR:sliceB P 24 3 1=true:=yr
theorem zcX:(match P.underlying 24 with|some (.slice _)=>true|_=>false)=true:=yr
theorem zcm:tyB P 25 1 false=true:=yr
theorem zn5:rowB P 25 72 136 208=true:=yr
theorem zfE:sliceB P 25 72 136=true:=yr
theorem zcx:(match P.underlying 25 with|some (.slice _)=>true|_=>false)=true:=yr
theorem zaR:tyB P 27 3 true=true:=yr
theorem zfR:(match P.underlying 27 with|some (.struct fs)=>fs.all fun f=>(P.info? f.type).isSome|_=>false)=true:=yr
theorem zd6:fieldB P 27 0 0 3=true:=yr
theorem zdG:fieldB P 27 1 1 3=true:=yr
theorem zat:fieldB P 27 2 2 25=true:=yr
theorem zf5:zay P 27 zac zbL:=zY zeQ yr
theorem zdk:tyB P 29 7 true=true:=yr
theorem bd_29:(match P.underlying 29 with|some (.struct fs)=>fs.all fun f=>(P.info? f.type).isSome|_=>false)=true:=yr
theorem zr2:fieldB P 29 0 0 3=true:=yr
theorem zoO:fieldB P 29 1 1 3=true:=yr
theorem zeC:fieldB P 29 2 2 24=true:=yr
theorem ziU:fieldB P 29 3 3 4=true:=yr
theorem zci:fieldB P 29 4 4 27=true:=yr
theorem ze_29:zay P 29 zaK zf6:=zY zuB yr
theorem row_32:rowB P 32 40 1 8=true:=yr
theorem sl_32:sliceB P 32 40 1=true:=yr
theorem isl_32:(match P.underlying 32 with|some (.slice _)=>true|_=>false)=true:=yr
theorem ty_36:tyB P 36 3 true=true:=yr
theorem zvM:(match P.underlying 36 with|some (.struct fs)=>fs.all fun f=>(P.info? f.type).isSome|_=>false)=true:=yr
theorem zhT:fieldB P 36 0 0 3=true:=yr
theorem zhS:fieldB P 36 1 1 3=true:=yr
theorem zoN:fieldB P 36 2 2 22=true:=yr
theorem zsF:zay P 36 msgT zMsg:=zY zero_Msg yr
theorem row_37:rowB P 37 36 3 40=true:=yr
theorem sl_37:sliceB P 37 36 3=true:=yr
theorem isl_37:(match P.underlying 37 with|some (.slice _)=>true|_=>false)=true:=yr
theorem ty_40:tyB P 40 1 false=true:=yr
theorem znJ:tyB P 46 1 false=true:=yr
theorem ztd:rowB P 46 59 137 232=true:=yr
theorem zdz:sliceB P 46 59 137=true:=yr
theorem zeP:(match P.underlying 46 with|some (.slice _)=>true|_=>false)=true:=yr
theorem zaj:tyB P 49 32 true=true:=yr
theorem zjH:arrB P 49 32 5 1=true:=yr
theorem zq8:zay P 49 idT zId:=zY zil yr
theorem zcE:tyB P 50 1 false=true:=yr
theorem znH:P.underlying 50=some (.int .u64):=yr
theorem zmV:(P.underlying 50).isSome=true:=yr
theorem za1:tyB P 52 4 true=true:=yr
theorem zcS:arrB P 52 4 50 1=true:=yr
theorem zq7:zay P 52 zaL zdj:=zY zny yr
theorem zcj:tyB P 53 1 false=true:=yr
theorem zuI:P.underlying 53=some (.int .u32):=yr
theorem us_53:(P.underlying 53).isSome=true:=yr
theorem zaM:tyB P 55 135 true=true:=yr
theorem bd_55:(match P.underlying 55 with|some (.struct fs)=>fs.all fun f=>(P.info? f.type).isSome|_=>false)=true:=yr
theorem zcR:fieldB P 55 0 0 3=true:=yr
theorem zg1:fieldB P 55 1 1 49=true:=yr
theorem zg0:fieldB P 55 2 33 49=true:=yr
theorem ziT:fieldB P 55 3 65 49=true:=yr
theorem zkb:fieldB P 55 4 97 49=true:=yr
theorem zl9:fieldB P 55 5 129 52=true:=yr
theorem zdF:fieldB P 55 6 133 53=true:=yr
theorem zhR:fieldB P 55 7 134 50=true:=yr
theorem zq6:zay P 55 zbW zko:=zY zim yr
theorem za5:tyB P 56 1 false=true:=yr
theorem zfa:rowB P 56 49 32 32=true:=yr
theorem zb8:sliceB P 56 49 32=true:=yr
theorem zcq:(match P.underlying 56 with|some (.slice _)=>true|_=>false)=true:=yr
theorem ze_56:zay P 56 (sl idT) []:=zeR zc2 yr
theorem zjF:tyB P 57 1 false=true:=yr
theorem zwk:rowB P 57 101 2 48=true:=yr
theorem zlM:sliceB P 57 101 2=true:=yr
theorem zkZ:(match P.underlying 57 with|some (.slice _)=>true|_=>false)=true:=yr
theorem zem:tyB P 59 137 true=true:=yr
theorem bd_59:(match P.underlying 59 with|some (.struct fs)=>fs.all fun f=>(P.info? f.type).isSome|_=>false)=true:=yr
theorem zbe:fieldB P 59 0 0 55=true:=yr
theorem zcQ:fieldB P 59 1 135 56=true:=yr
theorem zdE:fieldB P 59 2 136 57=true:=yr
theorem zmU:zay P 59 zL zsI:=zY zlE yr
theorem zsS:tyB P 60 1 false=true:=yr
theorem zn4:rowB P 60 197 37 72=true:=yr
theorem zlL:sliceB P 60 197 37=true:=yr
theorem zqu:(match P.underlying 60 with|some (.slice _)=>true|_=>false)=true:=yr
theorem zmX:tyB P 61 1 false=true:=yr
theorem zqf:rowB P 61 293 35 56=true:=yr
theorem zmZ:sliceB P 61 293 35=true:=yr
theorem zjN:(match P.underlying 61 with|some (.slice _)=>true|_=>false)=true:=yr
theorem zeL:tyB P 63 139 true=true:=yr
theorem zvL:(match P.underlying 63 with|some (.struct fs)=>fs.all fun f=>(P.info? f.type).isSome|_=>false)=true:=yr
theorem zeB:fieldB P 63 0 0 59=true:=yr
theorem zl8:fieldB P 63 1 137 60=true:=yr
theorem zr1:fieldB P 63 2 138 61=true:=yr
theorem zmT:zay P 63 tipT zTip:=zY zvY yr
theorem zga:tyB P 72 136 true=true:=yr
theorem bd_72:(match P.underlying 72 with|some (.struct fs)=>fs.all fun f=>(P.info? f.type).isSome|_=>false)=true:=yr
theorem zbk:fieldB P 72 0 0 55=true:=yr
theorem zbA:fieldB P 72 1 135 56=true:=yr
theorem zpx:zay P 72 zbl zsH:=zY zero_Part yr
theorem ty_75:tyB P 75 1 false=true:=yr
theorem zmW:tyB P 98 1 false=true:=yr
theorem row_98:rowB P 98 256 33 40=true:=yr
theorem zrk:sliceB P 98 256 33=true:=yr
theorem zjM:(match P.underlying 98 with|some (.slice _)=>true|_=>false)=true:=yr
theorem znI:tyB P 99 1 false=true:=yr
theorem row_99:rowB P 99 258 2 16=true:=yr
theorem zuS:sliceB P 99 258 2=true:=yr
theorem zib:(match P.underlying 99 with|some (.slice _)=>true|_=>false)=true:=yr
theorem zgb:tyB P 101 2 true=true:=yr
theorem bd_101:(match P.underlying 101 with|some (.struct fs)=>fs.all fun f=>(P.info? f.type).isSome|_=>false)=true:=yr
theorem zdY:fieldB P 101 0 0 98=true:=yr
theorem zeE:fieldB P 101 1 1 99=true:=yr
theorem zsG:zay P 101 txT zTx:=zY zero_Tx yr
theorem zmo:tyB P 108 1 false=true:=yr
theorem zp_108:(P.info? 108).bind (·.zero)=some (.pointer none):=yr
theorem bd_110:(match P.underlying 110 with|some (.struct fs)=>fs.all fun f=>(P.info? f.type).isSome|_=>false)=true:=yr
theorem zdX:fieldB P 110 0 0 27=true:=yr
theorem ze_110:zay P 110 paperT zPaper:=zY zero_Paper yr
theorem bd_117:(match P.underlying 117 with|some (.struct fs)=>fs.all fun f=>(P.info? f.type).isSome|_=>false)=true:=yr
theorem zhW:fieldB P 117 0 0 27=true:=yr
theorem zxk:fieldB P 117 1 3 56=true:=yr
theorem zeD:fieldB P 117 2 4 3=true:=yr
theorem ze_117:zay P 117 zgw zCTrial:=zY zuC yr
theorem ty_118:tyB P 118 1 false=true:=yr
theorem ty_119:tyB P 119 1 false=true:=yr
theorem zxK:arrB P 120 3 118 1=true:=yr
theorem ze_120:zay P 120 (arrT 3 yp fnoT) (List.replicate 3 none):=zY (ze4 yp zq4) yr
theorem ty_124:tyB P 124 6 true=true:=yr
theorem bd_124:(match P.underlying 124 with|some (.struct fs)=>fs.all fun f=>(P.info? f.type).isSome|_=>false)=true:=yr
theorem zjq:fieldB P 124 0 0 27=true:=yr
theorem zjp:fieldB P 124 1 3 27=true:=yr
theorem ze_124:zay P 124 zkO zPPair:=zY zero_PPair yr
theorem zsV:tyB P 142 1 false=true:=yr
theorem zp_142:(P.info? 142).bind (·.zero)=some (.pointer none):=yr
theorem zwa:tyB P 144 8 true=true:=yr
theorem zek:arrB P 144 8 53 1=true:=yr
theorem ze_144:zay P 144 (arrT 8 yp u32T) (List.replicate 8 0):=zY (ze4 yp zq3) yr
theorem ty_153:tyB P 153 1 false=true:=yr
theorem zsU:tyB P 154 1 false=true:=yr
theorem ty_155:tyB P 155 3 true=true:=yr
theorem zxJ:arrB P 155 3 153 1=true:=yr
theorem ze_155:zay P 155 (arrT 3 yp fnoT) (List.replicate 3 none):=zY (ze4 yp zq4) yr
theorem zcB:fieldB P 157 0 0 29=true:=yr
theorem zlc:fieldB P 157 1 7 36=true:=yr
theorem zrr:rowB P 161 246 64 64=true:=yr
theorem sl_161:sliceB P 161 246 64=true:=yr
theorem bd_170:(match P.underlying 170 with|some (.struct fs)=>fs.all fun f=>(P.info? f.type).isSome|_=>false)=true:=yr
theorem zr5:fieldB P 170 0 0 46=true:=yr
theorem zlb:fieldB P 170 1 1 3=true:=yr
theorem zla:fieldB P 170 2 2 3=true:=yr
theorem zjo:fieldB P 170 3 3 24=true:=yr
theorem zjn:fieldB P 170 4 4 24=true:=yr
theorem zv9:tyB P 177 1 false=true:=yr
theorem zu_186:(P.info? 186).bind (·.zero)=some (.agg #[]):=yr
theorem su_186:P.underlying 186=some (.struct #[]):=yr
theorem zu_187:(P.info? 187).bind (·.zero)=some (.agg #[]):=yr
theorem su_187:P.underlying 187=some (.struct #[]):=yr
theorem zsT:tyB P 189 1 false=true:=yr
theorem zep:rowB P 189 22 1 24=true:=yr
theorem zeN:sliceB P 189 22 1=true:=yr
theorem zhI:(match P.underlying 189 with|some (.slice _)=>true|_=>false)=true:=yr
theorem zeM:tyB P 197 37 true=true:=yr
theorem bd_197:(match P.underlying 197 with|some (.struct fs)=>fs.all fun f=>(P.info? f.type).isSome|_=>false)=true:=yr
theorem zjm:fieldB P 197 0 0 49=true:=yr
theorem zjl:fieldB P 197 1 32 52=true:=yr
theorem zhV:fieldB P 197 2 36 3=true:=yr
theorem zjI:zay P 197 zbS zTotal:=zY zero_Total yr
theorem row_203:rowB P 203 119 1 8=true:=yr
theorem sl_203:sliceB P 203 119 1=true:=yr
theorem isl_203:(match P.underlying 203 with|some (.slice _)=>true|_=>false)=true:=yr
theorem ar_204:arrB P 204 2 27 3=true:=yr
theorem ty_209:tyB P 209 32 true=true:=yr
theorem zxI:arrB P 209 32 3 1=true:=yr
theorem ze_209:zay P 209 (arrT 32 yp i64T) (List.replicate 32 0):=zY (ze4 yp zbG) yr
theorem bd_217:(match P.underlying 217 with|some (.struct fs)=>fs.all fun f=>(P.info? f.type).isSome|_=>false)=true:=yr
theorem znt:fieldB P 217 0 0 63=true:=yr
theorem zhU:fieldB P 217 1 139 59=true:=yr
theorem zk9:fieldB P 217 2 276 55=true:=yr
theorem zxj:fieldB P 217 3 411 61=true:=yr
theorem ze_217:zay P 217 ze9 zTrial:=zY zero_Trial yr
theorem ty_218:tyB P 218 1 false=true:=yr
theorem ty_219:tyB P 219 6 true=true:=yr
theorem ar_219:arrB P 219 6 218 1=true:=yr
theorem ze_219:zay P 219 (arrT 6 yp fnoT) (List.replicate 6 none):=zY (ze4 yp zq4) yr
theorem row_221:rowB P 221 218 1 8=true:=yr
theorem sl_221:sliceB P 221 218 1=true:=yr
theorem isl_221:(match P.underlying 221 with|some (.slice _)=>true|_=>false)=true:=yr
theorem ty_233:tyB P 233 64 true=true:=yr
theorem zlw:arrB P 233 64 53 1=true:=yr
theorem zv0:zay P 233 (arrT 64 yp u32T) (List.replicate 64 0):=zY (ze4 yp zq3) yr
theorem ui_234:P.underlying 234=some (.int .u64):=yr
theorem zv6:(P.underlying 234).isSome=true:=yr
theorem ty_246:tyB P 246 64 true=true:=yr
theorem zi6:arrB P 246 2 49 32=true:=yr
theorem ze_246:zay P 246 (arrT 2 yp idT) (List.replicate 2 zId):=zY (ze4 yp zil) yr
theorem fd_253_0:fieldB P 253 0 0 24=true:=yr
theorem zr4:fieldB P 253 1 1 3=true:=yr
theorem zr3:fieldB P 253 2 2 3=true:=yr
theorem zns:fieldB P 253 3 3 24=true:=yr
theorem zc3:tyB P 256 33 true=true:=yr
theorem bd_256:(match P.underlying 256 with|some (.struct fs)=>fs.all fun f=>(P.info? f.type).isSome|_=>false)=true:=yr
theorem zgQ:fieldB P 256 0 0 49=true:=yr
theorem zdW:fieldB P 256 1 32 3=true:=yr
theorem ze_256:zay P 256 inT zIn:=zY zero_In yr
theorem zh9:tyB P 258 2 true=true:=yr
theorem ze6:fieldB P 258 0 0 3=true:=yr
theorem zfO:fieldB P 258 1 1 3=true:=yr
theorem ze_258:zay P 258 outT zOut:=zY zvZ yr
theorem bd_267:(match P.underlying 267 with|some (.struct fs)=>fs.all fun f=>(P.info? f.type).isSome|_=>false)=true:=yr
theorem znr:fieldB P 267 0 0 22=true:=yr
theorem ze_267:zay P 267 zuW zReader:=zY zuA yr
theorem zpZ:tyB P 293 35 true=true:=yr
theorem bd_293:(match P.underlying 293 with|some (.struct fs)=>fs.all fun f=>(P.info? f.type).isSome|_=>false)=true:=yr
theorem zfN:fieldB P 293 0 0 256=true:=yr
theorem zjk:fieldB P 293 1 33 258=true:=yr
theorem ze_293:zay P 293 zbm zCoin:=zY zero_Coin yr
theorem znK:tyB P 301 1 false=true:=yr
theorem zp_301:(P.info? 301).bind (·.zero)=some (.map none):=yr
theorem mp_301:P.underlying 301=some (.map 3 186):=yr
theorem row_347:rowB P 347 24 1 24=true:=yr
theorem sl_347:sliceB P 347 24 1=true:=yr
theorem isl_347:(match P.underlying 347 with|some (.slice _)=>true|_=>false)=true:=yr
theorem row_391:rowB P 391 56 1 24=true:=yr
theorem sl_391:sliceB P 391 56 1=true:=yr
theorem isl_391:(match P.underlying 391 with|some (.slice _)=>true|_=>false)=true:=yr
theorem eqk_3 (d:Nat):EqOk P 3 i64T (d+1):=eq_int yr d
theorem ub_4:P.underlying 4=some .bool:=yr
theorem eqk_5 (d:Nat):EqOk P 5 u8T (d+1):=eq_u8 yr d
theorem zqH (d:Nat):EqOk P 49 idT (d+2):=eq_arr zjH ty_5 (eqk_5 d)
theorem zfl:EqTy P 49 idT:=⟨zqH 9998,rfl,by kernel_rfl⟩
theorem eqk_50 (d:Nat):EqOk P 50 u64T (d+1):=eq_u64 yr d
theorem eqk_52 (d:Nat):EqOk P 52 zaL (d+2):=eq_arr zcS zcE (eqk_50 d)
theorem eqt_52:EqTy P 52 zaL:=⟨eqk_52 9998,rfl,by kernel_rfl⟩
theorem eqk_53 (d:Nat):EqOk P 53 u32T (d+1):=eq_u32 yr d
theorem eqk_55 (d:Nat):EqOk P 55 zbW (d+3):=zoU (n:=8) yr rfl (.cons zcR zar ty_3 (eqk_3 (d+1)) (.cons zg1 zdh zaj (zqH (d+0)) (.cons zg0 zcA zaj (zqH (d+0)) (.cons ziT zf3 zaj (zqH (d+0)) (.cons zkb zgF zaj (zqH (d+0)) (.cons zl9 zh7 za1 (eqk_52 (d+0)) (.cons zdF za9 zcj (eqk_53 (d+1)) (.cons zhR zdi zcE (eqk_50 (d+1)) .nil)))))))) eqx_Head
theorem zjQ:EqTy P 55 zbW:=⟨eqk_55 9997,rfl,by kernel_rfl⟩
theorem eqk_256 (d:Nat):EqOk P 256 inT (d+3):=zoU (n:=2) yr rfl (.cons zgQ zml zaj (zqH (d+0)) (.cons zdW zlB ty_3 (eqk_3 (d+1)) .nil)) eqx_In
theorem eqt_256:EqTy P 256 inT:=⟨eqk_256 9997,rfl,by kernel_rfl⟩
theorem eqk_258 (d:Nat):EqOk P 258 outT (d+2):=zoU (n:=2) yr rfl (.cons ze6 zi9 ty_3 (eqk_3 (d+0)) (.cons zfO zjC ty_3 (eqk_3 (d+0)) .nil)) eqx_Out
theorem eqt_258:EqTy P 258 outT:=⟨eqk_258 9998,rfl,by kernel_rfl⟩
theorem fn_13:fnB P 13=true:=yr
theorem fn_14:fnB P 14=true:=yr
theorem fn_15:fnB P 15=true:=yr
theorem fn_16:fnB P 16=true:=yr
theorem zvq:fnB P 17=true:=yr
theorem fn_18:fnB P 18=true:=yr
theorem fn_19:fnB P 19=true:=yr
theorem fn_20:fnB P 20=true:=yr
theorem fn_21:fnB P 21=true:=yr
theorem zvp:fnB P 22=true:=yr
theorem zr0:fnB P 23=true:=yr
theorem fn_24:fnB P 24=true:=yr
theorem fn_25:fnB P 25=true:=yr
theorem fn_26:fnB P 26=true:=yr
theorem fn_27:fnB P 27=true:=yr
theorem fn_28:fnB P 28=true:=yr
theorem fn_30:fnB P 30=true:=yr
theorem fn_31:fnB P 31=true:=yr
theorem fn_40:fnB P 40=true:=yr
theorem fn_41:fnB P 41=true:=yr
theorem fn_42:fnB P 42=true:=yr
theorem fn_43:fnB P 43=true:=yr
theorem fn_44:fnB P 44=true:=yr
theorem fn_45:fnB P 45=true:=yr
theorem fn_46:fnB P 46=true:=yr
theorem fn_47:fnB P 47=true:=yr
theorem zj8:fnB P 48=true:=yr
theorem fn_49:fnB P 49=true:=yr
theorem fn_50:fnB P 50=true:=yr
theorem fn_51:fnB P 51=true:=yr
theorem fn_52:fnB P 52=true:=yr
theorem fn_53:fnB P 53=true:=yr
theorem fn_54:fnB P 54=true:=yr
theorem fn_55:fnB P 55=true:=yr
theorem fn_56:fnB P 56=true:=yr
theorem fn_57:fnB P 57=true:=yr
theorem fn_58:fnB P 58=true:=yr
theorem fn_59:fnB P 59=true:=yr
theorem fn_60:fnB P 60=true:=yr
theorem fn_61:fnB P 61=true:=yr
theorem fn_62:fnB P 62=true:=yr
theorem fn_63:fnB P 63=true:=yr
theorem fn_64:fnB P 64=true:=yr
theorem fn_65:fnB P 65=true:=yr
theorem fn_66:fnB P 66=true:=yr
theorem fn_67:fnB P 67=true:=yr
theorem fn_68:fnB P 68=true:=yr
theorem fn_69:fnB P 69=true:=yr
theorem fn_70:fnB P 70=true:=yr
theorem fn_71:fnB P 71=true:=yr
theorem fn_72:fnB P 72=true:=yr
theorem fn_73:fnB P 73=true:=yr
theorem fn_74:fnB P 74=true:=yr
theorem fn_75:fnB P 75=true:=yr
theorem fn_76:fnB P 76=true:=yr
theorem fn_77:fnB P 77=true:=yr
theorem fn_78:fnB P 78=true:=yr
theorem fn_79:fnB P 79=true:=yr
theorem zpS:fnB P 80=true:=yr
theorem fn_82:fnB P 82=true:=yr
theorem fn_83:fnB P 83=true:=yr
theorem fn_84:fnB P 84=true:=yr
theorem fn_85:fnB P 85=true:=yr
theorem fn_86:fnB P 86=true:=yr
theorem fn_87:fnB P 87=true:=yr
theorem fn_91:fnB P 91=true:=yr
theorem fn_92:fnB P 92=true:=yr
theorem fn_93:fnB P 93=true:=yr
theorem fn_94:fnB P 94=true:=yr
theorem fn_95:fnB P 95=true:=yr
theorem fn_96:fnB P 96=true:=yr
theorem fn_97:fnB P 97=true:=yr
theorem fn_98:fnB P 98=true:=yr
theorem fn_99:fnB P 99=true:=yr
theorem fn_100:fnB P 100=true:=yr
theorem fn_101:fnB P 101=true:=yr
theorem fn_102:fnB P 102=true:=yr
theorem zqC:fnB P 103=true:=yr
theorem fn_104:fnB P 104=true:=yr
theorem fn_105:fnB P 105=true:=yr
theorem fn_106:fnB P 106=true:=yr
theorem fn_107:fnB P 107=true:=yr
theorem fn_108:fnB P 108=true:=yr
theorem zdx:fnB P 109=true:=yr
theorem zxd:fnB P 110=true:=yr
theorem fn_111:fnB P 111=true:=yr
theorem zxc:fnB P 112=true:=yr
theorem fn_113:fnB P 113=true:=yr
theorem zoJ:fnB P 114=true:=yr
theorem fn_115:fnB P 115=true:=yr
theorem fn_116:fnB P 116=true:=yr
theorem fn_117:fnB P 117=true:=yr
theorem fn_118:fnB P 118=true:=yr
theorem fn_119:fnB P 119=true:=yr
theorem fn_120:fnB P 120=true:=yr
theorem fn_121:fnB P 121=true:=yr
theorem fn_122:fnB P 122=true:=yr
theorem zxb:fnB P 123=true:=yr
theorem fn_124:fnB P 124=true:=yr
theorem fn_125:fnB P 125=true:=yr
theorem fn_126:fnB P 126=true:=yr
theorem fn_127:fnB P 127=true:=yr
theorem fn_128:fnB P 128=true:=yr
theorem fn_129:fnB P 129=true:=yr
theorem fn_130:fnB P 130=true:=yr
theorem fn_131:fnB P 131=true:=yr
theorem fn_132:fnB P 132=true:=yr
theorem fn_133:fnB P 133=true:=yr
theorem fn_134:fnB P 134=true:=yr
theorem fn_135:fnB P 135=true:=yr
theorem fn_136:fnB P 136=true:=yr
theorem fn_137:fnB P 137=true:=yr
theorem zoI:fnB P 138=true:=yr
theorem zxa:fnB P 139=true:=yr
theorem fn_140:fnB P 140=true:=yr
theorem fn_141:fnB P 141=true:=yr
theorem fn_142:fnB P 142=true:=yr
theorem fn_143:fnB P 143=true:=yr
theorem fn_144:fnB P 144=true:=yr
theorem fn_145:fnB P 145=true:=yr
theorem ztV:fnB P 146=true:=yr
theorem fn_147:fnB P 147=true:=yr
theorem fn_148:fnB P 148=true:=yr
theorem fn_149:fnB P 149=true:=yr
theorem fn_150:fnB P 150=true:=yr
theorem fn_151:fnB P 151=true:=yr
theorem fn_152:fnB P 152=true:=yr
theorem fn_158:fnB P 158=true:=yr
theorem fn_159:fnB P 159=true:=yr
theorem fn_160:fnB P 160=true:=yr
theorem fn_161:fnB P 161=true:=yr
theorem fn_162:fnB P 162=true:=yr
theorem fn_163:fnB P 163=true:=yr
theorem fn_164:fnB P 164=true:=yr
theorem fn_165:fnB P 165=true:=yr
theorem fn_166:fnB P 166=true:=yr
theorem fn_167:fnB P 167=true:=yr
theorem fn_168:fnB P 168=true:=yr
theorem fn_169:fnB P 169=true:=yr
theorem fn_170:fnB P 170=true:=yr
theorem fn_171:fnB P 171=true:=yr
theorem fn_172:fnB P 172=true:=yr
theorem fn_173:fnB P 173=true:=yr
theorem ztU:fnB P 174=true:=yr
theorem fn_175:fnB P 175=true:=yr
theorem fn_176:fnB P 176=true:=yr
theorem zw9:fnB P 177=true:=yr
theorem fn_178:fnB P 178=true:=yr
theorem fn_179:fnB P 179=true:=yr
theorem fn_180:fnB P 180=true:=yr
theorem fn_181:fnB P 181=true:=yr
theorem fn_182:fnB P 182=true:=yr
theorem fn_183:fnB P 183=true:=yr
theorem fn_184:fnB P 184=true:=yr
theorem fn_185:fnB P 185=true:=yr
theorem fn_186:fnB P 186=true:=yr
theorem fn_187:fnB P 187=true:=yr
theorem fn_188:fnB P 188=true:=yr
theorem fn_189:fnB P 189=true:=yr
theorem fn_190:fnB P 190=true:=yr
theorem fn_191:fnB P 191=true:=yr
theorem fn_192:fnB P 192=true:=yr
theorem ztT:fnB P 193=true:=yr
theorem fn_194:fnB P 194=true:=yr
theorem fn_195:fnB P 195=true:=yr
theorem fn_196:fnB P 196=true:=yr
theorem fn_197:fnB P 197=true:=yr
theorem fn_198:fnB P 198=true:=yr
theorem fn_204:fnB P 204=true:=yr
theorem fn_205:fnB P 205=true:=yr
theorem fn_206:fnB P 206=true:=yr
theorem fn_207:fnB P 207=true:=yr
theorem fn_208:fnB P 208=true:=yr
theorem fn_209:fnB P 209=true:=yr
theorem fn_210:fnB P 210=true:=yr
theorem fn_211:fnB P 211=true:=yr
theorem fn_212:fnB P 212=true:=yr
theorem fn_213:fnB P 213=true:=yr
theorem fn_214:fnB P 214=true:=yr
theorem fn_215:fnB P 215=true:=yr
theorem fn_216:fnB P 216=true:=yr
theorem fn_217:fnB P 217=true:=yr
theorem fn_218:fnB P 218=true:=yr
theorem fn_219:fnB P 219=true:=yr
theorem fn_220:fnB P 220=true:=yr
theorem fn_221:fnB P 221=true:=yr
theorem fn_222:fnB P 222=true:=yr
theorem fn_224:fnB P 224=true:=yr
theorem fn_225:fnB P 225=true:=yr
theorem fn_226:fnB P 226=true:=yr
theorem fn_227:fnB P 227=true:=yr
theorem fn_228:fnB P 228=true:=yr
theorem fn_229:fnB P 229=true:=yr
theorem fn_230:fnB P 230=true:=yr
theorem fn_231:fnB P 231=true:=yr
theorem fn_232:fnB P 232=true:=yr
theorem fn_233:fnB P 233=true:=yr
theorem zmI:fnB P 234=true:=yr
theorem zw8:fnB P 235=true:=yr
theorem fn_236:fnB P 236=true:=yr
theorem fn_237:fnB P 237=true:=yr
theorem fn_238:fnB P 238=true:=yr
theorem fn_239:fnB P 239=true:=yr
theorem fn_240:fnB P 240=true:=yr
theorem fn_241:fnB P 241=true:=yr
theorem fn_242:fnB P 242=true:=yr
theorem fn_243:fnB P 243=true:=yr
theorem fn_244:fnB P 244=true:=yr
theorem fn_245:fnB P 245=true:=yr
theorem zmH:fnB P 246=true:=yr
theorem fn_247:fnB P 247=true:=yr
theorem fn_248:fnB P 248=true:=yr
theorem fn_249:fnB P 249=true:=yr
theorem fn_250:fnB P 250=true:=yr
theorem fn_251:fnB P 251=true:=yr
theorem fn_252:fnB P 252=true:=yr
theorem fn_264:fnB P 264=true:=yr
theorem fn_265:fnB P 265=true:=yr
theorem fn_266:fnB P 266=true:=yr
theorem fn_267:fnB P 267=true:=yr
theorem fn_269:fnB P 269=true:=yr
theorem fn_270:fnB P 270=true:=yr
theorem fn_271:fnB P 271=true:=yr
theorem fn_272:fnB P 272=true:=yr
theorem fn_273:fnB P 273=true:=yr
theorem fn_274:fnB P 274=true:=yr
theorem fn_275:fnB P 275=true:=yr
theorem fn_277:fnB P 277=true:=yr
theorem fn_278:fnB P 278=true:=yr
theorem zw7:fnB P 279=true:=yr
theorem fn_280:fnB P 280=true:=yr
theorem fn_281:fnB P 281=true:=yr
theorem fn_282:fnB P 282=true:=yr
theorem zoH:fnB P 283=true:=yr
theorem fn_284:fnB P 284=true:=yr
theorem fn_285:fnB P 285=true:=yr
theorem fn_286:fnB P 286=true:=yr
theorem fn_287:fnB P 287=true:=yr
theorem fn_288:fnB P 288=true:=yr
theorem fn_289:fnB P 289=true:=yr
theorem fn_290:fnB P 290=true:=yr
theorem fn_291:fnB P 291=true:=yr
theorem fn_313:fnB P 313=true:=yr
theorem fn_322:fnB P 322=true:=yr
theorem fn_323:fnB P 323=true:=yr
theorem fn_324:fnB P 324=true:=yr
theorem fn_325:fnB P 325=true:=yr
theorem fn_326:fnB P 326=true:=yr
theorem fn_327:fnB P 327=true:=yr
theorem fn_328:fnB P 328=true:=yr
theorem fn_329:fnB P 329=true:=yr
theorem fn_330:fnB P 330=true:=yr
theorem fn_331:fnB P 331=true:=yr
theorem fn_332:fnB P 332=true:=yr
theorem fn_333:fnB P 333=true:=yr
theorem fn_361:fnB P 361=true:=yr
theorem mixed:P.follows .mixedOrders=true:=yr
structure Hid (C:Prop):Prop where
  out:C
section
variable {A C:Prop}
theorem qaa (h:C) (t:Hid C→A:=by intro h;refine A0 yZ ?_;refine A0 yaN ?_;exact h.1):A:=t ⟨h⟩
theorem qab (h:C) (t:Hid C→A:=by intro h;refine G2 ?_;refine G2 ?_;refine G2 ?_;refine G2 ?_;refine G2 ?_;refine G2 ?_;exact h.1):A:=t ⟨h⟩
theorem qac (h:C) (t:Hid C→A:=by intro h;refine A2 ?_;refine A2 ?_;refine A2 ?_;exact h.1):A:=t ⟨h⟩
theorem qad (h:C) (t:Hid C→A:=by intro h;refine A0 aV ?_;refine CN ?_;exact h.1):A:=t ⟨h⟩
theorem qae (h:C) (t:Hid C→A:=by intro h;refine CQR ?_;refine xb ?_;exact h.1):A:=t ⟨h⟩
theorem qaf (h:C) (t:Hid C→A:=by intro h;refine G3 ?_;refine G3 ?_;refine G3 ?_;refine G3 ?_;refine G3 ?_;refine G3 ?_;refine G3 ?_;refine G3 ?_;refine G3 ?_;refine G3 ?_;refine G3 ?_;exact h.1):A:=t ⟨h⟩
theorem qag (h:C) (t:Hid C→A:=by intro h;refine A0 aV ?_;refine CNQR ?_;refine A0 mV ?_;exact h.1):A:=t ⟨h⟩
theorem qah (h:C) (t:Hid C→A:=by intro h;refine A0 zdp ?_;refine A0 mV ?_;refine CN ?_;exact h.1):A:=t ⟨h⟩
theorem qai (h:C) (t:Hid C→A:=by intro h;refine A0 yaR ?_;refine A0 aV ?_;refine CNQR ?_;refine A0 mP ?_;refine A0 mP ?_;refine xc ?_;refine A0 (oFp znr) ?_;refine A0 (oLb zjB zbi) ?_;refine A0 mV ?_;refine A0 (zhi rfl rfl rfl zd3 yg) ?_;refine xc ?_;refine A0 (oFp znr) ?_;exact h.1):A:=t ⟨h⟩
theorem qaj (h:C) (t:Hid C→A:=by intro h;refine A0 aV ?_;refine CNQQR ?_;refine A0 mV ?_;exact h.1):A:=t ⟨h⟩
theorem qak (h:C) (t:Hid C→A:=by intro h;refine CQR ?_;refine A0 zb2 ?_;refine CNQ ?_;exact h.1):A:=t ⟨h⟩
theorem qal (h:C) (t:Hid C→A:=by intro h;refine A0 oK ?_;refine A0 mV ?_;exact h.1):A:=t ⟨h⟩
theorem qam (h:C) (t:Hid C→A:=by intro h;refine zf rfl rfl rfl rfl rfl (Lens.self _) zaR rfl ?_;exact h.1):A:=t ⟨h⟩
theorem qan (h:C) (t:Hid C→A:=by intro h;refine CNQR ?_;refine A0 mP ?_;refine xc ?_;refine A0 (oFp znr) ?_;refine A0 (oLb zjB zbi) ?_;refine A0 mV ?_;refine qai ?_;refine zf rfl rfl rfl rfl rfl zjB zbi rfl ?_;refine CNQR ?_;refine A0 mV ?_;refine qad ?_;refine zbn rfl ?_;exact h.1):A:=t ⟨h⟩
theorem qao (h:C) (t:Hid C→A:=by intro h;refine A0 mV ?_;refine A0 mV ?_;exact h.1):A:=t ⟨h⟩
theorem qap (h:C) (t:Hid C→A:=by intro h;refine A0 aX ?_;refine CNQR ?_;refine A0 mX ?_;refine A0 zdQ ?_;refine CN ?_;exact h.1):A:=t ⟨h⟩
theorem qaq (h:C) (t:Hid C→A:=by intro h;refine CQR ?_;refine A0 aL ?_;exact h.1):A:=t ⟨h⟩
theorem qar (h:C) (t:Hid C→A:=by intro h;refine zf rfl rfl rfl rfl rfl (Lens.self _) zdk rfl ?_;exact h.1):A:=t ⟨h⟩
theorem qas (h:C) (t:Hid C→A:=by intro h;refine CQR ?_;refine qad ?_;exact h.1):A:=t ⟨h⟩
theorem qat (h:C) (t:Hid C→A:=by intro h;refine zf rfl rfl rfl rfl rfl (Lens.self _) za1 rfl ?_;exact h.1):A:=t ⟨h⟩
theorem qau (h:C) (t:Hid C→A:=by intro h;refine zf rfl rfl rfl rfl rfl (Lens.self _) zaj rfl ?_;exact h.1):A:=t ⟨h⟩
theorem qav (h:C) (t:Hid C→A:=by intro h;refine A2 ?_;refine qal ?_;refine qac ?_;refine A2 ?_;exact h.1):A:=t ⟨h⟩
theorem qaw (h:C) (t:Hid C→A:=by intro h;refine A0 oK ?_;refine CN ?_;exact h.1):A:=t ⟨h⟩
theorem qax (h:C) (t:Hid C→A:=by intro h;refine A0 mV ?_;exact h.1):A:=t ⟨h⟩
theorem qay (h:C) (t:Hid C→A:=by intro h;refine qae ?_;refine xb ?_;exact h.1):A:=t ⟨h⟩
theorem qaz (h:C) (t:Hid C→A:=by intro h;refine A0 aV ?_;refine CNQR ?_;exact h.1):A:=t ⟨h⟩
theorem qa0 (h:C) (t:Hid C→A:=by intro h;refine A0 aX ?_;refine A0 aX ?_;refine CNQQR ?_;refine A0 mX ?_;refine A0 zdQ ?_;refine CN ?_;exact h.1):A:=t ⟨h⟩
theorem qa1 (h:C) (t:Hid C→A:=by intro h;refine zs zpx rfl rfl rfl rfl ?_;refine xd ?_;exact h.1):A:=t ⟨h⟩
theorem qa2 (h:C) (t:Hid C→A:=by intro h;refine qax ?_;refine CNB ?_;exact h.1):A:=t ⟨h⟩
theorem qa3 (h:C) (t:Hid C→A:=by intro h;refine X0 mV ?_;refine X0 yad ?_;exact h.1):A:=t ⟨h⟩
theorem qa4 (h:C) (t:Hid C→A:=by intro h;refine CQR ?_;refine qax ?_;exact h.1):A:=t ⟨h⟩
theorem qa5 (h:C) (t:Hid C→A:=by intro h;refine A0 mX ?_;refine qaa ?_;refine zs zmT rfl rfl rfl rfl ?_;refine zf rfl rfl rfl rfl rfl (Lens.self _) zeL rfl ?_;exact h.1):A:=t ⟨h⟩
theorem qa6 (h:C) (t:Hid C→A:=by intro h;refine CQR ?_;refine zmO rfl rfl rfl rfl rfl (Lens.self _) zbi rfl ?_;refine zmO rfl rfl rfl rfl rfl (Lens.self _) zbi rfl ?_;refine zf rfl rfl rfl rfl rfl (Lens.self _) ty_4 rfl ?_;refine CN ?_;exact h.1):A:=t ⟨h⟩
theorem qa7 (h:C) (t:Hid C→A:=by intro h;refine A0 aV ?_;refine CNQ ?_;exact h.1):A:=t ⟨h⟩
theorem qa8 (h:C) (t:Hid C→A:=by intro h;refine CQ ?_;refine CQ ?_;refine CD mixed ?_;refine G0 ybL ?_;refine G0 (zaJ rfl rfl rfl zhI) ?_;refine G0 (oLs rfl rfl rfl zbi) ?_;refine G0 (zK (i:=0) rfl rfl rfl yc zd3 yh) ?_;refine G0 (zg rfl rfl ty_5) ?_;refine G0 (zm8 rfl (ui_3) (us_5) rfl yaO) ?_;exact h.1):A:=t ⟨h⟩
theorem qa9 (h:C) (t:Hid C→A:=by intro h;refine CE ?_;refine CQR ?_;refine A0 mO ?_;refine A0 aO ?_;refine CN ?_;exact h.1):A:=t ⟨h⟩
theorem qaA (h:C) (t:Hid C→A:=by intro h;refine A0 aX ?_;refine CN ?_;exact h.1):A:=t ⟨h⟩
theorem qaB (h:C) (t:Hid C→A:=by intro h;refine A0 mX ?_;refine A0 yZ ?_;exact h.1):A:=t ⟨h⟩
theorem qaC (h:C) (t:Hid C→A:=by intro h;refine xe ?_;refine zF rfl rfl rfl rfl rfl rfl rfl zeo yx ?_;exact h.1):A:=t ⟨h⟩
theorem qaD (h:C) (t:Hid C→A:=by intro h;refine CSQBQR ?_;refine A0 (zby rfl rfl rfl sl_221 yh) ?_;refine A0 (zg rfl rfl ty_218) ?_;refine A0 aX ?_;refine CNQR ?_;refine A0 mX ?_;exact h.1):A:=t ⟨h⟩
theorem qaE (h:C) (t:Hid C→A:=by intro h;refine CSQBQR ?_;refine qax ?_;exact h.1):A:=t ⟨h⟩
theorem qaF (h:C) (t:Hid C→A:=by intro h;refine A0 (zm8 rfl (ui_3) (us_5) rfl yaO) ?_;refine A0 zdp ?_;refine qad ?_;exact h.1):A:=t ⟨h⟩
theorem qaG (h:C) (t:Hid C→A:=by intro h;refine qaq ?_;refine qan ?_;refine qax ?_;refine A0 (oCl (zul _ _ _) rfl fn_233 ⟨yd,yo,yo,trivial⟩) ?_;refine A0 mX ?_;refine qaa ?_;refine A0 aV ?_;refine qag ?_;refine qad ?_;refine zbn rfl ?_;exact h.1):A:=t ⟨h⟩
theorem qaH (h:C) (t:Hid C→A:=by intro h;refine A0 (zk4 rfl rfl yd) ?_;refine CN ?_;exact h.1):A:=t ⟨h⟩
theorem qaI (h:C) (t:Hid C→A:=by intro h;refine A0 oK ?_;refine qad ?_;exact h.1):A:=t ⟨h⟩
theorem qaJ (h:C) (t:Hid C→A:=by intro h;refine xf ?_;refine CI ?_;refine CR ?_;refine qah ?_;exact h.1):A:=t ⟨h⟩
theorem qaK (h:C) (t:Hid C→A:=by intro h;refine G2 ?_;refine G2 ?_;refine G2 ?_;exact h.1):A:=t ⟨h⟩
theorem qaL (h:C) (t:Hid C→A:=by intro h;refine A0 oN ?_;refine CN ?_;exact h.1):A:=t ⟨h⟩
theorem qaM (h:C) (t:Hid C→A:=by intro h;refine zs zq8 rfl rfl rfl rfl ?_;exact h.1):A:=t ⟨h⟩
theorem qaN (h:C) (t:Hid C→A:=by intro h;refine A0 mP ?_;refine xc ?_;exact h.1):A:=t ⟨h⟩
theorem qaO (h:C) (t:Hid C→A:=by intro h;refine zs zq7 rfl rfl rfl rfl ?_;exact h.1):A:=t ⟨h⟩
theorem qaP (h:C) (t:Hid C→A:=by intro h;refine G0 aV ?_;refine GK.nil ?_;exact h.1):A:=t ⟨h⟩
theorem qaQ (h:C) (t:Hid C→A:=by intro h;refine A0 (oLs rfl rfl rfl zaR) ?_;exact h.1):A:=t ⟨h⟩
theorem qaR (h:C) (t:Hid C→A:=by intro h;refine qa7 ?_;refine CD mixed ?_;refine G0 mP ?_;refine G0 (g_nc rfl rfl) ?_;refine G0 (oFp zcB) ?_;refine G0 (oFp zeC) ?_;refine xg ?_;refine G0 mP ?_;refine G0 (g_nc rfl rfl) ?_;refine G0 (oFp zlc) ?_;refine G0 (oFp zhS) ?_;refine G0 (zy rfl rfl rfl rfl rfl ty_3) ?_;exact h.1):A:=t ⟨h⟩
theorem qaS (h:C) (t:Hid C→A:=by intro h;refine A0 (zW rfl rfl zcq) ?_;exact h.1):A:=t ⟨h⟩
theorem qaT (h:C) (t:Hid C→A:=by intro h;refine G0 oK ?_;refine G0 mV ?_;exact h.1):A:=t ⟨h⟩
theorem qaU (h:C) (t:Hid C→A:=by intro h;refine A0 yaN ?_;exact h.1):A:=t ⟨h⟩
theorem qaV (h:C) (t:Hid C→A:=by intro h;refine CQ ?_;refine CD mixed ?_;exact h.1):A:=t ⟨h⟩
theorem qaW (h:C) (t:Hid C→A:=by intro h;refine G0 oK ?_;refine GK.nil ?_;exact h.1):A:=t ⟨h⟩
theorem qaX (h:C) (t:Hid C→A:=by intro h;refine A2 ?_;refine A2 ?_;refine qal ?_;refine A2 ?_;exact h.1):A:=t ⟨h⟩
theorem qaY (h:C) (t:Hid C→A:=by intro h;refine A0 zb2 ?_;refine CN ?_;exact h.1):A:=t ⟨h⟩
theorem qaZ (h:C) (t:Hid C→A:=by intro h;refine CSIR ?_;refine qah ?_;exact h.1):A:=t ⟨h⟩
theorem qba (h:C) (t:Hid C→A:=by intro h;refine A0 (oLs rfl rfl rfl zdk) ?_;exact h.1):A:=t ⟨h⟩
theorem qbb (h:C) (t:Hid C→A:=by intro h;refine qax ?_;refine A0 zdp ?_;exact h.1):A:=t ⟨h⟩
theorem qbc (h:C) (t:Hid C→A:=by intro h;refine zpk 8 (pre:=[]) (ztC _ _ _ _ _) rfl rfl ?_;refine CR ?_;refine qaN ?_;refine A0 (oFp zcB) ?_;refine A0 (zcd rfl rfl rfl rfl zdk) ?_;refine qar ?_;refine qad ?_;exact h.1):A:=t ⟨h⟩
theorem qbd (h:C) (t:Hid C→A:=by intro h;refine qal ?_;refine qac ?_;exact h.1):A:=t ⟨h⟩
theorem qbe (h:C) (t:Hid C→A:=by intro h;refine X0 mP ?_;refine xh ?_;refine X0 (oFp zr5) ?_;refine X0 (zy rfl rfl rfl rfl rfl znJ) ?_;exact h.1):A:=t ⟨h⟩
theorem qbf (h:C) (t:Hid C→A:=by intro h;refine ap_inl ?_;refine ap_inl ?_;refine ap_fine (n:=5) zgP rfl rfl rfl ty_4 ?_;refine qaL ?_;exact h.1):A:=t ⟨h⟩
theorem qbg (h:C) (t:Hid C→A:=by intro h;refine CNQQR ?_;refine qax ?_;exact h.1):A:=t ⟨h⟩
theorem qbh (h:C) (t:Hid C→A:=by intro h;refine CNIR ?_;refine qah ?_;exact h.1):A:=t ⟨h⟩
theorem qbi (h:C) (t:Hid C→A:=by intro h;refine A0 mX ?_;refine qaa ?_;exact h.1):A:=t ⟨h⟩
theorem qbj (h:C) (t:Hid C→A:=by intro h;refine zf rfl rfl rfl rfl rfl (Lens.self _) zaM rfl ?_;exact h.1):A:=t ⟨h⟩
theorem qbk (h:C) (t:Hid C→A:=by intro h;refine A0 zdQ ?_;refine CN ?_;exact h.1):A:=t ⟨h⟩
theorem qbl (h:C) (t:Hid C→A:=by intro h;refine A0 (zby rfl rfl rfl zlM yh) ?_;refine A0 (zg rfl rfl zgb) ?_;refine zs zsG rfl rfl rfl rfl ?_;exact h.1):A:=t ⟨h⟩
theorem qbm (h:C) (t:Hid C→A:=by intro h;refine A0 aO ?_;refine CN ?_;exact h.1):A:=t ⟨h⟩
theorem qbn (h:C) (t:Hid C→A:=by intro h;refine A0 (zX (T:=u8T) (xs:=[_]) rfl zd3 zc4 yB rfl rfl) ?_;exact h.1):A:=t ⟨h⟩
theorem qbo (h:C) (t:Hid C→A:=by intro h;refine A0 aL ?_;refine CNQR ?_;refine xi ?_;refine A0 aC ?_;refine CN ?_;refine zbn rfl ?_;exact h.1):A:=t ⟨h⟩
theorem qbp (h:C) (t:Hid C→A:=by intro h;refine qaq ?_;refine qad ?_;exact h.1):A:=t ⟨h⟩
theorem qbq (h:C) (t:Hid C→A:=by intro h;refine G0 mV ?_;refine G0 (oCl (zwm _ _) rfl fn_148 yl) ?_;exact h.1):A:=t ⟨h⟩
theorem qbr (h:C) (t:Hid C→A:=by intro h;refine A0 (oFp zdY) ?_;refine A0 (oLb ze8 zmW) ?_;refine A0 (zW rfl rfl zjM) ?_;exact h.1):A:=t ⟨h⟩
theorem qbs (h:C) (t:Hid C→A:=by intro h;refine zf rfl rfl rfl rfl rfl (Lens.self _) zeL rfl ?_;exact h.1):A:=t ⟨h⟩
theorem qbt (h:C) (t:Hid C→A:=by intro h;refine A0 (zW rfl rfl zcX) ?_;exact h.1):A:=t ⟨h⟩
theorem qbu (h:C) (t:Hid C→A:=by intro h;refine A0 (zy rfl rfl rfl rfl rfl zen) ?_;exact h.1):A:=t ⟨h⟩
theorem qbv (h:C) (t:Hid C→A:=by intro h;refine A0 (zbX rfl rfl rfl rfl yh (Lens.self _) zga) ?_;refine zs zpx rfl rfl rfl rfl ?_;refine A0 aV ?_;refine xd ?_;refine CN ?_;exact h.1):A:=t ⟨h⟩
theorem qbw (h:C) (t:Hid C→A:=by intro h;refine A0 (oLs rfl rfl rfl za1) ?_;exact h.1):A:=t ⟨h⟩
theorem qbx (h:C) (t:Hid C→A:=by intro h;refine qaa ?_;refine A0 e32 ?_;refine A0 aO ?_;refine A0 aX ?_;refine qaA ?_;exact h.1):A:=t ⟨h⟩
theorem qby (h:C) (t:Hid C→A:=by intro h;refine zs zf5 rfl rfl rfl rfl ?_;exact h.1):A:=t ⟨h⟩
theorem qbz (h:C) (t:Hid C→A:=by intro h;refine X0 (oFp zat) ?_;refine X0 (zy rfl rfl rfl rfl rfl zcm) ?_;exact h.1):A:=t ⟨h⟩
theorem qb0 (h:C) (t:Hid C→A:=by intro h;refine A0 (g_rem rfl rfl rfl ybJ (by first|decide|omega) rfl) ?_;exact h.1):A:=t ⟨h⟩
theorem qb1 (h:C) (t:Hid C→A:=by intro h;refine CQQR ?_;refine qax ?_;exact h.1):A:=t ⟨h⟩
theorem qb2 (h:C) (t:Hid C→A:=by intro h;refine A0 (oLs rfl rfl rfl zaj) ?_;exact h.1):A:=t ⟨h⟩
theorem qb3 (h:C) (t:Hid C→A:=by intro h;refine zf rfl rfl rfl rfl rfl (Lens.self _) zem rfl ?_;exact h.1):A:=t ⟨h⟩
theorem qb4 (h:C) (t:Hid C→A:=by intro h;refine A0 (zg rfl rfl zaj) ?_;refine qau ?_;refine CN ?_;refine zlt rfl rfl rfl zaj ?_;exact h.1):A:=t ⟨h⟩
theorem qb5 (h:C) (t:Hid C→A:=by intro h;refine A0 (zX (T:=idT) (xs:=[_]) rfl zb8 zfa yB rfl rfl) ?_;refine zF rfl rfl rfl rfl rfl rfl rfl zfa yx ?_;refine A0 aO ?_;refine qbh ?_;exact h.1):A:=t ⟨h⟩
theorem qb6 (h:C) (t:Hid C→A:=by intro h;refine CQR ?_;refine A0 mO ?_;exact h.1):A:=t ⟨h⟩
theorem qb7 (h:C) (t:Hid C→A:=by intro h;refine qac ?_;refine A2 ?_;exact h.1):A:=t ⟨h⟩
theorem qb8 (h:C) (t:Hid C→A:=by intro h;refine CQR ?_;refine A0 (zhN rfl zcS zq7 rfl) ?_;refine qat ?_;exact h.1):A:=t ⟨h⟩
theorem qb9 (h:C) (t:Hid C→A:=by intro h;refine zbn rfl ?_;refine qap ?_;exact h.1):A:=t ⟨h⟩
theorem qbA (h:C) (t:Hid C→A:=by intro h;refine A0 aV ?_;refine qad ?_;exact h.1):A:=t ⟨h⟩
theorem qbB (h:C) (t:Hid C→A:=by intro h;refine zce (T:=u8T) (xs:=[_]) rfl rfl rfl rfl zd3 zc4 yB rfl rfl ?_;exact h.1):A:=t ⟨h⟩
theorem qbC (h:C) (t:Hid C→A:=by intro h;refine CQR ?_;refine A0 mX ?_;refine qaA ?_;exact h.1):A:=t ⟨h⟩
theorem qbD (h:C) (t:Hid C→A:=by intro h;refine qaq ?_;refine CNQR ?_;exact h.1):A:=t ⟨h⟩
theorem qbE (h:C) (t:Hid C→A:=by intro h;refine X0 (ziM rfl rfl zjH rfl rfl) ?_;exact h.1):A:=t ⟨h⟩
theorem qbF (h:C) (t:Hid C→A:=by intro h;refine G0 mP ?_;refine G0 (g_nc rfl rfl) ?_;exact h.1):A:=t ⟨h⟩
theorem qbG (h:C) (t:Hid C→A:=by intro h;refine A0 mX ?_;refine qam ?_;refine qaA ?_;exact h.1):A:=t ⟨h⟩
theorem qbH (h:C) (t:Hid C→A:=by intro h;refine xc ?_;refine A0 (oFp zjn) ?_;refine zZ rfl rfl rfl rfl rfl rfl rfl rfl rfl rfl zen ?_;exact h.1):A:=t ⟨h⟩
theorem qbI (h:C) (t:Hid C→A:=by intro h;refine qa7 ?_;refine CD mixed ?_;exact h.1):A:=t ⟨h⟩
theorem qbJ (h:C) (t:Hid C→A:=by intro h;refine CQR ?_;refine qag ?_;exact h.1):A:=t ⟨h⟩
theorem qbK (h:C) (t:Hid C→A:=by intro h;refine qa4 ?_;refine qad ?_;exact h.1):A:=t ⟨h⟩
theorem qbL (h:C) (t:Hid C→A:=by intro h;refine A0 (zg rfl rfl ty_3) ?_;exact h.1):A:=t ⟨h⟩
theorem qbM (h:C) (t:Hid C→A:=by intro h;refine CSQQR ?_;refine qax ?_;exact h.1):A:=t ⟨h⟩
theorem qbN (h:C) (t:Hid C→A:=by intro h;refine G0 mR ?_;refine G0 (zef rfl rfl) ?_;exact h.1):A:=t ⟨h⟩
theorem qbO (h:C) (t:Hid C→A:=by intro h;refine G0 mX ?_;refine G0 yZ ?_;refine G0 yaN ?_;refine G0 aV ?_;refine qaP ?_;exact h.1):A:=t ⟨h⟩
theorem qbP (h:C) (t:Hid C→A:=by intro h;refine A0 (zby rfl rfl rfl zfE yh) ?_;refine A0 (zg rfl rfl zga) ?_;exact h.1):A:=t ⟨h⟩
theorem qbQ (h:C) (t:Hid C→A:=by intro h;refine X0 (zX (T:=(bsl u8T)) (xs:=[_,_,_]) rfl zeN zep ⟨rfl,rfl,rfl,rfl,rfl,rfl,trivial⟩ rfl rfl) ?_;exact h.1):A:=t ⟨h⟩
theorem qbR (h:C) (t:Hid C→A:=by intro h;refine zf rfl rfl rfl rfl rfl (Lens.self _) zeM rfl ?_;exact h.1):A:=t ⟨h⟩
theorem qbS (h:C) (t:Hid C→A:=by intro h;refine A0 aV ?_;refine CNQQR ?_;exact h.1):A:=t ⟨h⟩
theorem qbT (h:C) (t:Hid C→A:=by intro h;refine A0 aV ?_;refine CNR ?_;refine qbb ?_;refine qag ?_;refine qax ?_;refine xj ?_;exact h.1):A:=t ⟨h⟩
theorem qbU (h:C) (t:Hid C→A:=by intro h;refine A0 (by first|exact zW rfl rfl zc8|exact zaJ rfl rfl rfl zc8|exact zbM rfl rfl zc8) ?_;exact h.1):A:=t ⟨h⟩
theorem qbV (h:C) (t:Hid C→A:=by intro h;refine A0 (g_quo rfl rfl rfl ybJ (by first|decide|omega) rfl) ?_;exact h.1):A:=t ⟨h⟩
theorem qbW (h:C) (t:Hid C→A:=by intro h;refine zs ze_29 rfl rfl rfl rfl ?_;exact h.1):A:=t ⟨h⟩
theorem qbX (h:C) (t:Hid C→A:=by intro h;refine G1 (zK (i:=0) rfl rfl rfl yc zb8 yh) ?_;refine G1 (zg rfl rfl zaj) ?_;exact h.1):A:=t ⟨h⟩
theorem qbY (h:C) (t:Hid C→A:=by intro h;refine G0 mV ?_;refine G0 mV ?_;exact h.1):A:=t ⟨h⟩
theorem qbZ (h:C) (t:Hid C→A:=by intro h;refine A0 zfd ?_;refine CN ?_;exact h.1):A:=t ⟨h⟩
theorem qca (h:C) (t:Hid C→A:=by intro h;refine A1 mV ?_;refine A1 mV ?_;exact h.1):A:=t ⟨h⟩
theorem qcb (h:C) (t:Hid C→A:=by intro h;refine qax ?_;refine A0 zbb ?_;exact h.1):A:=t ⟨h⟩
theorem qcc (h:C) (t:Hid C→A:=by intro h;refine A0 (oLs rfl rfl rfl zaM) ?_;exact h.1):A:=t ⟨h⟩
theorem qcd (h:C) (t:Hid C→A:=by intro h;refine X0 (zqz (T:=sl u8T) (S:=bsl u8T) (zgl (zu (zlp _ 4 yp)) rfl zxa yl rfl)) ?_;exact h.1):A:=t ⟨h⟩
theorem qce (h:C) (t:Hid C→A:=by intro h;refine A0 aX ?_;refine CNQR ?_;refine A0 mX ?_;exact h.1):A:=t ⟨h⟩
theorem qcf (h:C) (t:Hid C→A:=by intro h;refine CQR ?_;refine qaM ?_;refine CNQR ?_;exact h.1):A:=t ⟨h⟩
theorem qcg (h:C) (t:Hid C→A:=by intro h;refine zf rfl rfl rfl rfl rfl (Lens.self _) zgb rfl ?_;exact h.1):A:=t ⟨h⟩
theorem qch (h:C) (t:Hid C→A:=by intro h;refine A0 aO ?_;refine qad ?_;exact h.1):A:=t ⟨h⟩
theorem qci (h:C) (t:Hid C→A:=by intro h;refine X0 mV ?_;refine X0 (oCl (zwm _ _) rfl fn_148 yl) ?_;exact h.1):A:=t ⟨h⟩
theorem qcj (h:C) (t:Hid C→A:=by intro h;refine A0 (oFp zcR) ?_;refine A0 (oLb zar ty_3) ?_;exact h.1):A:=t ⟨h⟩
theorem qck (h:C) (t:Hid C→A:=by intro h;refine A1 mV ?_;refine A1 zc1 ?_;exact h.1):A:=t ⟨h⟩
theorem qcl (h:C) (t:Hid C→A:=by intro h;refine CS ?_;refine CQ ?_;exact h.1):A:=t ⟨h⟩
theorem qcm (h:C) (t:Hid C→A:=by intro h;refine zf rfl rfl rfl rfl rfl (Lens.self _) ty_3 rfl ?_;exact h.1):A:=t ⟨h⟩
theorem qcn (h:C) (t:Hid C→A:=by intro h;refine CE ?_;refine qas ?_;exact h.1):A:=t ⟨h⟩
theorem qco (h:C) (t:Hid C→A:=by intro h;refine A2 ?_;refine qaw ?_;exact h.1):A:=t ⟨h⟩
theorem qcp (h:C) (t:Hid C→A:=by intro h;refine A0 (zby rfl rfl rfl zuS yh) ?_;refine A0 (zg rfl rfl zh9) ?_;refine zs ze_258 rfl rfl rfl rfl ?_;exact h.1):A:=t ⟨h⟩
theorem qcq (h:C) (t:Hid C→A:=by intro h;refine A0 (zby rfl rfl rfl zrk yh) ?_;refine A0 (zg rfl rfl zc3) ?_;refine zs ze_256 rfl rfl rfl rfl ?_;exact h.1):A:=t ⟨h⟩
theorem qcr (h:C) (t:Hid C→A:=by intro h;refine CQR ?_;refine qbw ?_;refine qat ?_;refine CN ?_;exact h.1):A:=t ⟨h⟩
theorem qcs (h:C) (t:Hid C→A:=by intro h;refine A1 (oFp zeE) ?_;refine A1 (oLb zeJ znI) ?_;exact h.1):A:=t ⟨h⟩
theorem qct (h:C) (t:Hid C→A:=by intro h;refine G1 (oFr zbe zaw) ?_;refine G1 (zg rfl rfl zaM) ?_;exact h.1):A:=t ⟨h⟩
theorem qcu (h:C) (t:Hid C→A:=by intro h;refine A0 (oLs rfl rfl rfl zgb) ?_;exact h.1):A:=t ⟨h⟩
theorem qcv (h:C) (t:Hid C→A:=by intro h;refine A0 mX ?_;refine qar ?_;refine qaA ?_;exact h.1):A:=t ⟨h⟩
theorem qcw (h:C) (t:Hid C→A:=by intro h;refine CQR ?_;refine qaj ?_;exact h.1):A:=t ⟨h⟩
theorem qcx (h:C) (t:Hid C→A:=by intro h;refine qam ?_;refine qad ?_;exact h.1):A:=t ⟨h⟩
theorem qcy (h:C) (t:Hid C→A:=by intro h;refine A0 (oFp zat) ?_;refine A0 (zy rfl rfl rfl rfl rfl zcm) ?_;refine A0 (zaJ rfl rfl rfl zcx) ?_;refine qa2 ?_;exact h.1):A:=t ⟨h⟩
theorem qcz (h:C) (t:Hid C→A:=by intro h;refine X0 mV ?_;refine X0 mV ?_;exact h.1):A:=t ⟨h⟩
theorem qc0 (h:C) (t:Hid C→A:=by intro h;refine CQR ?_;refine qa7 ?_;refine qaV ?_;refine qbN ?_;refine G0 (oFr zhU zgC) ?_;refine G0 (oFr zbe zaw) ?_;exact h.1):A:=t ⟨h⟩
theorem qc1 (h:C) (t:Hid C→A:=by intro h;refine X0 (zX (T:=zbl) (xs:=[_]) rfl zfE zn5 yB rfl rfl) ?_;exact h.1):A:=t ⟨h⟩
theorem qc2 (h:C) (t:Hid C→A:=by intro h;refine X0 (zX (T:=idT) (xs:=[_]) rfl zb8 zfa yB rfl rfl) ?_;exact h.1):A:=t ⟨h⟩
theorem qc3 (h:C) (t:Hid C→A:=by intro h;refine A0 (zby rfl rfl rfl zbR yh) ?_;refine qbL ?_;exact h.1):A:=t ⟨h⟩
theorem qc4 (h:C) (t:Hid C→A:=by intro h;refine A0 (zjP rfl (ui_234) (us_3) rfl) ?_;exact h.1):A:=t ⟨h⟩
theorem qc5 (h:C) (t:Hid C→A:=by intro h;refine A0 aV ?_;refine CNR ?_;exact h.1):A:=t ⟨h⟩
theorem qc6 (h:C) (t:Hid C→A:=by intro h;refine qae ?_;refine A0 aL ?_;exact h.1):A:=t ⟨h⟩
theorem qc7 (h:C) (t:Hid C→A:=by intro h;refine A0 aV ?_;refine CNB ?_;exact h.1):A:=t ⟨h⟩
theorem qc8 (h:C) (t:Hid C→A:=by intro h;refine CQR ?_;refine A0 mC ?_;exact h.1):A:=t ⟨h⟩
theorem qc9 (h:C) (t:Hid C→A:=by intro h;refine G1 mR ?_;refine G1 (zef rfl rfl) ?_;refine G1 (oFr zxk zmQ) ?_;refine G1 (zg rfl rfl za5) ?_;exact h.1):A:=t ⟨h⟩
theorem qcA (h:C) (t:Hid C→A:=by intro h;refine A0 (zW rfl rfl zkZ) ?_;exact h.1):A:=t ⟨h⟩
theorem qcB (h:C) (t:Hid C→A:=by intro h;refine X0 (zqz (T:=sl u8T) (S:=bsl u8T) (zX (T:=u8T) (xs:=[_]) rfl zd3 zc4 yB rfl rfl)) ?_;exact h.1):A:=t ⟨h⟩
theorem qcC (h:C) (t:Hid C→A:=by intro h;refine A0 zc1 ?_;refine CN ?_;exact h.1):A:=t ⟨h⟩
theorem qcD (h:C) (t:Hid C→A:=by intro h;refine G0 (zg rfl rfl zaj) ?_;exact h.1):A:=t ⟨h⟩
theorem qcE (h:C) (t:Hid C→A:=by intro h;refine zs zq6 rfl rfl rfl rfl ?_;exact h.1):A:=t ⟨h⟩
theorem qcF (h:C) (t:Hid C→A:=by intro h;refine CSQR ?_;refine A0 ybL ?_;exact h.1):A:=t ⟨h⟩
theorem qcG (h:C) (t:Hid C→A:=by intro h;refine CSQR ?_;refine qax ?_;exact h.1):A:=t ⟨h⟩
theorem qcH (h:C) (t:Hid C→A:=by intro h;refine qaa ?_;refine A0 aO ?_;refine qaA ?_;exact h.1):A:=t ⟨h⟩
theorem qcI (h:C) (t:Hid C→A:=by intro h;refine qaN ?_;refine A0 (oFp zjn) ?_;refine qbu ?_;exact h.1):A:=t ⟨h⟩
theorem qcJ (h:C) (t:Hid C→A:=by intro h;refine A1 mR ?_;refine A1 (zef rfl rfl) ?_;refine A1 (oFr zdX zgE) ?_;exact h.1):A:=t ⟨h⟩
end
set_option maxRecDepth 20000
theorem zrR (x:Int):Tells P 212 [.val i64T x] (.val zm false):=by
 refine zc Tryz.func212 rfl rfl rfl (fun ext w hext=>?_);refine ze (d:=0) rfl zt (fun hin0=>?_);refine qbJ ?_;refine qax ?_;refine A0 zdQ ?_;refine qad ?_;exact zb rfl rfl (zcP (by simp[Fr.set]))
def zjT (x y:Int):Int:=if x<y then -1 else if y<x then 1 else 0
theorem cmpInt_ok (x y:Int):Tells P 330 [.val i64T x,.val i64T y] (.val i64T (zjT x y)):=by
 refine zc Tryz.func330 rfl rfl rfl (fun ext w hext=>?_);refine ze (d:=0) rfl zt (fun hin0=>?_);refine ze (d:=1) rfl zt (fun hin1=>?_);refine qbJ ?_;refine A0 (oCl (zrR _) rfl fn_212 yf) ?_;refine qag ?_;refine A0 (oCl (zrR _) rfl fn_212 yf) ?_;refine qaj ?_;refine CN ?_;refine Cg ?_;refine qbM ?_;refine CN ?_;refine Cg ?_;refine CSQQR ?_;refine qao ?_;refine qaY ?_;refine zn (p:=x<y) rfl (rfl) (fun ht16=>?_) (fun ht16=>?_)
 ·
  refine qas ?_;exact zb rfl rfl (za rfl y9)
 refine CSQQR ?_;refine qao ?_;refine qcC ?_;refine zn (p:=y<x) rfl (rfl) (fun ht19=>?_) (fun ht19=>?_)
 ·
  refine qas ?_;exact zb rfl rfl (za rfl y9)
 refine CSQR ?_;refine qad ?_;exact zb rfl rfl (za rfl y9)
theorem uu_22:P.underlying 22=some (.slice 5):=yr
def idx {α:Type} (p:α→Bool):List α→Int
  | []=>-1
  | x::l=>if p x then 0 else if idx p l<0 then -1 else idx p l+1
def shift (k:Nat) (n:Int):Int:=if n<0 then -1 else n+k
theorem ziI {α:Type} (p:α→Bool):∀l,-1≤idx p l
  | []=>by simp[idx]
  | x::l=>by have:=ziI p l;unfold idx;split<;>first|omega|(split<;>omega)
theorem zhJ {α:Type} {p:α→Bool} {l:List α} {k:Nat} {x:α} (h:l[k]?=some x) (hp:p x=true):shift k (idx p (l.drop k))=k:=by
  obtain⟨hk,rfl⟩:=ul.1 h;rw[List.drop_eq_getElem_cons hk];simp[idx,hp,shift]
theorem zk0 {α:Type} {p:α→Bool} {l:List α} {k:Nat} {x:α} (h:l[k]?=some x) (hp:¬p x=true):shift k (idx p (l.drop k))=shift (k+1) (idx p (l.drop (k+1))):=by
  obtain⟨hk,rfl⟩:=ul.1 h;rw[List.drop_eq_getElem_cons hk];have h2:=ziI p (l.drop (k+1));simp only[idx,ur hp];generalize idx p (l.drop (k+1))=n at *;unfold shift;by_cases c:n<0
  · rw[ut c,ut c];rfl
  rw[ur c,ur c,ur yc];omega
theorem zdl {α:Type} (p:α→Bool) (l:List α):idx p l=shift 0 (idx p (l.drop 0)):=by
  have:=ziI p l
  unfold shift;simp only[List.drop_zero]
  split<;>omega
theorem zhK {α:Type} {p:α→Bool} {l:List α} {k:Nat} (h:l.length≤k):shift k (idx p (l.drop k)) = -1:=by
  rw[List.drop_of_length_le h];simp[idx,shift]
theorem zhL {α:Type} (p:α→Bool):∀l,decide (0≤idx p l)=l.any p
  | []=>by simp[idx]
  | x::l=>by
    have ih:=zhL p l
    have:=ziI p l
    rw[List.any_cons,←ih];by_cases c:p x=true
    · simp[idx,c]
    simp only[idx,ur c,Bool.not_eq_true] at *;rw[c,Bool.false_or,uo]
    split<;>omega
theorem zdc {α:Type} [DecidableEq α] {l m:List α} {k:Nat} {x y:α} (hx:l[k]?=some x) (hy:m[k]?=some y) (h:l.take k=m.take k) (e:x=y):l.take (k+1)=m.take (k+1):=by
  rw[un,un,h,hx,hy,e]
theorem zhH {α:Type} {l m:List α} {k:Nat} {x y:α} (hx:l[k]?=some x) (hy:m[k]?=some y) (e:¬x=y):¬l=m:=fun h=>e (by rw[h,hy] at hx;injection hx with hx;exact hx.symm)
theorem zrT (l:List Coin) (p:Coin→Bool):Tells P 333 [.val (bsl zbm) l,.fn1 P zbm zm p] (.val i64T (idx p l)):=by
 refine zc Tryz.func333 rfl rfl rfl (fun ext w hext=>?_);refine ze (d:=0) rfl zk (fun hsl0=>?_);refine qcw ?_;refine A0 (zW rfl rfl zjN) ?_;refine qa2 ?_;refine Lp (ι:=Nat) 0 (fun (k:Nat)=>(((((Fr.none).set 0 (.val (bsl zbm) l)).set 1 (.fn1 P zbm zm p)).set 6 (.val (bsl zbm) l)).set 7 (.val i64T (l.length:Int))).set 8 (.val i64T (k:Int))) (fun (k:Nat)=>Hp.none) (fun (k:Nat)=>k≤l.length∧idx p l=shift k (idx p (l.drop k))) (fun (k:Nat)=>l.length-k) (0) (⟨uf _,zdl p l⟩) ?_;intro k hinv;refine qak ?_;refine Cf (p:=k<l.length) (fun ht9=>?_) (fun ht9=>?_)
 ·
  obtain⟨x,hx⟩:∃x,l[k]?=some x:=ybc;refine qaE ?_;refine qaz ?_;refine A0 mF ?_;refine qao ?_;refine A0 (zby rfl rfl rfl zmZ yh) ?_;refine A0 (zg rfl rfl zpZ) ?_;refine qaH ?_;refine zn (p:=p x=true) rfl yy (fun ht16=>?_) (fun ht16=>?_)
  ·
   refine qbK ?_;exact zb rfl rfl (za rfl (hinv.2.trans (zhJ hx ht16)).symm)
  refine qaZ ?_;exact Nx (k+1) (⟨by omega,hinv.2.trans (zk0 hx ht16)⟩) yc
 refine qcn ?_;exact zb rfl rfl (za rfl (hinv.2.trans (zhK yc)).symm)
theorem zna (l:List Coin) (p:Coin→Bool):Tells P 286 [.val (bsl zbm) l,.fn1 P zbm zm p] (.val zm (l.any p)):=by
 refine zc Tryz.func286 rfl rfl rfl (fun ext w hext=>?_);refine ze (d:=0) rfl zk (fun hsl0=>?_);refine qbJ ?_;refine A0 mF ?_;refine A0 (oCl (zrT _ _) rfl fn_333 ⟨yo,(zan rfl rfl),trivial⟩) ?_;refine A0 zfd ?_;refine qad ?_;exact zb rfl rfl (za rfl (zhL p l))
theorem ztE (l:List Out) (p:Out→Bool):Tells P 271 [.val (bsl outT) l,.fn1 P outT zm p] (.val i64T (idx p l)):=by
 refine zc Tryz.func271 rfl rfl rfl (fun ext w hext=>?_);refine ze (d:=0) rfl zk (fun hsl0=>?_);refine qcw ?_;refine A0 (zW rfl rfl zib) ?_;refine qa2 ?_;refine Lp (ι:=Nat) 0 (fun (k:Nat)=>(((((Fr.none).set 0 (.val (bsl outT) l)).set 1 (.fn1 P outT zm p)).set 6 (.val (bsl outT) l)).set 7 (.val i64T (l.length:Int))).set 8 (.val i64T (k:Int))) (fun (k:Nat)=>Hp.none) (fun (k:Nat)=>k≤l.length∧idx p l=shift k (idx p (l.drop k))) (fun (k:Nat)=>l.length-k) (0) (⟨uf _,zdl p l⟩) ?_;intro k hinv;refine qak ?_;refine Cf (p:=k<l.length) (fun ht9=>?_) (fun ht9=>?_)
 ·
  obtain⟨x,hx⟩:∃x,l[k]?=some x:=ybc;refine qaE ?_;refine qaz ?_;refine A0 mF ?_;refine qao ?_;refine A0 (zby rfl rfl rfl zuS yh) ?_;refine A0 (zg rfl rfl zh9) ?_;refine qaH ?_;refine zn (p:=p x=true) rfl yy (fun ht16=>?_) (fun ht16=>?_)
  ·
   refine qbK ?_;exact zb rfl rfl (za rfl (hinv.2.trans (zhJ hx ht16)).symm)
  refine qaZ ?_;exact Nx (k+1) (⟨by omega,hinv.2.trans (zk0 hx ht16)⟩) yc
 refine qcn ?_;exact zb rfl rfl (za rfl (hinv.2.trans (zhK yc)).symm)
theorem zo1 (l:List Out) (p:Out→Bool):Tells P 222 [.val (bsl outT) l,.fn1 P outT zm p] (.val zm (l.any p)):=by
 refine zc Tryz.func222 rfl rfl rfl (fun ext w hext=>?_);refine ze (d:=0) rfl zk (fun hsl0=>?_);refine qbJ ?_;refine A0 mF ?_;refine A0 (oCl (ztE _ _) rfl fn_271 ⟨yo,(zan rfl rfl),trivial⟩) ?_;refine A0 zfd ?_;refine qad ?_;exact zb rfl rfl (za rfl (zhL p l))
theorem ziY (l:List Coin) (hl:l.length*56≤140737488355328∧l.length≤9223372036854775807):Tells P 193 [.val (bsl zbm) l] (.fresh 293 zbm l):=by
 refine zc Tryz.func193 rfl rfl rfl (fun ext w hext=>?_);refine ze (d:=0) rfl zk (fun hsl0=>?_);refine qaq ?_;refine qbg ?_;refine zfS rfl rfl rfl rfl rfl zjN (fun c4 hc4=>?_);refine CN ?_;refine zn (p:=c4=true) rfl yy (fun ht4=>?_) (fun ht4=>?_)
 ·
  obtain rfl:=hc4 ht4;refine qaq ?_;refine CN ?_;exact zb rfl rfl (zp rfl)
 refine CSQR ?_;refine zce (T:=zbm) (xs:=[]) rfl rfl rfl rfl zmZ zqf trivial rfl rfl ?_;refine qax ?_;refine zF rfl rfl rfl rfl rfl rfl rfl zqf yaz ?_;refine qbm ?_;exact zb rfl rfl (zh rfl rfl yy)
theorem ext_bcmp:ExtAt P 362 Extern.BytealgCompare.compare:=⟨_,rfl,rfl,rfl,rfl,rfl⟩
def orL:List Int→Int
  | []=>0
  | x::l=>if x=0 then orL l else x
theorem orL_step {l:List Int} {k:Nat} {x:Int} (h:l[k]?=some x) (e:¬x≠0):orL (l.drop k)=orL (l.drop (k+1)):=by
  obtain⟨hk,rfl⟩:=ul.1 h;rw[List.drop_eq_getElem_cons hk];simp[orL,ua e]
theorem orL_hit {l:List Int} {k:Nat} {x:Int} (h:l[k]?=some x) (e:x≠0):orL (l.drop k)=x:=by
  obtain⟨hk,rfl⟩:=ul.1 h;rw[List.drop_eq_getElem_cons hk];simp[orL,e]
theorem orInt (l:List Int):Tells P 278 [.val (bsl i64T) l] (.val i64T (orL l)):=by
 refine zc Tryz.func278 rfl rfl rfl (fun ext w hext=>?_);refine ze (d:=0) rfl zk (fun hsl0=>?_);refine CQR ?_;refine qaz ?_;refine qaj ?_;refine qbt ?_;refine qa2 ?_;refine Lp (ι:=Nat) 0 (fun (k:Nat)=>((((Fr.none).set 3 (.val i64T 0)).set 6 (.val (bsl i64T) l)).set 7 (.val i64T (l.length:Int))).set 8 (.val i64T (k:Int))) (fun (k:Nat)=>Hp.none) (fun (k:Nat)=>k≤l.length∧orL l=orL (l.drop k)) (fun (k:Nat)=>l.length-k) (0) (⟨uf _,rfl⟩) ?_;intro k hinv;refine qak ?_;refine Cf (p:=k<l.length) (fun ht9=>?_) (fun ht9=>?_)
 ·
  obtain⟨x,hx⟩:∃x,l[k]?=some x:=ybc;refine CSQBQR ?_;refine qc3 ?_;refine qce ?_;refine qax ?_;refine qbk ?_;refine zn (p:=x≠0) rfl yH (fun ht14=>?_) (fun ht14=>?_)
  ·
   refine qbC ?_;exact zb rfl rfl (za rfl (hinv.2.trans (orL_hit hx ht14)).symm)
  refine qaZ ?_;exact Nx (k+1) (⟨by omega,hinv.2.trans (orL_step hx ht14)⟩) yc
 refine CE ?_;refine qbK ?_;exact zb rfl rfl (za rfl (by rw[hinv.2,List.drop_of_length_le yc];rfl))
theorem bcompare (a b:List UInt8):Tells P 329 [.val (bsl u8T) a,.val (bsl u8T) b] (.val i64T (Lib.compareBytes a b)):=by
 refine zc Tryz.func329 rfl rfl rfl (fun ext w hext=>?_);refine ze (d:=0) rfl zk (fun hsl0=>?_);refine ze (d:=1) rfl zk (fun hsl1=>?_);refine qbJ ?_;refine qax ?_;refine A0 (g_bcmp rfl ext_bcmp rfl rfl) ?_;refine qaA ?_;exact zb rfl rfl yC
def zbj (a b:In):Int:=orL [Lib.compareBytes a.tx b.tx,zjT a.i b.i]
theorem zrD (a b:In):Tells P 282 [.val inT a,.val inT b] (.val i64T (zbj a b)):=by
 refine zc Tryz.func282 rfl rfl rfl (fun ext w hext=>?_);refine qay ?_;refine qbI ?_;refine G0 (oFp zgQ) ?_;refine G0 (zoB rfl rfl zjH rfl rfl) ?_;refine G0 (oFp zgQ) ?_;refine G0 (zoB rfl rfl zjH rfl rfl) ?_;refine G0 (oCl (bcompare _ _) rfl fn_329 ⟨(by exact arg_vw rfl rfl zml),(by exact arg_vw rfl rfl zml),trivial⟩) ?_;refine G0 (oFp zdW) ?_;refine G0 (oLb zlB ty_3) ?_;refine G0 (oFp zdW) ?_;refine G0 (oLb zlB ty_3) ?_;refine G0 (oCl (cmpInt_ok _ _) rfl fn_330 yl) ?_;refine G0 (zX (T:=i64T) (xs:=[_,_]) rfl zbR zeo y4 rfl rfl) ?_;refine G0 (oCl (orInt _) rfl fn_278 yf) ?_;refine qaP ?_;exact zb rfl rfl yC
theorem zg6 {p:Nat→Bool} {k:Nat} (h:(List.range k).all p=true) (hk:p k=true):(List.range (k+1)).all p=true:=by
  rw[List.range_succ,List.all_append,h];simp[hk]
theorem ze7 {p:Nat→Bool} {k n:Nat} (hk:k<n) (h:p k=false):(List.range n).all p=false:=by
  rw[List.all_eq_false];exact⟨k,by simpa using hk,by simp[h]⟩
def zgR (c:Coin):Bool:=decide (0≤c.inn.i∧c.inn.i<3∧1≤c.out.v∧c.out.v≤1099511627776∧0≤c.out.to∧c.out.to≤255)
def zjS (p:List Coin) (k:Nat):Bool:=match p[k]? with
  | none=>true
  | some c=>zgR c&&(match k with|0=>true|k+1=>match p[k]? with|none=>true|some b=>decide (zbj b.inn c.inn<0))
def zaZ (p:List Coin):Bool:=(List.range p.length).all (zjS p)&&decide (p.length≤48)
theorem zf0 {p:List Coin} {k:Nat} {c:Coin} (h:p[k]?=some c) (hk:k<p.length) (hb:¬(0≤c.inn.i∧c.inn.i<3∧1≤c.out.v∧c.out.v≤1099511627776∧0≤c.out.to∧c.out.to≤255)):zaZ p=false:=by
  unfold zaZ;rw[ze7 hk (by unfold zjS zgR;rw[h];simp only[uh hb,Bool.false_and]),Bool.false_and]
theorem zo6 {p:List Coin} {k:Nat} {b c:Coin} (h:p[k]?=some c) (hk:k<p.length) (h0:0<k) (hb:p[k-1]?=some b) (ho:¬zbj b.inn c.inn<0):zaZ p=false:=by
  unfold zaZ;obtain⟨m,rfl⟩:∃m,k=m+1:=⟨k-1,by omega⟩;simp only[Nat.add_sub_cancel] at hb;rw[ze7 hk (by unfold zjS;rw[h];simp only[hb,uh ho,Bool.and_false]),Bool.false_and]
theorem zmL {p:List Coin} {c:Coin} (h:p[0]?=some c) (hb:0≤c.inn.i∧c.inn.i<3∧1≤c.out.v∧c.out.v≤1099511627776∧0≤c.out.to∧c.out.to≤255):zjS p 0=true:=by
  unfold zjS zgR;rw[h];simp only[ui hb,Bool.and_self]
theorem zo7 {p:List Coin} {k:Nat} {b c:Coin} (h:p[k]?=some c) (h0:0<k) (hb:p[k-1]?=some b) (ho:zbj b.inn c.inn<0) (hc:0≤c.inn.i∧c.inn.i<3∧1≤c.out.v∧c.out.v≤1099511627776∧0≤c.out.to∧c.out.to≤255):zjS p k=true:=by
  obtain⟨m,rfl⟩:∃m,k=m+1:=⟨k-1,by omega⟩;simp only[Nat.add_sub_cancel] at hb;unfold zjS zgR;rw[h];simp only[hb,ui ho,ui hc,Bool.and_self]
theorem may_ok (p:List Coin):Tells P 247 [.val (bsl zbm) p] (.val zm (zaZ p)):=by
 refine zc Tryz.func247 rfl rfl rfl (fun ext w hext=>?_);refine ze (d:=0) rfl zk (fun hsl0=>?_);refine qcw ?_;refine A0 (zW rfl rfl zjN) ?_;refine qa2 ?_;refine Lp (ι:=Nat) 0 (fun (k:Nat)=>((((Fr.none).set 0 (.val (bsl zbm) p)).set 5 (.val (bsl zbm) p)).set 6 (.val i64T (p.length:Int))).set 7 (.val i64T (k:Int))) (fun (k:Nat)=>Hp.none) (fun (k:Nat)=>k≤p.length∧(List.range k).all (zjS p)=true) (fun (k:Nat)=>p.length-k) (0) (⟨uf _,rfl⟩) ?_;intro k hinv;refine qak ?_;refine Cf (p:=k<p.length) (fun ht8=>?_) (fun ht8=>?_)
 ·
  obtain⟨c,hc⟩:∃c,p[k]?=some c:=⟨_,ub ht8⟩;refine qaE ?_;refine A0 (zby rfl rfl rfl zmZ yh) ?_;refine A0 (zg rfl rfl zpZ) ?_;refine zs ze_293 rfl rfl rfl rfl ?_;refine A0 aV ?_;refine zf rfl rfl rfl rfl rfl (Lens.self _) zpZ rfl ?_;refine CNQQR ?_;refine A0 (oFp zfN) ?_;refine A0 (oFp zdW) ?_;refine A0 (oLb (zdt.comp zlB) ty_3) ?_;refine A0 zb2 ?_;refine qax ?_;refine Sp (d:=16) (p:=c.inn.i<0) (fun g16=>?_) (fun g16=>?_)
  ·
   refine qac ?_;refine qav ?_;refine qbd ?_;refine qav ?_;refine qbd ?_;refine qco ?_;refine Ct ?_;refine qas ?_;exact zb rfl rfl (za rfl (zf0 hc ht8 yc).symm)
  refine A1 (oFp zfN) ?_;refine A1 (oFp zdW) ?_;refine A1 (oLb (zdt.comp zlB) ty_3) ?_;refine A1 zfd ?_;refine qal ?_;refine Sp (d:=22) (p:=3≤c.inn.i) (fun g22=>?_) (fun g22=>?_)
  ·
   refine qac ?_;refine qav ?_;refine qbd ?_;refine qav ?_;refine qaw ?_;refine Ct ?_;refine qas ?_;exact zb rfl rfl (za rfl (zf0 hc ht8 yc).symm)
  refine A1 (oFp zjk) ?_;refine A1 (oFp ze6) ?_;refine A1 (oLb (zf4.comp zi9) ty_3) ?_;refine A1 zb2 ?_;refine qal ?_;refine Sp (d:=28) (p:=c.out.v<1) (fun g28=>?_) (fun g28=>?_)
  ·
   refine qac ?_;refine qav ?_;refine qbd ?_;refine qco ?_;refine Ct ?_;refine qas ?_;exact zb rfl rfl (za rfl (zf0 hc ht8 yc).symm)
  refine A1 (oFp zjk) ?_;refine A1 (oFp ze6) ?_;refine A1 (oLb (zf4.comp zi9) ty_3) ?_;refine A1 zc1 ?_;refine qal ?_;refine Sp (d:=34) (p:=1099511627776<c.out.v) (fun g34=>?_) (fun g34=>?_)
  ·
   refine qac ?_;refine qav ?_;refine qaw ?_;refine Ct ?_;refine qas ?_;exact zb rfl rfl (za rfl (zf0 hc ht8 yc).symm)
  refine A1 (oFp zjk) ?_;refine A1 (oFp zfO) ?_;refine A1 (oLb (zf4.comp zjC) ty_3) ?_;refine A1 zb2 ?_;refine qal ?_;refine Sp (d:=40) (p:=c.out.to<0) (fun g40=>?_) (fun g40=>?_)
  ·
   refine qb7 ?_;refine qaw ?_;refine Ct ?_;refine qas ?_;exact zb rfl rfl (za rfl (zf0 hc ht8 yc).symm)
  refine A1 (oFp zjk) ?_;refine A1 (oFp zfO) ?_;refine A1 (oLb (zf4.comp zjC) ty_3) ?_;refine A1 zc1 ?_;refine A0 oK ?_;refine Sp (d:=45) (p:=255<c.out.to) (fun g45=>?_) (fun g45=>?_)
  ·
   refine CN ?_;refine Ct ?_;refine qas ?_;exact zb rfl rfl (za rfl (zf0 hc ht8 yc).symm)
  refine CN ?_;refine Cg ?_;refine CS ?_;refine qaV ?_;refine G0 mV ?_;refine G0 zc1 ?_;refine G0 mV ?_;refine zaG (d:=48) (p:=0<k) rfl yA (fun g48=>?_) (fun g48=>?_)
  ·
   obtain⟨b,hb⟩:∃b,p[k-1]?=some b:=yv;refine G1 mV ?_;refine G1 mV ?_;refine G1 zbb ?_;refine G1 (zK (i:=k-1) rfl rfl rfl yc zmZ yh) ?_;refine G1 (oFr zfN zdt) ?_;refine G1 (zg rfl rfl zc3) ?_;refine G1 (oFp zfN) ?_;refine G1 (oLb zdt zc3) ?_;refine G1 (oCl (zrD _ _) rfl fn_282 ybP) ?_;refine G1 zfd ?_;refine G0 oK ?_;refine zaG (d:=59) (p:=¬zbj b.inn c.inn<0) rfl yA (fun g59=>?_) (fun g59=>?_)
   ·
    refine GK.nil ?_;refine Ct ?_;refine qas ?_;exact zb rfl rfl (za rfl (zo6 hc ht8 yc hb g59).symm)
   refine GK.nil ?_;refine Cg ?_;refine qaZ ?_;exact Nx (k+1) (⟨by omega,zg6 hinv.2 yaY⟩) yc
  refine qab ?_;refine qaK ?_;refine G2 ?_;refine qaW ?_;refine Cg ?_;refine qaZ ?_;exact Nx (k+1) (⟨by omega,zg6 hinv.2 yaY⟩) yc
 refine CE ?_;refine qa4 ?_;refine A0 (zW rfl rfl zjN) ?_;refine A0 zih ?_;refine qad ?_;exact zb rfl rfl (za rfl (by unfold zaZ;rw[show k=p.length by omega] at hinv;rw[hinv.2,Bool.true_and,uo];simp only[IntL.toI,id_eq];omega))
def zf7 {α:Type} (f:α→Int) (l:List α):Int:=l.foldl (fun n x=>IntKind.i64.wrap (n+f x)) 0
theorem worth_step {α:Type} {f:α→Int} {l:List α} {k:Nat} {x:α} (h:l[k]?=some x):zf7 f (l.take (k+1))=IntKind.i64.wrap (zf7 f (l.take k)+f x):=by
  unfold zf7;rw[un,h,List.foldl_append];rfl
theorem worthOut (l:List Out) (f:Out→Int):Tells P 290 [.val (bsl outT) l,.fn1 P outT i64T f] (.val i64T (zf7 f l)):=by
 refine zc Tryz.func290 rfl rfl rfl (fun ext w hext=>?_);refine ze (d:=0) rfl zk (fun hsl0=>?_);refine CQR ?_;refine qaz ?_;refine qaj ?_;refine A0 (zW rfl rfl zib) ?_;refine qa2 ?_;refine Lp (ι:=Nat) 0 (fun (k:Nat)=>(((((Fr.none).set 1 (.fn1 P outT i64T f)).set 5 (.val i64T (zf7 f (l.take k)))).set 8 (.val (bsl outT) l)).set 9 (.val i64T (l.length:Int))).set 10 (.val i64T (k:Int))) (fun (k:Nat)=>Hp.none) (fun (k:Nat)=>k≤l.length) (fun (k:Nat)=>l.length-k) (0) (uf _) ?_;intro k hinv;refine qak ?_;refine Cf (p:=k<l.length) (fun ht11=>?_) (fun ht11=>?_)
 ·
  obtain⟨x,hx⟩:∃x,l[k]?=some x:=⟨_,ub ht11⟩;refine CSQBQR ?_;refine qcp ?_;refine zf rfl rfl rfl rfl rfl (Lens.self _) zh9 rfl ?_;refine CNR ?_;refine qax ?_;refine A0 mF ?_;refine A0 (oLs rfl rfl rfl zh9) ?_;refine A0 (zk4 rfl rfl yo) ?_;refine A0 zdp ?_;refine A0 aV ?_;refine qbh ?_;refine zj (d:=5) rfl (worth_step hx).symm ?_;exact Nx (k+1) yc yc
 refine CE ?_;refine qbK ?_;exact zb rfl rfl (za rfl yN)
theorem zwu (o:Out):Tells P 291 [.val outT o] (.val i64T o.v):=by
 refine zc Tryz.func291 rfl rfl rfl (fun ext w hext=>?_);refine qae ?_;refine qaz ?_;refine A0 (oFp ze6) ?_;refine A0 (oLb zi9 ty_3) ?_;refine qad ?_;exact zb rfl rfl yC
theorem outs_ok (t:Tx):Tells P 250 [.val txT t] (.val i64T (zf7 (·.v) t.outs)):=by
 refine zc Tryz.func250 rfl rfl rfl (fun ext w hext=>?_);refine qae ?_;refine qaz ?_;refine A0 (oFp zeE) ?_;refine A0 (oLb zeJ znI) ?_;refine A0 (oCl (worthOut _ _) rfl fn_290 ⟨yo,(by first|exact zdJ (Cs:=[]) rfl fn_291 yD trivial rfl (fun x=>zwu _)|exact zdI (Cs:=[]) rfl fn_291 yD trivial rfl (fun x y=>zwu _)|exact zdK rfl),trivial⟩) ?_;refine qad ?_;exact zb rfl rfl yC
theorem zwE (id:Ab.Id) (c:Coin):Tells P 287 [.val zbm c,.rptr idT id] (.val zm (decide (c.inn.tx=id))):=by
 refine zc Tryz.func287 rfl rfl rfl (fun ext w hext=>?_);refine qae ?_;refine qaz ?_;refine A0 (oFp zfN) ?_;refine A0 (oFp zgQ) ?_;refine A0 (oLb (zdt.comp zml) zaj) ?_;refine A0 (zg rfl rfl zaj) ?_;refine A0 (ziP rfl rfl rfl (zfl)) ?_;refine qad ?_;exact zb rfl rfl yC
theorem made2_ok (a b:Coin):Tells P 289 [.val zbm a,.val zbm b] (.val i64T (zbj a.inn b.inn)):=by
 refine zc Tryz.func289 rfl rfl rfl (fun ext w hext=>?_);refine qay ?_;refine qaz ?_;refine A0 (oFp zfN) ?_;refine A0 (oLb zdt zc3) ?_;refine A0 (oFp zfN) ?_;refine A0 (oLb zdt zc3) ?_;refine A0 (oCl (zrD _ _) rfl fn_282 yl) ?_;refine qad ?_;exact zb rfl rfl yC
theorem ztm (c:Coin) (x:In):Tells P 332 [.val zbm c,.val inT x] (.val i64T (zbj c.inn x)):=by
 refine zc Tryz.func332 rfl rfl rfl (fun ext w hext=>?_);refine qay ?_;refine qaz ?_;refine A0 (oFp zfN) ?_;refine A0 (oLb zdt zc3) ?_;refine A0 (oLs rfl rfl rfl zc3) ?_;refine A0 (oCl (zrD _ _) rfl fn_282 yl) ?_;refine qad ?_;exact zb rfl rfl yC
theorem indexIn (l:List In) (v:In):Tells P 270 [.val (bsl inT) l,.val inT v] (.val i64T (idx (fun c=>decide (v=c)) l)):=by
 refine zc Tryz.func270 rfl rfl rfl (fun ext w hext=>?_);refine ze (d:=0) rfl zk (fun hsl0=>?_);refine qae ?_;refine qaj ?_;refine A0 (zW rfl rfl zjM) ?_;refine qa2 ?_;refine Lp (ι:=Nat) 1 (fun (k:Nat)=>(((((Fr.none).set 0 (.val (bsl inT) l)).set 3 (.ptr 0 0)).set 6 (.val (bsl inT) l)).set 7 (.val i64T (l.length:Int))).set 8 (.val i64T (k:Int))) (fun (k:Nat)=>(Hp.none).set 0 (.box 256 inT v)) (fun (k:Nat)=>k≤l.length∧idx (fun c=>decide (v=c)) l=shift k (idx (fun c=>decide (v=c)) (l.drop k))) (fun (k:Nat)=>l.length-k) (0) (⟨uf _,zdl _ l⟩) ?_;intro k hinv;refine qak ?_;refine Cf (p:=k<l.length) (fun ht9=>?_) (fun ht9=>?_)
 ·
  obtain⟨x,hx⟩:∃x,l[k]?=some x:=ybc;refine qaE ?_;refine qbI ?_;refine G0 (oLs rfl rfl rfl zc3) ?_;refine qbY ?_;refine G0 (zby rfl rfl rfl zrk yh) ?_;refine G0 (zg rfl rfl zc3) ?_;refine G0 (ziP rfl rfl rfl (eqt_256)) ?_;refine GK.nil ?_;refine zn (p:=decide (v=x)=true) rfl yy (fun ht16=>?_) (fun ht16=>?_)
  ·
   refine qbK ?_;exact zb rfl rfl (za rfl (hinv.2.trans (zhJ hx ht16)).symm)
  refine qaZ ?_;exact Nx (k+1) (⟨by omega,hinv.2.trans (zk0 hx ht16)⟩) yc
 refine qcn ?_;exact zb rfl rfl (za rfl (hinv.2.trans (zhK yc)).symm)
theorem containsIn (l:List In) (v:In):Tells P 220 [.val (bsl inT) l,.val inT v] (.val zm (l.any fun c=>decide (v=c))):=by
 refine zc Tryz.func220 rfl rfl rfl (fun ext w hext=>?_);refine ze (d:=0) rfl zk (fun hsl0=>?_);refine qae ?_;refine qag ?_;refine A0 (oLs rfl rfl rfl zc3) ?_;refine A0 (oCl (indexIn _ _) rfl fn_270 yl) ?_;refine A0 zfd ?_;refine qad ?_;exact zb rfl rfl (za rfl (zhL _ l))
theorem odd_ok (o:Out):Tells P 221 [.val outT o] (.val zm (decide (o.v<1∨1099511627776<o.v∨o.to<0∨255<o.to))):=by
 refine zc Tryz.func221 rfl rfl rfl (fun ext w hext=>?_);refine qae ?_;refine qaz ?_;refine A0 (oFp ze6) ?_;refine A0 (oLb zi9 ty_3) ?_;refine A0 zb2 ?_;refine qax ?_;refine Sp (d:=6) (p:=o.v<1) (fun g6=>?_) (fun g6=>?_)
 ·
  refine qac ?_;refine qbd ?_;refine qbd ?_;refine qaI ?_;exact zb rfl rfl (za rfl yan)
 refine A1 (oFp ze6) ?_;refine A1 (oLb zi9 ty_3) ?_;refine A1 zc1 ?_;refine qal ?_;refine Sp (d:=11) (p:=1099511627776<o.v) (fun g11=>?_) (fun g11=>?_)
 ·
  refine qac ?_;refine qbd ?_;refine qaI ?_;exact zb rfl rfl (za rfl yan)
 refine A1 (oFp zfO) ?_;refine A1 (oLb zjC ty_3) ?_;refine A1 zb2 ?_;refine qal ?_;refine Sp (d:=16) (p:=o.to<0) (fun g16=>?_) (fun g16=>?_)
 ·
  refine qac ?_;refine qaI ?_;exact zb rfl rfl (za rfl yan)
 refine A1 (oFp zfO) ?_;refine A1 (oLb zjC ty_3) ?_;refine A1 zc1 ?_;refine A0 oK ?_;refine Sp (d:=20) (p:=255<o.to) (fun g20=>?_) (fun g20=>?_)
 ·
  refine qad ?_;exact zb rfl rfl (za rfl yan)
 refine qad ?_;exact zb rfl rfl (za rfl yan)
def zwv (o:Out):Bool:=decide (o.v<1∨1099511627776<o.v∨o.to<0∨255<o.to)
def inAt (t:Tx) (k:Nat):Bool:=match t.ins[k]? with
  | none=>true
  | some x=>decide (0≤x.i∧x.i<3) && !((t.ins.take k).any fun c=>decide (x=c))
def zeU (t:Tx):Bool:=(List.range t.ins.length).all (inAt t)&&(decide (t.ins.length≤3)&&(decide (0<t.outs.length)&&(decide (t.outs.length≤3) && !(t.outs.any zwv))))
theorem zwR {t:Tx} {k:Nat} {x:In} (h:t.ins[k]?=some x) (hk:k<t.ins.length) (hb:¬(0≤x.i∧x.i<3)):zeU t=false:=by
  unfold zeU;rw[ze7 hk (by unfold inAt;rw[h];simp only[uh hb,Bool.false_and]),Bool.false_and]
theorem inAt_twice {t:Tx} {k:Nat} {x:In} (h:t.ins[k]?=some x) (hk:k<t.ins.length) (hb:((t.ins.take k).any fun c=>decide (x=c))=true):zeU t=false:=by
  unfold zeU;rw[ze7 hk (by unfold inAt;rw[h];simp only[hb,Bool.not_true,Bool.and_false]),Bool.false_and]
theorem inAt_good {t:Tx} {k:Nat} {x:In} (h:t.ins[k]?=some x) (hb:0≤x.i∧x.i<3) (hc:¬((t.ins.take k).any fun c=>decide (x=c))=true):inAt t k=true:=by
  unfold inAt;rw[h];simp only[ui hb,Bool.true_and];cases hh:((t.ins.take k).any fun c=>decide (x=c)) with
  | true=>exact absurd hh hc
  | false=>rfl
theorem zrK (t:Tx):Tells P 168 [.val txT t] (.val zm (zeU t)):=by
 refine zc Tryz.func168 rfl rfl rfl (fun ext w hext=>?_);refine qae ?_;refine qbS ?_;refine qbr ?_;refine qa2 ?_;refine Lp (ι:=Nat) 1 (fun (k:Nat)=>((((Fr.none).set 1 (.ptr 0 0)).set 7 (.val (sl inT) t.ins)).set 8 (.val i64T (t.ins.length:Int))).set 9 (.val i64T (k:Int))) (fun (k:Nat)=>(Hp.none).set 0 (.box 101 txT t)) (fun (k:Nat)=>k≤t.ins.length∧(List.range k).all (inAt t)=true) (fun (k:Nat)=>t.ins.length-k) (0) (⟨uf _,rfl⟩) ?_;intro k hinv;refine ze (d:=7) rfl zk (fun hsi=>?_);refine qak ?_;refine Cf (p:=k<t.ins.length) (fun ht10=>?_) (fun ht10=>?_)
 ·
  obtain⟨x,hx⟩:∃x,t.ins[k]?=some x:=⟨_,ub ht10⟩;refine qaE ?_;refine qcq ?_;refine A0 aV ?_;refine zf rfl rfl rfl rfl rfl (Lens.self _) zc3 rfl ?_;refine CNQ ?_;refine CD mixed ?_;refine G0 (oFp zdW) ?_;refine G0 (oLb zlB ty_3) ?_;refine G0 zb2 ?_;refine G0 mV ?_;refine zaG (d:=17) (p:=x.i<0) rfl yA (fun g17=>?_) (fun g17=>?_)
  ·
   refine qaK ?_;refine qaT ?_;refine qab ?_;refine qaW ?_;refine Ct ?_;refine qas ?_;exact zb rfl rfl (za rfl (zwR hx ht10 yc).symm)
  refine G1 (oFp zdW) ?_;refine G1 (oLb zlB ty_3) ?_;refine G1 zfd ?_;refine qaT ?_;refine zaG (d:=22) (p:=3≤x.i) rfl yA (fun g22=>?_) (fun g22=>?_)
  ·
   refine qab ?_;refine qaW ?_;refine Ct ?_;refine qas ?_;exact zb rfl rfl (za rfl (zwR hx ht10 yc).symm)
  refine G1 (oFp zdY) ?_;refine G1 (oLb ze8 zmW) ?_;refine G1 mV ?_;refine G1 (by first|exact zfM rfl rfl rfl yaq zrk|exact zk3 rfl rfl rfl zrk yg) ?_;refine G1 (oLs rfl rfl rfl zc3) ?_;refine G1 (oCl (containsIn _ _) rfl fn_220 yl) ?_;refine qaW ?_;refine zn (p:=((t.ins.take k).any fun c=>decide (x=c))=true) rfl (Bool.decide_eq_true.symm) (fun ht29=>?_) (fun ht29=>?_)
  ·
   refine qas ?_;exact zb rfl rfl (za rfl (inAt_twice hx ht10 ht29).symm)
  refine qaZ ?_;exact Nx (k+1) (⟨by omega,zg6 hinv.2 (inAt_good hx yc ht29)⟩) yc
 refine CE ?_;refine CQR ?_;refine A0 aC ?_;refine CNQR ?_;refine qbr ?_;refine A0 zih ?_;refine qax ?_;refine Sp (d:=35) (p:=t.ins.length≤3) (fun g35=>?_) (fun g35=>?_)
 ·
  refine qcs ?_;refine A1 (zW rfl rfl zib) ?_;refine A1 zc1 ?_;refine qal ?_;refine Sp (d:=41) (p:=0<t.outs.length) (fun g41=>?_) (fun g41=>?_)
  ·
   refine qcs ?_;refine A1 (zW rfl rfl zib) ?_;refine A1 zih ?_;refine qal ?_;refine Sp (d:=47) (p:=t.outs.length≤3) (fun g47=>?_) (fun g47=>?_)
   ·
    refine qcs ?_;refine A1 mC ?_;refine A1 (oCl (zo1 _ _) rfl fn_222 ⟨yo,(by first|exact zdJ (Cs:=[]) rfl fn_221 yD trivial rfl (fun x=>odd_ok _)|exact zdI (Cs:=[]) rfl fn_221 yD trivial rfl (fun x y=>odd_ok _)|exact zdK rfl),trivial⟩) ?_;refine A1 oN ?_;refine qaI ?_;exact zb rfl rfl (za rfl (by rw[show k=t.ins.length by omega] at hinv;unfold zeU;rw[hinv.2,ui g35,ui g41,ui g47];rfl))
   refine qb7 ?_;refine A2 ?_;refine qaI ?_;exact zb rfl rfl (za rfl (by unfold zeU;simp only[uh g47,Bool.false_and,Bool.and_false]))
  refine qac ?_;refine qav ?_;refine A2 ?_;refine qaI ?_;exact zb rfl rfl (za rfl (by unfold zeU;simp only[uh g41,Bool.false_and,Bool.and_false]))
 refine qac ?_;refine qav ?_;refine qbd ?_;refine A2 ?_;refine A2 ?_;refine qaI ?_;exact zb rfl rfl (za rfl (by unfold zeU;simp only[uh g35,Bool.false_and,Bool.and_false]))
def halves {α:Type} (c:α→Int) (l:List α) (lo hi:Nat):Nat :=
  if h:lo<hi then
    match l[(lo+hi)/2]? with
    | none=>lo
    | some x=>if c x<0 then halves c l ((lo+hi)/2+1) hi else halves c l lo ((lo+hi)/2)
  else lo
termination_by hi-lo
theorem ziK {α:Type} {c:α→Int} {l:List α} {lo hi:Nat} {x:α} (h:lo<hi) (hx:l[(lo+hi)/2]?=some x) (hc:c x<0):halves c l lo hi=halves c l ((lo+hi)/2+1) hi:=by
  rw[halves,dif_pos h];simp only[hx,ut hc]
theorem ziL {α:Type} {c:α→Int} {l:List α} {lo hi:Nat} {x:α} (h:lo<hi) (hx:l[(lo+hi)/2]?=some x) (hc:¬c x<0):halves c l lo hi=halves c l lo ((lo+hi)/2):=by
  rw[halves,dif_pos h];simp only[hx,ur hc]
theorem zcr {α:Type} {c:α→Int} {l:List α} {lo:Nat}:halves c l lo lo=lo:=by rw[halves,dif_neg (Nat.lt_irrefl _)]
def zfy {α:Type} (c:α→Int) (l:List α) (i:Nat):Bool:=match l[i]? with|none=>false|some x=>decide (c x=0)
theorem mid_eq {lo hi:Nat} (h:lo+hi<18446744073709551616):IntKind.i64.wrap (IntL.toI u64T (za6 (zae (IntL.toI i64T ((lo:Int)+(hi:Int)))) (IntL.toI u64T (1:UInt64)).toNat))=(((lo+hi)/2:Nat):Int):=by
  have e1:(zae ((lo:Int)+(hi:Int))).toNat=lo+hi:=by
    unfold zae;rw[UInt64.toNat_ofNat_of_lt' (by show(((lo:Int)+hi)%18446744073709551616).toNat<18446744073709551616;omega)];omega
  have e2:(za6 (zae ((lo:Int)+(hi:Int))) 1).toNat=(lo+hi)/2:=by
    unfold za6;rw[e1,UInt64.toNat_ofNat_of_lt' (by show(lo+hi)/2^min 1 64<18446744073709551616;rw[show min 1 64=1 from rfl];omega)];rfl
  show IntKind.i64.wrap (((za6 (zae ((lo:Int)+(hi:Int))) 1).toNat:Nat):Int)=_;rw[e2];exact zax yc
theorem bsearch (l:List Coin) (y:In) (f:Coin→In→Int) (hl:l.length<4611686018427387904):Tells P 331 [.val (bsl zbm) l,.val inT y,.fn2 P zbm inT i64T f] (.tup2 (.val i64T (halves (fun x=>f x y) l 0 l.length:Nat)) (.val zm (zfy (fun x=>f x y) l (halves (fun x=>f x y) l 0 l.length)))):=by
 refine zc Tryz.func331 rfl rfl rfl (fun ext w hext=>?_);refine ze (d:=0) rfl zk (fun hsl0=>?_);refine qae ?_;refine A0 aV ?_;refine qag ?_;refine A0 (zW rfl rfl zjN) ?_;refine qag ?_;refine A0 aV ?_;refine qa7 ?_;refine CB ?_;refine Lp (ι:=Nat×Nat) 1 (fun(lo,hi)=>(((((Fr.none.set 0 (.val (bsl zbm) l)).set 2 (.fn2 P zbm inT i64T f)).set 4 (.ptr 0 0)).set 8 (.val i64T (l.length:Int))).set 9 (.val i64T (lo:Int))).set 10 (.val i64T (hi:Int))) (fun(lo,hi)=>Hp.none.set 0 (.box 256 inT y)) (fun(lo,hi)=>lo≤hi∧hi≤l.length∧halves (fun x=>f x y) l 0 l.length=halves (fun x=>f x y) l lo hi) (fun(lo,hi)=>hi-lo) ((0,l.length)) (⟨uf _,ug _,rfl⟩) ?_;intro⟨lo,hi⟩ hinv;dsimp only at hinv;refine CQQR ?_;refine qao ?_;refine qaY ?_;refine Cf (p:=lo<hi) (fun ht17=>?_) (fun ht17=>?_)
 ·
  obtain⟨x,hx⟩:∃x,l[(lo+hi)/2]?=some x:=yv;refine CS ?_;refine CB ?_;refine CQR ?_;refine qao ?_;refine A0 zdp ?_;refine qc4 ?_;refine xk ?_;refine A0 (zm8 rfl (ui_3) (zv6) rfl (mid_eq yc)) ?_;refine qbI ?_;refine G0 mH ?_;refine qbY ?_;refine G0 (zby rfl rfl rfl zmZ yh) ?_;refine G0 (zg rfl rfl zpZ) ?_;refine G0 (oLs rfl rfl rfl zc3) ?_;refine G0 (znp rfl rfl yd yo) ?_;refine G0 zb2 ?_;refine GK.nil ?_;refine Cf (p:=f x y<0) (fun ht31=>?_) (fun ht31=>?_)
  ·
   refine CR ?_;refine qbb ?_;refine qad ?_;refine CI ?_;exact Nx (((lo+hi)/2+1,hi)) yaI yat
  refine CR ?_;refine qax ?_;refine qad ?_;refine CI ?_;exact Nx ((lo,(lo+hi)/2)) yaI yat
 refine CE ?_;refine qaV ?_;refine qbY ?_;refine G0 mV ?_;refine G0 zb2 ?_;refine G0 mV ?_;refine zaG (d:=39) (p:=lo<l.length) rfl yA (fun g39=>?_) (fun g39=>?_)
 ·
  obtain⟨x,hx⟩:∃x,l[lo]?=some x:=⟨_,ub g39⟩;refine G1 mH ?_;refine G1 mV ?_;refine G1 mV ?_;refine G1 (zby rfl rfl rfl zmZ yh) ?_;refine G1 (zg rfl rfl zpZ) ?_;refine G1 (oLs rfl rfl rfl zc3) ?_;refine G1 (znp rfl rfl yd yo) ?_;refine G1 zbZ ?_;refine G0 oK ?_;refine G0 aV ?_;refine qaP ?_;exact zV rfl rfl (za rfl yax) (za rfl (by rw[hinv.2.2,show hi=lo by omega,zcr];unfold zfy;rw[hx];rfl))
 refine qab ?_;refine G2 ?_;refine G2 ?_;refine G0 oK ?_;refine G0 aV ?_;refine qaP ?_;exact zV rfl rfl (za rfl yax) (za rfl (by rw[hinv.2.2,show hi=lo by omega,zcr];unfold zfy;rw[List.getElem?_eq_none yc]))
def placeOf (p:List Coin) (x:In):Nat:=halves (fun c=>zbj c.inn x) p 0 p.length
def zl1 (p:List Coin) (x:In):Bool:=zfy (fun c=>zbj c.inn x) p (placeOf p x)
theorem place_ok (p:List Coin) (x:In) (hl:p.length<4611686018427387904):Tells P 284 [.val (bsl zbm) p,.val inT x] (.tup2 (.val i64T (placeOf p x:Nat)) (.val zm (zl1 p x))):=by
 refine zc Tryz.func284 rfl rfl rfl (fun ext w hext=>?_);refine ze (d:=0) rfl zk (fun hsl0=>?_);refine qae ?_;refine A0 aV ?_;refine qag ?_;refine A0 (oLs rfl rfl rfl zc3) ?_;refine A0 (oCl (bsearch p x (fun c x=>zbj c.inn x) hl) rfl fn_331 ⟨yo,yo,(by first|exact zdJ (Cs:=[]) rfl fn_332 yD trivial rfl (fun x=>ztm _ _)|exact zdI (Cs:=[]) rfl fn_332 yD trivial rfl (fun x y=>ztm _ _)|exact zdK rfl),trivial⟩) ?_;refine qaa ?_;refine qbA ?_;exact zV rfl rfl (zcP rfl) (zcP rfl)
theorem delete_ok (l:List Coin) (i:Nat) (hi:i<l.length):zfr P 285 (.row 293 zbm l) [.own 0,.val i64T (i:Int),.val i64T ((i:Int)+1)] (.fresh 293 zbm (l.take i++l.drop (i+1))) (.none_):=by
 refine zgo trivial Tryz.func285 rfl rfl ⟨Nat.one_pos,⟨trivial,⟨trivial,trivial⟩⟩⟩ (fun ext pg w hext hgr=>?_);refine ze (d:=1) rfl zt (fun hin1=>?_);refine ze (d:=2) rfl zt (fun hin2=>?_);refine zjA (n:=0) rfl (fun hrl=>?_);refine qbD ?_;refine A0 mO ?_;refine qao ?_;refine A0 mO ?_;refine A0 (zaJ rfl rfl rfl zjN) ?_;refine A0 (g_os_chk (p:=i) (q:=i+1) (r:=l.length) rfl rfl rfl rfl rfl rfl zmZ yn yn yn yg) ?_;refine CNQQR ?_;refine qao ?_;refine A0 zbZ ?_;refine zi4 (d:=16) rfl ybn ?_;refine CN ?_;refine Cg ?_;refine CSQR ?_;refine A0 mO ?_;refine A0 (zaJ rfl rfl rfl zjN) ?_;refine qa7 ?_;refine xl ?_;refine X0 mO ?_;refine X0 mV ?_;refine X0 (zmG (q:=i) rfl rfl rfl rfl zmZ yn yg) ?_;refine X0 mO ?_;refine X0 mV ?_;refine X0 (ztL (p:=i+1) rfl rfl rfl rfl zmZ yn yg) ?_;refine XK.e (fun fr' hfr kk H=>by exact zuw rfl rfl rfl rfl ((hfr 22 ye).trans rfl) ((hfr 25 ye).trans rfl) rfl zqf yc (zr H)) ?_;refine X0 aS ?_;refine xf ?_;refine CQR ?_;refine A0 mS ?_;refine A0 mS ?_;refine A0 (g_len_s rfl rfl yc zjN) ?_;refine qax ?_;refine A0 (g_os_lh (p:=i+(l.length-(i+1))) (q:=l.length) rfl rfl rfl rfl rfl zmZ yn yn yg) ?_;refine zsn rfl rfl rfl rfl rfl zqf ze_293 yx ?_;refine CNQR ?_;refine A0 mS ?_;refine A0 aS ?_;refine CN ?_;exact zdZ rfl rfl rfl rfl rfl zc9 (zmx rfl rfl yx (by rw[List.take_append_of_le_length yx,List.take_take,Nat.min_self,List.take_append_of_le_length yx];exact uc yx))
def rotl (x:UInt32) (n:Int):UInt32:=shl32 x ((zae n)&&&31).toNat|||zpy x (32-((zae n)&&&31)).toNat
theorem rotl_ok (x:UInt32) (n:Int):Tells P 196 [.val u32T x,.val i64T n] (.val u32T (rotl x n)):=by
 refine zc Tryz.func196 rfl rfl rfl (fun ext w hext=>?_);refine ze (d:=1) rfl zt (fun hin1=>?_);refine qbJ ?_;refine qc4 ?_;refine A0 (zrZ rfl rfl rfl) ?_;refine qag ?_;refine qax ?_;refine A0 (zrW rfl rfl rfl ym rfl) ?_;refine qao ?_;refine A0 (g_sub64 rfl rfl rfl) ?_;refine A0 (zoC rfl rfl rfl ym rfl) ?_;refine A0 (zw0 rfl rfl rfl) ?_;refine qad ?_;exact zb rfl rfl (za rfl rfl)
theorem zwm (x:UInt32) (n:Int):Tells P 148 [.val u32T x,.val i64T n] (.val u32T (rotl x (IntKind.i64.wrap (0-n)))):=by
 refine zc Tryz.func148 rfl rfl rfl (fun ext w hext=>?_);refine ze (d:=1) rfl zt (fun hin1=>?_);refine qbJ ?_;refine qax ?_;refine A0 (g_neg rfl rfl rfl) ?_;refine A0 (oCl (rotl_ok _ _) rfl fn_196 yl) ?_;refine qad ?_;exact zb rfl rfl (za rfl rfl)
def shaK:List UInt32:=[1116352408,1899447441,3049323471,3921009573,961987163,1508970993,2453635748,2870763221,3624381080,310598401,607225278,1426881987,1925078388,2162078206,2614888103,3248222580,3835390401,4022224774,264347078,604807628,770255983,1249150122,1555081692,1996064986,2554220882,2821834349,2952996808,3210313671,3336571891,3584528711,113926993,338241895,666307205,773529912,1294757372,1396182291,1695183700,1986661051,2177026350,2456956037,2730485921,2820302411,3259730800,3345764771,3516065817,3600352804,4094571909,275423344,430227734,506948616,659060556,883997877,958139571,1322822218,1537002063,1747873779,1955562222,2024104815,2227730452,2361852424,2428436474,2756734187,3204031479,3329325298]
def zB (n:UInt64) (size:Nat):List UInt8:=(List.range size).map fun j=>zcl (IntL.toI u64T (za6 n (8*(size-1-j))))
theorem zrF {n:UInt64} {size k:Nat} {l:List UInt8} (hk:k<size) (hl:l.length=size) (h:∀j,size-k≤j→j<size→l[j]?=(zB n size)[j]?):∀j,size-(k+1)≤j→j<size→(l.set (size-1-k) (zcl (IntL.toI u64T (za6 n (8*k)))))[j]?=(zB n size)[j]?:=fun j h1 h2=>by
  rw[List.getElem?_set];by_cases c:size-1-k=j
  · rw[ut c,ut yc]
    unfold zB;rw[List.getElem?_map,List.getElem?_range h2,Option.map_some];congr 4;omega
  rw[ur c];exact h j yc h2
theorem ztq {n:UInt64} {size:Nat} {l:List UInt8} (hl:l.length=size) (h:∀j,size-size≤j→j<size→l[j]?=(zB n size)[j]?):l=zB n size:=by
  apply List.ext_getElem?;intro j;by_cases c:j<size
  · exact h j yc c
  rw[List.getElem?_eq_none yc,List.getElem?_eq_none (by unfold zB;simp;omega)]
theorem numbers_ok:Tells P 149 [] (.val (arrT 64 yp u32T) shaK):=by
 refine zc Tryz.func149 rfl rfl rfl (fun ext w hext=>?_);refine CQR ?_;refine zs zv0 rfl rfl rfl rfl ?_;refine CNQR ?_;refine A0 (zji (T:=u32T) (xs:=[_,_,_,_,_,_,_,_,_,_,_,_,_,_,_,_,_,_,_,_,_,_,_,_,_,_,_,_,_,_,_,_,_,_,_,_,_,_,_,_,_,_,_,_,_,_,_,_,_,_,_,_,_,_,_,_,_,_,_,_,_,_,_,_]) rfl zlw zv0 ⟨rfl,rfl,rfl,rfl,rfl,rfl,rfl,rfl,rfl,rfl,rfl,rfl,rfl,rfl,rfl,rfl,rfl,rfl,rfl,rfl,rfl,rfl,rfl,rfl,rfl,rfl,rfl,rfl,rfl,rfl,rfl,rfl,rfl,rfl,rfl,rfl,rfl,rfl,rfl,rfl,rfl,rfl,rfl,rfl,rfl,rfl,rfl,rfl,rfl,rfl,rfl,rfl,rfl,rfl,rfl,rfl,rfl,rfl,rfl,rfl,rfl,rfl,rfl,rfl,rfl,rfl,rfl,rfl,rfl,rfl,rfl,rfl,rfl,rfl,rfl,rfl,rfl,rfl,rfl,rfl,rfl,rfl,rfl,rfl,rfl,rfl,rfl,rfl,rfl,rfl,rfl,rfl,rfl,rfl,rfl,rfl,rfl,rfl,rfl,rfl,rfl,rfl,rfl,rfl,rfl,rfl,rfl,rfl,rfl,rfl,rfl,rfl,rfl,rfl,rfl,rfl,rfl,rfl,rfl,rfl,rfl,rfl,rfl,rfl,rfl,rfl,rfl,rfl,trivial⟩ rfl) ?_;refine zf rfl rfl rfl rfl rfl (Lens.self _) ty_233 rfl ?_;refine CN ?_;exact zag rfl rfl rfl rfl ty_233 (rfl)
theorem zlp (n:UInt64) (size:Nat) (hs:size≤8):Tells P 139 [.val u64T n,.val i64T (size:Int)] (.fresh 5 u8T (zB n size)):=by
 refine zc Tryz.func139 rfl rfl rfl (fun ext w hext=>?_);refine ze (d:=1) rfl zt (fun hin1=>?_);refine qaq ?_;refine qbg ?_;refine A0 zb2 ?_;refine qax ?_;refine zi4 (d:=9) rfl (uh (by show ¬((size:Int)<0);omega)) ?_;refine qck ?_;refine A0 oK ?_;refine zi4 (d:=12) rfl (uh (by show ¬((8:Int)<(size:Int));omega)) ?_;refine CN ?_;refine Cg ?_;refine qcG ?_;refine aw_mks (T:=u8T) (n:=size) rfl rfl rfl rfl rfl rfl yn yn zc4 ze_5 ⟨by omega,by omega,(show(size)*1≤16777216 by omega)⟩ ?_;refine A0 aO ?_;refine CNQQR ?_;refine qao ?_;refine CNB ?_;refine Lp (ι:=Nat×List UInt8) 1 (fun(k,l)=>((((Fr.none.set 0 (.val u64T n)).set 1 (.val i64T (size:Int))).set 5 (.own 0)).set 15 (.val i64T (size:Int))).set 16 (.val i64T (k:Int))) (fun(k,l)=>Hp.none.set 0 (.row 5 u8T l)) (fun(k,l)=>k≤size∧l.length=size∧∀j,size-k≤j→j<size→l[j]?=(zB n size)[j]?) (fun(k,l)=>size-k) ((0,List.replicate size 0)) (⟨uf _,by simp,fun j h1 h2=>by omega⟩) ?_;intro⟨k,l⟩ hinv;dsimp only at hinv;refine qak ?_;refine Cf (p:=k<size) (fun ht17=>?_) (fun ht17=>?_)
 ·
  obtain⟨x,hx⟩:∃x,l[size-1-k]?=some x:=yv;refine qaE ?_;refine qc5 ?_;refine A0 mO ?_;refine qcb ?_;refine qcb ?_;refine qao ?_;refine A0 zpG ?_;refine xk ?_;refine xj ?_;refine A0 (zcs (i:=size-1-k) rfl rfl rfl rfl yn zd3 yg) ?_;refine zcM rfl rfl rfl rfl rfl rfl yh (Lens.self _) ty_5 rfl ?_;refine qbh ?_;exact Nx ((k+1,l.set (size-1-k) (zcl (IntL.toI u64T (za6 n (8*k)))))) (⟨by omega,by simp;exact hinv.2.1,zrF ht17 hinv.2.1 hinv.2.2⟩) (by show _<size-k;simp only[];omega)
 refine qa9 ?_;exact zb rfl rfl (zh rfl rfl (ztq hinv.2.1 (by rw[show k=size by omega] at hinv;exact hinv.2.2)))
theorem growNil (n:Nat) (hn:n≤140737488355328):Tells P 195 [.lit (.slice none 0 0),.val i64T (n:Int)] (.fresh 5 u8T []):=by
 refine zc Tryz.func195 rfl rfl rfl (fun ext w hext=>?_);refine ze (d:=1) rfl zt (fun hin1=>?_);refine qaq ?_;refine qbg ?_;refine qaY ?_;refine ze1 rfl (uh (by show ¬((n:Int)<0);omega)) ?_;refine qbM ?_;refine A0 mL ?_;refine A0 (zhj rfl rfl zc8) ?_;refine A0 mL ?_;refine qbU ?_;refine A0 zbb ?_;refine A0 zbb ?_;refine qag ?_;refine qcC ?_;refine zn (p:=0<n) rfl yab (fun ht16=>?_) (fun ht16=>?_)
 ·
  refine CR ?_;refine A0 mL ?_;refine A0 mL ?_;refine A0 (zhj rfl rfl zc8) ?_;refine A0 yaR ?_;refine qax ?_;refine zmi (T:=u8T) (n:=n) rfl rfl rfl rfl rfl rfl yaq zc4 ze_5 (ui_3) (⟨by assumption,by omega,by omega⟩) ?_;refine A0 mL ?_;refine qbU ?_;refine A0 (zmG (q:=0) rfl rfl rfl rfl zd3 yn yg) ?_;refine A0 aS ?_;refine CNQR ?_;refine A0 mS ?_;refine A0 aS ?_;refine CN ?_;exact zb rfl rfl (zj1 rfl rfl yx rfl)
 refine CSQR ?_;refine A0 mL ?_;refine A0 aL ?_;refine CN ?_;exact zb rfl rfl (zp rfl)
theorem zaH {α:Type} {ls:List (List α)} {k:Nat} {x:List α} (h:ls[k]?=some x):(ls.take (k+1)).flatten=(ls.take k).flatten++x:=by
  rw[un,h];simp
theorem zeg {α:Type} (ls:List (List α)) (k:Nat):(ls.take k).flatten.length≤ls.flatten.length:=by
  conv=>rhs;rw[←List.take_append_drop k ls,List.flatten_append,ue]
  omega
theorem zgs (ls:List (List UInt8)) (hl:ls.flatten.length≤140737488355328):Tells P 138 [.val (bsl (bsl u8T)) ls] (.fresh 5 u8T ls.flatten):=by
 refine zc Tryz.func138 rfl rfl rfl (fun ext w hext=>?_);refine ze (d:=0) rfl zk (fun hsl0=>?_);refine qbD ?_;refine qaj ?_;refine A0 (zW rfl rfl zhI) ?_;refine qa2 ?_;refine Lp (ι:=Nat) 0 (fun (k:Nat)=>(((((Fr.none).set 0 (.val (bsl (bsl u8T)) ls)).set 3 (.val i64T ((ls.take k).flatten.length:Int))).set 9 (.val (bsl (bsl u8T)) ls)).set 10 (.val i64T (ls.length:Int))).set 11 (.val i64T (k:Int))) (fun (k:Nat)=>Hp.none) (fun (k:Nat)=>k≤ls.length) (fun (k:Nat)=>ls.length-k) (0) (uf _) ?_;intro k hinv;refine qak ?_;refine Cf (p:=k<ls.length) (fun ht12=>?_) (fun ht12=>?_)
 ·
  obtain⟨x,hx⟩:∃x,ls[k]?=some x:=⟨_,ub ht12⟩;have hle:=zeg ls (k+1);rw[zaH hx,ue] at hle;refine CSQBQR ?_;refine A0 (zby rfl rfl rfl zeN yh) ?_;refine A0 (zg rfl rfl zbi) ?_;refine A0 aX ?_;refine CNQR ?_;refine qax ?_;refine A0 mX ?_;refine qbU ?_;refine A0 zdp ?_;refine qag ?_;refine qaY ?_;refine ze1 rfl (uh yS) ?_;refine qaZ ?_;refine zj (d:=3) (y:=((ls.take (k+1)).flatten.length:Int)) rfl (by rw[zaH hx,ue];omega) ?_;exact Nx (k+1) yc yc
 refine zj (d:=3) (y:=((ls.flatten.length:Nat):Int)) rfl yN ?_;refine CE ?_;refine qa4 ?_;refine zaD (growNil ls.flatten.length hl) rfl fn_195 ybP rfl rfl rfl ?_;refine A0 aO ?_;refine qbg ?_;refine A0 (zW rfl rfl zhI) ?_;refine qa2 ?_;refine Lp (ι:=Nat) 1 (fun k=>(((Fr.none.set 6 (.own 0)).set 25 (.val (bsl (bsl u8T)) ls)).set 26 (.val i64T (ls.length:Int))).set 27 (.val i64T (k:Int))) (fun k=>Hp.none.set 0 (.row 5 u8T (ls.take k).flatten)) (fun k=>k≤ls.length) (fun k=>ls.length-k) (0) (uf _) ?_;intro k hinv;refine qak ?_;refine Cf (p:=k<ls.length) (fun ht28=>?_) (fun ht28=>?_)
 ·
  obtain⟨x,hx⟩:∃x,ls[k]?=some x:=⟨_,ub ht28⟩;have hle:=zeg ls (k+1);rw[zaH hx,ue] at hle;refine CSQBQR ?_;refine A0 (zby rfl rfl rfl zeN yh) ?_;refine A0 (zg rfl rfl zbi) ?_;refine A0 aX ?_;refine CNR ?_;refine A0 mO ?_;refine A0 mX ?_;refine zF rfl rfl rfl rfl rfl rfl rfl zc4 yc ?_;refine A0 aO ?_;refine qbh ?_;refine xm ?_;refine zA (n:=0) rfl (zaH hx).symm ?_;exact Nx (k+1) yc yc
 refine qa9 ?_;exact zb rfl rfl (zh rfl rfl yN)
def padZ (n:Nat):Nat:=(64-(n+9)%64)%64
def zfv (b:List UInt8):List UInt8:=(b++128::List.replicate (padZ b.length) 0)++zB (8*zae (IntL.toI i64T (b.length:Int))) 8
theorem zkN (b:List UInt8):(b++128::List.replicate (padZ b.length) 0).length=b.length+1+padZ b.length:=yx
theorem pad_step {b l:List UInt8} {k:Nat} (hk:k<8) (hl:l.length=b.length+padZ b.length+9) (h:∀j,j<b.length+padZ b.length+1∨b.length+padZ b.length+9-k≤j→l[j]?=(zfv b)[j]?) :
    ∀j,j<b.length+padZ b.length+1∨b.length+padZ b.length+9-(k+1)≤j→(l.set (b.length+padZ b.length+8-k) (zcl (IntL.toI u64T (za6 (8*zae (IntL.toI i64T (b.length:Int))) (8*k)))))[j]?=(zfv b)[j]?:=fun j hj=>by
  rw[List.getElem?_set];by_cases c:b.length+padZ b.length+8-k=j
  · rw[ut c,ut yc]
    unfold zfv;rw[List.getElem?_append_right (by rw[zkN];omega),zkN];unfold zB;rw[List.getElem?_map,List.getElem?_range yc,Option.map_some];congr 4;omega
  rw[ur c];exact h j yc
theorem pad_start {b:List UInt8} {j:Nat} (hj:j<b.length+padZ b.length+1∨b.length+padZ b.length+9-0≤j):([b,[128],List.replicate (padZ b.length+8) 0].flatten)[j]?=(zfv b)[j]?:=by
  unfold zfv;have e:[b,[128],List.replicate (padZ b.length+8) (0:UInt8)].flatten=(b++128::List.replicate (padZ b.length) 0)++List.replicate 8 0:=by
    rw[←List.replicate_append_replicate];simp
  rw[e];have hl:=zkN b;generalize b++128::List.replicate (padZ b.length) 0=pre at hl;rcases hj with hj|hj
  · rw[List.getElem?_append_left yc,List.getElem?_append_left yc]
  rw[List.getElem?_append_right yc,List.getElem?_append_right yc,hl];rw[List.getElem?_eq_none yx,List.getElem?_eq_none (by unfold zB;simp;omega)]
theorem pad_all {b l:List UInt8} (h:∀j,j<b.length+padZ b.length+1∨b.length+padZ b.length+9-8≤j→l[j]?=(zfv b)[j]?):l=zfv b:=List.ext_getElem? fun j=>h j yc
theorem pad_ok (b:List UInt8) (hb:b.length≤70368744177664):Tells P 76 [.val (sl u8T) b] (.fresh 5 u8T (zfv b)):=by
 have hz:((padZ b.length:Nat):Int)=(64-((b.length:Int)+1+8)%64)%64:=by unfold padZ;omega
 have hz2:padZ b.length<64:=by unfold padZ;omega
 refine zc Tryz.func76 rfl rfl rfl (fun ext w hext=>?_);refine ze (d:=0) rfl zk (fun hsl0=>?_);refine qbD ?_;refine qax ?_;refine xn ?_;refine A0 zdp ?_;refine A0 zdp ?_;refine qb0 ?_;refine A0 zbb ?_;refine qb0 ?_;refine qag ?_;refine qbn ?_;refine qbb ?_;refine aw_mks (T:=u8T) (n:=padZ b.length+8) rfl rfl rfl rfl rfl rfl yn yn zc4 ze_5 ⟨by omega,by omega,(show(padZ b.length+8)*1≤16777216 by omega)⟩ ?_;refine aw_pub (d:=17) rfl rfl ?_;refine A0 (zX (T:=(sl u8T)) (xs:=[_,_,_]) rfl zeN zep ⟨rfl,rfl,rfl,rfl,rfl,rfl,trivial⟩ rfl rfl) ?_;refine zaD (zgs [b,[128],List.replicate (padZ b.length+8) 0] yx) rfl zoI yf rfl rfl rfl ?_;refine A0 aO ?_;refine CNQQR ?_;refine qa2 ?_;refine Lp (ι:=Nat×List UInt8) 2 (fun(k,l)=>((Fr.none.set 0 (.val (sl u8T) b)).set 4 (.own 1)).set 20 (.val i64T (k:Int))) (fun(k,l)=>Hp.none.set 1 (.row 5 u8T l)) (fun(k,l)=>k≤8∧l.length=b.length+padZ b.length+9∧∀j,j<b.length+padZ b.length+1∨b.length+padZ b.length+9-k≤j→l[j]?=(zfv b)[j]?) (fun(k,l)=>8-k) ((0,[b,[128],List.replicate (padZ b.length+8) 0].flatten)) (⟨uf _,by simp;omega,fun j h=>pad_start h⟩) ?_;intro⟨k,l⟩ hinv;dsimp only at hinv;refine qak ?_;refine Cf (p:=k<8) (fun ht21=>?_) (fun ht21=>?_)
 ·
  obtain⟨x,hx⟩:∃x,l[b.length+padZ b.length+8-k]?=some x:=yv;refine qaE ?_;refine qc5 ?_;refine A0 mO ?_;refine A0 mO ?_;refine A0 (zaJ rfl rfl rfl zc8) ?_;refine A0 zbb ?_;refine qcb ?_;refine qax ?_;refine xn ?_;refine A0 (zjP rfl (znH) (us_3) rfl) ?_;refine A0 (zl4 rfl rfl rfl) ?_;refine qax ?_;refine A0 zpG ?_;refine xk ?_;refine xj ?_;refine A0 (zcs (i:=b.length+padZ b.length+8-k) rfl rfl rfl rfl yn zd3 yg) ?_;refine zcM rfl rfl rfl rfl rfl rfl yh (Lens.self _) ty_5 rfl ?_;refine qbh ?_;exact Nx ((k+1,l.set (b.length+padZ b.length+8-k) (zcl (IntL.toI u64T (za6 (8*zae (IntL.toI i64T (b.length:Int))) (8*k)))))) (⟨by omega,by simp;exact hinv.2.1,pad_step ht21 hinv.2.1 hinv.2.2⟩) (by show _<8-k;simp only[];omega)
 refine qa9 ?_;exact zb rfl rfl (zh rfl rfl (pad_all (by rw[show k=8 by omega] at hinv;exact hinv.2.2)))
def putIn (x:In):List UInt8:=x.tx++[zcl (IntL.toI i64T x.i)]
def zwp (o:Out):List UInt8:=zB (zae (IntL.toI i64T o.v)) 6++[zcl (IntL.toI i64T o.to)]
def zmz (t:Tx) (k:Nat):List UInt8:=zcl (IntL.toI i64T (t.ins.length:Int))::((t.ins.take k).map putIn).flatten
def zgX (t:Tx) (k:Nat):List UInt8:=zmz t t.ins.length++[zcl (IntL.toI i64T (t.outs.length:Int))]++((t.outs.take k).map zwp).flatten
def putTx (t:Tx):List UInt8:=zgX t t.outs.length
theorem zn9 {t:Tx} {k:Nat} {x:In} (h:t.ins[k]?=some x):zmz t (k+1)=zmz t k++x.tx++[zcl (IntL.toI i64T x.i)]:=by
  unfold zmz;rw[un,h];simp[putIn]
theorem zmy {t:Tx} {k:Nat} {x:Out} (h:t.outs[k]?=some x):zgX t (k+1)=zgX t k++zB (zae (IntL.toI i64T x.v)) 6++[zcl (IntL.toI i64T x.to)]:=by
  unfold zgX;rw[un,h];simp[zwp]
theorem fact_in {U N:Nat→Prop} {w:World} {x:In} {cs:List Value} (h:inT.rel U N w x cs):x.tx.length=32:=by
  obtain⟨c1,c2,_,h1,_⟩:=h;exact h1.1
theorem zJ (n:UInt64) (s:Nat):(zB n s).length=s:=by simp[zB]
theorem zfW {t:Tx} (h:zeU t=true):t.ins.length≤3∧0<t.outs.length∧t.outs.length≤3:=by
  unfold zeU at h;simp only[uk,uj] at h;exact⟨h.2.1,h.2.2.1,h.2.2.2.1⟩
theorem put_ok (t:Tx):Tells P 100 [.val txT t] (.tup2 (.fresh 5 u8T (if zeU t=true then putTx t else [])) (.val zm (zeU t))):=by
 refine zc Tryz.func100 rfl rfl rfl (fun ext w hext=>?_);refine qc6 ?_;refine qbS ?_;refine qcu ?_;refine A0 (oCl (zrK _) rfl fn_168 yf) ?_;refine qaL ?_;refine zn (p:=¬zeU t=true) rfl yy (fun ht11=>?_) (fun ht11=>?_)
 ·
  refine qbp ?_;exact zV rfl rfl (by rw[ur ht11];exact zp rfl) (za rfl (by simpa using ht11))
 have hmay:=ua ht11;obtain⟨hmi,hm0,hmo⟩:=zfW hmay;refine CSQR ?_;refine qbr ?_;refine A0 (zii rfl (ui_5) (us_3) rfl) ?_;refine qbB ?_;refine A0 aO ?_;refine CNQQR ?_;refine qbr ?_;refine qa2 ?_;refine Lp (ι:=Nat) 2 (fun (k:Nat)=>(((((Fr.none).set 1 (.ptr 0 0)).set 4 (.own 1)).set 18 (.val (sl inT) t.ins)).set 19 (.val i64T (t.ins.length:Int))).set 20 (.val i64T (k:Int))) (fun (k:Nat)=>((Hp.none).set 0 (.box 101 txT t)).set 1 (.row 5 u8T (zmz t k))) (fun (k:Nat)=>k≤t.ins.length∧(zmz t k).length=33*k+1) (fun (k:Nat)=>t.ins.length-k) (0) (⟨uf _,by simp[zmz]⟩) ?_;intro k hinv;obtain⟨hk,hpl⟩:=hinv;have hinv:=And.intro hk hpl;refine qak ?_;refine Cf (p:=k<t.ins.length) (fun ht21=>?_) (fun ht21=>?_)
 ·
  obtain⟨x,hx⟩:∃x,t.ins[k]?=some x:=⟨_,ub ht21⟩;refine CSQBQR ?_;refine qcq ?_;refine zf rfl rfl rfl rfl rfl (Lens.self _) zc3 rfl ?_;refine CN ?_;refine aw_factb (n:=2) rfl fact_in (fun hx32=>?_);refine zx [some 1,some 1,some 1,none,some 2,some 2,some 2,some 2,none,some 1] mixed ye ?_;refine X0 mO ?_;refine X0 (oFp zgQ) ?_;refine X0 (zoB rfl rfl zjH rfl rfl) ?_;refine XK.e (fun fr' hfr kk H=>by exact zvQ rfl rfl rfl rfl ((hfr 24 ye).trans rfl) rfl ((hfr 26 ye).trans rfl) rfl zml zc4 (by show(_+x.tx.length)*1≤_∧_+x.tx.length≤_;omega) (zr H)) ?_;refine XK.g2 (zcI rfl rfl zdW rfl) (zcI rfl rfl zdW rfl) rfl rfl rfl ?_;refine XK.gb (t:=28) rfl rfl (fun _ he=>zz rfl rfl he zlB ty_3) rfl yB rfl rfl rfl ?_;refine XK.g2 (zii rfl (ui_5) (us_3) rfl) (zii rfl (ui_5) (us_3) rfl) rfl rfl rfl ?_;refine XK.g2 (zX (T:=u8T) (xs:=[_]) rfl zd3 zc4 yB rfl rfl) (zX (T:=u8T) (xs:=[_]) rfl zd3 zc4 yB rfl rfl) rfl rfl rfl ?_;refine XK.e (fun fr' hfr kk H=>by exact zF rfl rfl rfl rfl ((hfr 27 ye).trans rfl) rfl ((hfr 31 ye).trans rfl) zc4 (by simp only[ue,List.length_cons,List.length_nil,hx32];omega) (zr H)) ?_;refine X0 aO ?_;refine qaJ ?_;refine zaQ 4 1 5 rfl rfl rfl rfl rfl rfl ?_;refine zA (n:=1) rfl (zn9 hx).symm ?_;exact Nx (k+1) (⟨by omega,by rw[zn9 hx];simp only[ue,List.length_cons,List.length_nil,hx32];omega⟩) yc
 obtain rfl:k=t.ins.length:=yc;obtain⟨hli,_⟩:=hinv;refine CE ?_;refine qb6 ?_;refine A0 (oFp zeE) ?_;refine A0 (oLb zeJ znI) ?_;refine A0 (zW rfl rfl zib) ?_;refine A0 (zii rfl (ui_5) (us_3) rfl) ?_;refine qbn ?_;refine zF rfl rfl rfl rfl rfl rfl rfl zc4 (by simp only[ue,List.length_cons,List.length_nil];omega) ?_;refine A0 aO ?_;refine CNQQR ?_;refine A0 (oFp zeE) ?_;refine A0 (oLb zeJ znI) ?_;refine A0 (zW rfl rfl zib) ?_;refine qa2 ?_;refine zaQ 2 1 3 rfl rfl rfl rfl rfl rfl ?_;refine zA (y:=zgX t 0) (n:=1) rfl (by simp[zgX]) ?_;refine Lp (ι:=Nat) 2 (fun k=>((((Fr.none.set 1 (.ptr 0 0)).set 4 (.own 1)).set 42 (.val (sl outT) t.outs)).set 43 (.val i64T (t.outs.length:Int))).set 44 (.val i64T (k:Int))) (fun k=>(Hp.none.set 0 (.box 101 txT t)).set 1 (.row 5 u8T (zgX t k))) (fun k=>k≤t.outs.length∧(zgX t k).length=7*k+2+33*t.ins.length) (fun k=>t.outs.length-k) (0) (⟨uf _,by simp[zgX,hpl];omega⟩) ?_;intro k hinv;refine qak ?_;refine Cf (p:=k<t.outs.length) (fun ht45=>?_) (fun ht45=>?_)
 ·
  obtain⟨x,hx⟩:∃x,t.outs[k]?=some x:=⟨_,ub ht45⟩;refine CSQBQR ?_;refine qcp ?_;refine zf rfl rfl rfl rfl rfl (Lens.self _) zh9 rfl ?_;refine CN ?_;refine zx [some 1,some 1,some 1,some 1,some 1,none,some 2,some 2,some 2,some 2,none,some 1] mixed ye ?_;refine X0 mO ?_;refine X0 (oFp ze6) ?_;refine X0 (oLb zi9 ty_3) ?_;refine X0 (zjP rfl (znH) (us_3) rfl) ?_;refine X0 (oCl (zu (zlp _ 6 yp)) rfl zxa yl) ?_;refine XK.e (fun fr' hfr kk H=>by exact zF rfl rfl rfl rfl ((hfr 48 ye).trans rfl) rfl ((hfr 52 ye).trans rfl) zc4 (by simp only[ue,List.length_cons,List.length_nil,zJ];omega) (zr H)) ?_;refine XK.g2 (zcI rfl rfl zfO rfl) (zcI rfl rfl zfO rfl) rfl rfl rfl ?_;refine XK.gb (t:=54) rfl rfl (fun _ he=>zz rfl rfl he zjC ty_3) rfl yB rfl rfl rfl ?_;refine XK.g2 (zii rfl (ui_5) (us_3) rfl) (zii rfl (ui_5) (us_3) rfl) rfl rfl rfl ?_;refine XK.g2 (zX (T:=u8T) (xs:=[_]) rfl zd3 zc4 yB rfl rfl) (zX (T:=u8T) (xs:=[_]) rfl zd3 zc4 yB rfl rfl) rfl rfl rfl ?_;refine XK.e (fun fr' hfr kk H=>by exact zF rfl rfl rfl rfl ((hfr 53 ye).trans rfl) rfl ((hfr 57 ye).trans rfl) zc4 (by simp only[ue,List.length_cons,List.length_nil,zJ];omega) (zr H)) ?_;refine X0 aO ?_;refine qaJ ?_;refine zaQ 4 1 5 rfl rfl rfl rfl rfl rfl ?_;refine zA (n:=1) rfl (zmy hx).symm ?_;exact Nx (k+1) (⟨by omega,by rw[zmy hx];simp only[ue,List.length_cons,List.length_nil,zJ];omega⟩) yc
 refine CE ?_;refine qb6 ?_;refine qch ?_;exact zV rfl rfl (zh rfl rfl (by rw[ut hmay,show k=t.outs.length by omega];rfl)) (za rfl hmay.symm)
def rr (x:UInt32) (n:Int):UInt32:=rotl x (IntKind.i64.wrap (0-n))
def beWord (x0 x1 x2 x3:UInt8):UInt32:=shl32 (zkq (IntL.toI u8T x0)) 24|||shl32 (zkq (IntL.toI u8T x1)) 16|||shl32 (zkq (IntL.toI u8T x2)) 8|||zkq (IntL.toI u8T x3)
def zs9 (a b x y:UInt32):UInt32:=a+b+(rr x 7^^^rr x 18^^^zpy x 3)+(rr y 17^^^rr y 19^^^zpy y 10)
def zkA (b:List UInt8) (w:List UInt32) (i:Nat):List UInt32 :=
  if i<16 then w.set i (beWord (b.getD (4*i) default) (b.getD (4*i+1) default) (b.getD (4*i+2) default) (b.getD (4*i+3) default))
  else w.set i (zs9 (w.getD (i-16) default) (w.getD (i-7) default) (w.getD (i-15) default) (w.getD (i-2) default))
def zeO (b:List UInt8) (k:Nat):List UInt32:=(List.range k).foldl (zkA b) (List.replicate 64 0)
def roundX (v w:List UInt32) (i:Nat):UInt32:=v.getD 7 default+(rr (v.getD 4 default) 6^^^rr (v.getD 4 default) 11^^^rr (v.getD 4 default) 25)+((v.getD 4 default&&&v.getD 5 default)^^^(~~~ (v.getD 4 default)&&&v.getD 6 default))+shaK.getD i default+w.getD i default
def roundY (v:List UInt32):UInt32:=(rr (v.getD 0 default) 2^^^rr (v.getD 0 default) 13^^^rr (v.getD 0 default) 22)+((v.getD 0 default&&&v.getD 1 default)^^^(v.getD 0 default&&&v.getD 2 default)^^^(v.getD 1 default&&&v.getD 2 default))
def ztf (w v:List UInt32) (i:Nat):List UInt32:=[roundX v w i+roundY v,v.getD 0 default,v.getD 1 default,v.getD 2 default,v.getD 3 default+roundX v w i,v.getD 4 default,v.getD 5 default,v.getD 6 default]
def zmv (w s:List UInt32) (k:Nat):List UInt32:=(List.range k).foldl (ztf w) s
def sumN (v s:List UInt32) (k:Nat):List UInt32:=(List.range k).foldl (fun s i=>s.set i (s.getD i default+v.getD i default)) s
def addOf (s:List UInt32) (b:List UInt8):List UInt32:=sumN (zmv (zeO b 64) s 64) s 8
theorem zfj {α:Type} {f:α→Nat→α} {z:α} {k:Nat}:(List.range (k+1)).foldl f z=f ((List.range k).foldl f z) k:=by rw[List.range_succ,List.foldl_append];rfl
theorem sched_lo {b:List UInt8} {k:Nat} {x0 x1 x2 x3:UInt8} (hk:k<16) (h0:b[4*k]?=some x0) (h1:b[4*k+1]?=some x1) (h2:b[4*k+2]?=some x2) (h3:b[4*k+3]?=some x3):(zeO b k).set k (beWord x0 x1 x2 x3)=zeO b (k+1):=by
  unfold zeO;rw[zfj];unfold zkA;rw[ut hk];simp only[uq,h0,h1,h2,h3,Option.getD_some]
theorem sched_hi {b:List UInt8} {k:Nat} (hk:¬k<16):(zeO b k).set k (zs9 ((zeO b k).getD (k-16) default) ((zeO b k).getD (k-7) default) ((zeO b k).getD (k-15) default) ((zeO b k).getD (k-2) default))=zeO b (k+1):=by
  have e:zeO b (k+1)=zkA b (zeO b k) k:=zfj;rw[e];unfold zkA;rw[ur hk]
theorem zqg {w s:List UInt32} {k:Nat}:ztf w (zmv w s k) k=zmv w s (k+1):=zfj.symm
theorem sum_succ {v s:List UInt32} {k:Nat} {x:UInt32} (h:v[k]?=some x):(sumN v s k).set k ((sumN v s k).getD k default+x)=sumN v s (k+1):=by
  have e:sumN v s (k+1)=_:=zfj;rw[e];show _=(sumN v s k).set k ((sumN v s k).getD k default+v.getD k default);rw[uq (l:=v),h];rfl
theorem roundN_len {w s:List UInt32} (hs:s.length=8):∀k,(zmv w s k).length=8
  | 0=>hs
  | k+1=>by rw[←zqg];rfl
theorem add_ok (s:List UInt32) (b:List UInt8) (hb:b.length=64) (hs:s.length=8):zfr P 77 (.box 144 (arrT 8 yp u32T) s) [.ptr 0 0,.val (bsl u8T) b] (.lit (.tuple #[])) (.box 144 (arrT 8 yp u32T) (addOf s b)):=by
 refine zgo trivial Tryz.func77 rfl rfl ⟨Nat.one_pos,⟨trivial,trivial⟩⟩ (fun ext pg w hext hgr=>?_);refine ze (d:=1) rfl zk (fun hsl1=>?_);refine CQR ?_;refine zs zv0 rfl rfl rfl rfl ?_;refine CNQQR ?_;refine qa2 ?_;refine Lp (ι:=Nat) 2 (fun (k:Nat)=>((((Fr.none).set 0 (.ptr 0 0)).set 1 (.val (bsl u8T) b)).set 4 (.ptr 1 0)).set 17 (.val i64T (k:Int))) (fun (k:Nat)=>((Hp.none).set 0 (.box 144 (arrT 8 yp u32T) s)).set 1 (.box 233 (arrT 64 yp u32T) (zeO b k))) (fun (k:Nat)=>k≤64) (fun (k:Nat)=>64-k) (0) (uf _) ?_;intro k hinv;refine qak ?_;refine Cf (p:=k<64) (fun ht18=>?_) (fun ht18=>?_)
 ·
  refine qaE ?_;refine qaj ?_;refine qaY ?_;refine Cf (p:=k<16) (fun ht21=>?_) (fun ht21=>?_)
  ·
   obtain⟨x0,hx0⟩:∃x,b[4*k]?=some x:=yv;obtain⟨x1,hx1⟩:∃x,b[4*k+1]?=some x:=yv;obtain⟨x2,hx2⟩:∃x,b[4*k+2]?=some x:=yv;obtain⟨x3,hx3⟩:∃x,b[4*k+3]?=some x:=yv;refine CQ ?_;refine zx [some 1,some 1,some 1,some 1,some 1,some 1,some 1,some 1,some 1,some 1,some 1,some 1,some 1,some 1,some 1,some 1,some 1,some 1,some 1,some 1,some 1,some 1,some 1,some 1,some 1,some 1,some 1,some 1,some 1,some 1,some 1,some 1,some 1,some 1,some 1,none] mixed ye ?_;refine qcz ?_;refine X0 mV ?_;refine X0 zpG ?_;refine X0 (zK (i:=4*k) rfl rfl rfl yc zd3 yh) ?_;refine X0 (zg rfl rfl ty_5) ?_;refine X0 (ztQ rfl (zuI) (us_5) rfl) ?_;refine X0 (zrW rfl rfl rfl ym rfl) ?_;refine qcz ?_;refine X0 zpG ?_;refine X0 zdp ?_;refine X0 (zK (i:=4*k+1) rfl rfl rfl yc zd3 yh) ?_;refine X0 (zg rfl rfl ty_5) ?_;refine X0 (ztQ rfl (zuI) (us_5) rfl) ?_;refine X0 (zrW rfl rfl rfl ym rfl) ?_;refine X0 (zw0 rfl rfl rfl) ?_;refine qcz ?_;refine X0 zpG ?_;refine X0 zdp ?_;refine X0 (zK (i:=4*k+2) rfl rfl rfl yc zd3 yh) ?_;refine X0 (zg rfl rfl ty_5) ?_;refine X0 (ztQ rfl (zuI) (us_5) rfl) ?_;refine X0 (zrW rfl rfl rfl ym rfl) ?_;refine X0 (zw0 rfl rfl rfl) ?_;refine qcz ?_;refine X0 zpG ?_;refine X0 zdp ?_;refine X0 (zK (i:=4*k+3) rfl rfl rfl yc zd3 yh) ?_;refine X0 (zg rfl rfl ty_5) ?_;refine X0 (ztQ rfl (zuI) (us_5) rfl) ?_;refine X0 (zw0 rfl rfl rfl) ?_;refine X0 (zG (i:=k) rfl rfl rfl yn zlw yc) ?_;refine XK.e (x:=.idk) (fun fr' hfr kk H=>by exact zf rfl rfl rfl ((hfr 56 ye).trans rfl) rfl (Lens.elem (i:=k) yc u32T) zcj ((hfr 55 ye).trans rfl) (zr H)) ?_;refine xf ?_;refine CE ?_;refine CR ?_;refine qah ?_;refine zP (n:=1) rfl (sched_lo ht21 hx0 hx1 hx2 hx3) ?_;exact Nx (k+1) yc yc
  refine CS ?_;refine qaV ?_;refine G0 mV ?_;refine G0 zbb ?_;refine G0 (zG (i:=k-15) rfl rfl rfl yn zlw yc) ?_;refine G0 (zz rfl rfl rfl (Lens.elem (i:=k-15) yc u32T) zcj) ?_;refine G0 mV ?_;refine G0 zbb ?_;refine G0 (zG (i:=k-2) rfl rfl rfl yn zlw yc) ?_;refine G0 (zz rfl rfl rfl (Lens.elem (i:=k-2) yc u32T) zcj) ?_;refine G0 aV ?_;refine qaP ?_;refine zx [some 1,some 1,some 1,some 1,some 1,some 1,some 1,some 1,some 1,some 1,some 1,some 1,some 1,some 1,some 1,some 1,some 1,some 1,some 1,some 1,some 1,some 1,some 1,some 1,some 1,some 1,some 1,some 1,some 1,none] mixed ye ?_;refine qcz ?_;refine X0 zbb ?_;refine X0 (zG (i:=k-16) rfl rfl rfl yn zlw yc) ?_;refine X0 (zz rfl rfl rfl (Lens.elem (i:=k-16) yc u32T) zcj) ?_;refine X0 mV ?_;refine X0 zbb ?_;refine X0 (zG (i:=k-7) rfl rfl rfl yn zlw yc) ?_;refine X0 (zz rfl rfl rfl (Lens.elem (i:=k-7) yc u32T) zcj) ?_;refine X0 (zgm rfl rfl rfl) ?_;refine qci ?_;refine qci ?_;refine X0 (zgj rfl rfl rfl) ?_;refine X0 mV ?_;refine X0 (zoC rfl rfl rfl ym rfl) ?_;refine X0 (zgj rfl rfl rfl) ?_;refine X0 (zgm rfl rfl rfl) ?_;refine qci ?_;refine qci ?_;refine X0 (zgj rfl rfl rfl) ?_;refine X0 mV ?_;refine X0 (zoC rfl rfl rfl ym rfl) ?_;refine X0 (zgj rfl rfl rfl) ?_;refine X0 (zgm rfl rfl rfl) ?_;refine X0 (zG (i:=k) rfl rfl rfl yn zlw yc) ?_;refine XK.e (x:=.idk) (fun fr' hfr kk H=>by exact zf rfl rfl rfl ((hfr 93 ye).trans rfl) rfl (Lens.elem (i:=k) yc u32T) zcj ((hfr 92 ye).trans rfl) (zr H)) ?_;refine qaJ ?_;refine zP (n:=1) rfl (sched_hi ht21) ?_;exact Nx (k+1) yc yc
 obtain rfl:k=64:=yc;refine CE ?_;refine CQR ?_;refine A0 (oCl (numbers_ok) rfl fn_149 trivial) ?_;refine zs zv0 rfl rfl rfl rfl ?_;refine zf rfl rfl rfl rfl rfl (Lens.self _) ty_233 rfl ?_;refine CNQR ?_;refine qaN ?_;refine A0 (oLs rfl rfl rfl zwa) ?_;refine zs ze_144 rfl rfl rfl rfl ?_;refine zf rfl rfl rfl rfl rfl (Lens.self _) zwa rfl ?_;refine CNQQR ?_;refine qa2 ?_;refine Lp (ι:=Nat) 4 (fun k=>((((Fr.none.set 0 (.ptr 0 0)).set 4 (.ptr 1 0)).set 8 (.ptr 2 0)).set 9 (.ptr 3 0)).set 99 (.val i64T (k:Int))) (fun k=>(((Hp.none.set 0 (.box 144 (arrT 8 yp u32T) s)).set 1 (.box 233 (arrT 64 yp u32T) (zeO b 64))).set 2 (.box 233 (arrT 64 yp u32T) shaK)).set 3 (.box 144 (arrT 8 yp u32T) (zmv (zeO b 64) s k))) (fun k=>k≤64) (fun k=>64-k) (0) (uf _) ?_;intro k hinv;refine qak ?_;refine Cf (p:=k<64) (fun ht100=>?_) (fun ht100=>?_)
 ·
  refine qaE ?_;refine qbI ?_;refine G0 (zG (i:=0) rfl rfl rfl yn zek yc) ?_;refine G0 (zz rfl rfl rfl (Lens.elem (i:=0) yc u32T) zcj) ?_;refine G0 (zG (i:=4) rfl rfl rfl yn zek yc) ?_;refine G0 (zz rfl rfl rfl (Lens.elem (i:=4) yc u32T) zcj) ?_;refine G0 aV ?_;refine qaP ?_;refine qaV ?_;refine G0 (zG (i:=7) rfl rfl rfl yn zek yc) ?_;refine G0 (zz rfl rfl rfl (Lens.elem (i:=7) yc u32T) zcj) ?_;refine qbq ?_;refine qbq ?_;refine G0 (zgj rfl rfl rfl) ?_;refine qbq ?_;refine G0 (zgj rfl rfl rfl) ?_;refine G0 (zgm rfl rfl rfl) ?_;refine G0 mV ?_;refine G0 (zG (i:=5) rfl rfl rfl yn zek yc) ?_;refine G0 (zz rfl rfl rfl (Lens.elem (i:=5) yc u32T) zcj) ?_;refine G0 (zl6 rfl rfl rfl) ?_;refine G0 mV ?_;refine G0 (g_not32 rfl rfl) ?_;refine G0 (zG (i:=6) rfl rfl rfl yn zek yc) ?_;refine G0 (zz rfl rfl rfl (Lens.elem (i:=6) yc u32T) zcj) ?_;refine G0 (zl6 rfl rfl rfl) ?_;refine G0 (zgj rfl rfl rfl) ?_;refine G0 (zgm rfl rfl rfl) ?_;refine G0 mV ?_;refine G0 (zG (i:=k) rfl rfl rfl yn zlw yc) ?_;refine G0 (zz rfl rfl rfl (Lens.elem (i:=k) yc u32T) zcj) ?_;refine G0 (zgm rfl rfl rfl) ?_;refine G0 mV ?_;refine G0 (zG (i:=k) rfl rfl rfl yn zlw yc) ?_;refine G0 (zz rfl rfl rfl (Lens.elem (i:=k) yc u32T) zcj) ?_;refine G0 (zgm rfl rfl rfl) ?_;refine qaP ?_;refine qaV ?_;refine qbq ?_;refine qbq ?_;refine G0 (zgj rfl rfl rfl) ?_;refine qbq ?_;refine G0 (zgj rfl rfl rfl) ?_;refine G0 mV ?_;refine G0 (zG (i:=1) rfl rfl rfl yn zek yc) ?_;refine G0 (zz rfl rfl rfl (Lens.elem (i:=1) yc u32T) zcj) ?_;refine G0 (zl6 rfl rfl rfl) ?_;refine G0 mV ?_;refine G0 (zG (i:=2) rfl rfl rfl yn zek yc) ?_;refine G0 (zz rfl rfl rfl (Lens.elem (i:=2) yc u32T) zcj) ?_;refine G0 (zl6 rfl rfl rfl) ?_;refine G0 (zgj rfl rfl rfl) ?_;refine G0 (zG (i:=1) rfl rfl rfl yn zek yc) ?_;refine G0 (zz rfl rfl rfl (Lens.elem (i:=1) yc u32T) zcj) ?_;refine G0 (zG (i:=2) rfl rfl rfl yn zek yc) ?_;refine G0 (zz rfl rfl rfl (Lens.elem (i:=2) yc u32T) zcj) ?_;refine G0 (zl6 rfl rfl rfl) ?_;refine G0 (zgj rfl rfl rfl) ?_;refine G0 (zgm rfl rfl rfl) ?_;refine qaP ?_;refine CR ?_;refine qao ?_;refine A0 (zgm rfl rfl rfl) ?_;refine qax ?_;refine A0 (zG (i:=1) rfl rfl rfl yn zek yc) ?_;refine A0 (zz rfl rfl rfl (Lens.elem (i:=1) yc u32T) zcj) ?_;refine A0 (zG (i:=2) rfl rfl rfl yn zek yc) ?_;refine A0 (zz rfl rfl rfl (Lens.elem (i:=2) yc u32T) zcj) ?_;refine A0 (zG (i:=3) rfl rfl rfl yn zek yc) ?_;refine A0 (zz rfl rfl rfl (Lens.elem (i:=3) yc u32T) zcj) ?_;refine qax ?_;refine A0 (zgm rfl rfl rfl) ?_;refine qax ?_;refine A0 (zG (i:=5) rfl rfl rfl yn zek yc) ?_;refine A0 (zz rfl rfl rfl (Lens.elem (i:=5) yc u32T) zcj) ?_;refine A0 (zG (i:=6) rfl rfl rfl yn zek yc) ?_;refine A0 (zz rfl rfl rfl (Lens.elem (i:=6) yc u32T) zcj) ?_;refine A0 (zji (T:=u32T) (xs:=[_,_,_,_,_,_,_,_]) rfl zek ze_144 yaB rfl) ?_;refine zf rfl rfl rfl rfl rfl (Lens.self _) zwa rfl ?_;refine qbh ?_;refine zP (n:=3) rfl zqg ?_;exact Nx (k+1) yc yc
 obtain rfl:k=64:=yc;refine CE ?_;refine CQR ?_;refine A0 (oLs rfl rfl rfl zwa) ?_;refine qa2 ?_;refine Lp (ι:=Nat) 1 (fun (k:Nat)=>(((Fr.none).set 0 (.ptr 0 0)).set 179 (.val (arrT 8 yp u32T) (zmv (zeO b 64) s 64))).set 180 (.val i64T (k:Int))) (fun (k:Nat)=>(Hp.none).set 0 (.box 144 (arrT 8 yp u32T) (sumN (zmv (zeO b 64) s 64) s k))) (fun (k:Nat)=>k≤8) (fun (k:Nat)=>8-k) (0) (uf _) ?_;intro k hinv;refine qak ?_;refine Cf (p:=k<8) (fun ht181=>?_) (fun ht181=>?_)
 ·
  obtain⟨x,hx⟩:∃x,(zmv (zeO b 64) s 64)[k]?=some x:=⟨_,ub (by rw[roundN_len hs];exact ht181)⟩;refine qaE ?_;refine A0 (ziO rfl rfl rfl rfl zek zcj yh) ?_;refine qbA ?_;refine xo ?_;refine X0 mP ?_;refine X0 mV ?_;refine xh ?_;refine X0 (zG (i:=k) rfl rfl rfl yn zek yc) ?_;refine X0 (zz rfl rfl rfl (Lens.elem (i:=k) yc u32T) zcj) ?_;refine X0 mV ?_;refine X0 (zgm rfl rfl rfl) ?_;refine xh ?_;refine X0 (zG (i:=k) rfl rfl rfl yn zek yc) ?_;refine XK.e (x:=.idk) (fun fr' hfr kk H=>by exact zf rfl rfl rfl ((hfr 192 ye).trans rfl) rfl (Lens.elem (i:=k) yc u32T) zcj ((hfr 190 ye).trans rfl) (zr H)) ?_;refine qaJ ?_;refine zP (n:=0) rfl (sum_succ hx) ?_;exact Nx (k+1) yc yc
 obtain rfl:k=8:=yc;refine CE ?_;exact zus rfl rfl rfl rfl rfl (zcc rfl rfl)
theorem padOf_len (b:List UInt8):(zfv b).length=64*((b.length+padZ b.length+9)/64):=by
  have h:(zfv b).length=b.length+padZ b.length+9:=by
    unfold zfv;rw[ue,zkN];unfold zB;simp;omega
  rw[h];unfold padZ;omega
def shaH:List UInt32:=[1779033703,3144134277,1013904242,2773480762,1359893119,2600822924,528734635,1541459225]
def shaN (p:List UInt8) (n:Nat):List UInt32:=(List.range n).foldl (fun s i=>addOf s ((p.take (64*i+64)).drop (64*i))) shaH
def zwd (b:List UInt8):List UInt32:=shaN (zfv b) ((zfv b).length/64)
def znV (v:List UInt32) (i:Nat):UInt8:=zcl (IntL.toI u32T (zpy (v.getD (i/4) default) (24-8*(i%4))))
def zco (b:List UInt8):Ab.Id:=(List.range 32).map (znV (zwd b))
def znU (v:List UInt32) (k:Nat):Ab.Id:=(List.range k).foldl (fun l i=>l.set i (znV v i)) zId
theorem ziQ {α:Type} (f:Nat→α) (l:List α):∀k j,((List.range k).foldl (fun l i=>l.set i (f i)) l)[j]?=if j<k∧j<l.length then some (f j) else l[j]?
  | 0,j=>by simp
  | k+1,j=>by
    rw[List.range_succ,List.foldl_append];show(List.set _ k (f k))[j]?=_;have hl:∀k,((List.range k).foldl (fun l i=>l.set i (f i)) l).length=l.length:=fun k=>by
      induction k with
      | zero=>rfl
      | succ k ih=>rw[List.range_succ,List.foldl_append];simp only[List.foldl_cons,List.foldl_nil,List.length_set];exact ih
    rw[List.getElem?_set,ziQ f l k j,hl];by_cases c:k=j
    · subst c
      by_cases d:k<l.length
      · simp[d]
      simp[d]
    rw[ur c];by_cases d:j<k
    · have:j<k+1:=by omega
      simp[d,this]
    have:¬j<k+1:=yc
    simp[d,this]
theorem shaOut_all (v:List UInt32):znU v 32=(List.range 32).map (znV v):=by
  apply List.ext_getElem?;intro j;unfold znU;rw[ziQ,List.getElem?_map];have hz:zId.length=32:=rfl;rw[hz];by_cases c:j<32
  · rw[ut ⟨c,c⟩,List.getElem?_range c];rfl
  rw[ur (fun h=>c h.1),List.getElem?_eq_none (by first|(rw[hz];omega)|(rw[List.length_range];omega)),List.getElem?_eq_none (by first|(rw[hz];omega)|(rw[List.length_range];omega))];rfl
theorem zuT {v:List UInt32} {k:Nat} {x:UInt8} (h:x=znV v k):(znU v k).set k x=znU v (k+1):=by
  subst h;unfold znU;rw[List.range_succ,List.foldl_append];rfl
theorem zs6 {p:List UInt8} {k:Nat}:addOf (shaN p k) ((p.take (64*k+64)).drop (64*k))=shaN p (k+1):=by
  unfold shaN;rw[List.range_succ,List.foldl_append];rfl
theorem zwb {v s:List UInt32}:∀k,(sumN v s k).length=s.length
  | 0=>rfl
  | k+1=>by
    unfold sumN;rw[List.range_succ,List.foldl_append];simp only[List.foldl_cons,List.foldl_nil,List.length_set];exact zwb k
theorem zwe (p:List UInt8):∀k,(shaN p k).length=8
  | 0=>rfl
  | k+1=>by rw[←zs6];unfold addOf;rw[zwb];exact zwe p k
theorem zp1 (b:List UInt8) (hb:b.length≤70368744177664):Tells P 25 [.val (sl u8T) b] (.val idT (zco b)):=by
 obtain⟨m,hm⟩:∃m,m=(b.length+padZ b.length+9)/64:=⟨_,rfl⟩;have hz2:padZ b.length<64:=by unfold padZ;omega
 have hpl:(zfv b).length=64*m:=by rw[padOf_len,hm]
 have hmb:m≤2000000000000:=yc;refine zc Tryz.func25 rfl rfl rfl (fun ext w hext=>?_);refine ze (d:=0) rfl zk (fun hsl0=>?_);refine qcf ?_;refine A0 (zji (T:=u32T) (xs:=[_,_,_,_,_,_,_,_]) rfl zek ze_144 yaB rfl) ?_;refine xb ?_;refine zf2 zp_142 rfl rfl rfl rfl rfl rfl ?_;refine zZ rfl rfl rfl rfl rfl rfl rfl rfl rfl rfl zsV ?_;refine qbg ?_;refine A0 (oCl (zu (pad_ok b hb)) rfl fn_76 yf) ?_;refine zU rfl rfl rfl rfl Tryz.func75 fn_75 rfl rfl (fun ia2 iok2=>?_);refine qay ?_;refine A0 aL ?_;refine CNQQR ?_;refine A0 (oLs rfl rfl rfl ty_3) ?_;refine qaY ?_;refine ze1 rfl yp ?_;refine CSQR ?_;refine xp ?_;refine A0 aC ?_;refine CN ?_;refine zbn rfl ?_;refine CNB ?_;refine zh2 rfl rfl rfl Tryz.func147 fn_147 rfl rfl yM (fun fid3 ca3 lN3 DN3 cok3 rc3 hrc3=>?_);refine CQR ?_;refine qc7 ?_;refine Lp (ι:=Nat) 7 (fun (k:Nat)=>((((Fr.none).set 0 (.lit (.func (.yield lN3) #[] #[]))).set 1 (.ptr 3 0)).set 2 (.ptr 4 0)).set 4 (.val i64T ((64*k:Nat):Int))) (fun (k:Nat)=>(((((((Hp.none).set 0 (.box 49 idT zId)).set 1 (.box 144 (arrT 8 yp u32T) (shaN (zfv b) k))).set 2 (.parts 142 [.ptr 1 0])).set 3 (.box 22 (sl u8T) (zfv b))).set 4 (.box 3 i64T 64)).set 5 (.objAt DN3 (.deferred (some [])))).set 6 (.objAt lN3 (rc3 .ready none))) (fun (k:Nat)=>k≤m) (fun (k:Nat)=>m-k) (0) (uf _) ?_;intro k hinv;refine qb1 ?_;refine xq ?_;refine xn ?_;refine qaY ?_;refine Cf (p:=64*k<(zfv b).length) (fun ht9=>?_) (fun ht9=>?_)
 ·
  refine qcl ?_;refine CB ?_;refine qaV ?_;refine G0 (oLs rfl rfl rfl ty_3) ?_;refine G0 (oLs rfl rfl rfl zbi) ?_;refine G0 mV ?_;refine G0 (zhi rfl rfl rfl zd3 yg) ?_;refine G0 (zW rfl rfl zc8) ?_;refine G0 (g_min rfl rfl rfl) ?_;refine qaP ?_;refine zj (d:=5) (y:=(64:Int)) rfl yx ?_;refine CQR ?_;refine A0 mL ?_;refine xq ?_;refine qao ?_;refine qbb ?_;refine qao ?_;refine A0 zdp ?_;refine A0 (zwZ rfl rfl rfl rfl rfl zd3 yx) ?_;refine zj (d:=28) (y:=((zfv b).take (64*k+64)).drop (64*k)) rfl (by congr 1) ?_;refine zh1 (nL:=6) rfl rfl rfl rfl rfl hrc3 rfl rfl rfl (fun ya4 yok4=>?_);refine CR ?_;refine qad ?_;refine zh5 (nL:=6) hrc3 rfl ?_;refine CB ?_;refine CR ?_;refine A0 ybK ?_;refine qax ?_;refine zgT (add_ok (shaN (zfv b) k) (((zfv b).take (64*k+64)).drop (64*k)) (by rw[List.length_drop,um];omega) (zwe _ k)) rfl fn_77 rfl trivial trivial rfl ybR rfl rfl rfl ?_;refine CN ?_;refine CI ?_;refine zde (nL:=6) hrc3 rfl ?_;refine qaL ?_;refine Cg ?_;refine CSIR ?_;refine qax ?_;refine A0 (oLs rfl rfl rfl ty_3) ?_;refine A0 zdp ?_;refine qad ?_;refine zj (d:=4) (y:=((64*(k+1):Nat):Int)) rfl yc ?_;refine zP (n:=1) (y:=shaN (zfv b) (k+1)) rfl zs6 ?_;exact Nx (k+1) yc yc
 obtain rfl:m=k:=yc;refine CE ?_;refine zei (nL:=6) rfl hrc3 rfl yp ?_;refine CI ?_;refine CQR ?_;refine qaM ?_;refine CNQQR ?_;refine qa2 ?_;refine Lp (ι:=Nat) 8 (fun (j:Nat)=>((((Fr.none).set 2 (.ptr 0 0)).set 3 (.ptr 2 0)).set 5 (.ptr 7 0)).set 16 (.val i64T (j:Int))) (fun (j:Nat)=>(((((Hp.none).set 0 (.box 49 idT zId)).set 1 (.box 144 (arrT 8 yp u32T) (shaN (zfv b) m))).set 2 (.parts 142 [.ptr 1 0])).set 5 (.objAt DN3 (.deferred (some [])))).set 7 (.box 49 idT (znU (shaN (zfv b) m) j))) (fun (j:Nat)=>j≤32) (fun (j:Nat)=>32-j) (0) (uf _) ?_;intro j hinv;refine qak ?_;refine Cf (p:=j<32) (fun ht17=>?_) (fun ht17=>?_)
 ·
  refine qaE ?_;refine qc5 ?_;refine qax ?_;refine A0 ybK ?_;refine qax ?_;refine qbV ?_;refine xc ?_;refine A0 (zG (i:=j/4) rfl rfl rfl yn zek yc) ?_;refine A0 (zz rfl rfl rfl (Lens.elem (i:=j/4) yc u32T) zcj) ?_;refine qax ?_;refine qb0 ?_;refine A0 zpG ?_;refine A0 zbb ?_;refine A0 (zoC rfl rfl rfl ym rfl) ?_;refine A0 (zii rfl (ui_5) (us_53) rfl) ?_;refine A0 (zG (i:=j) rfl rfl rfl yn zjH yc) ?_;refine zf rfl rfl rfl rfl rfl (Lens.elem (i:=j) yc u8T) ty_5 rfl ?_;refine qbh ?_;refine zP (n:=7) (y:=znU (shaN (zfv b) m) (j+1)) rfl (zuT (by unfold znV;congr 3;simp only[IntL.toI,id_eq];omega)) ?_;exact Nx (j+1) yc yc
 obtain rfl:j=32:=yc;refine CE ?_;refine CQR ?_;refine qb2 ?_;refine qau ?_;refine CN ?_;refine zap (zbD (nD:=5) rfl rfl rfl ?_);exact zst rfl rfl rfl rfl zaj (by rw[shaOut_all];unfold zco zwd;rw[hpl,Nat.mul_div_cancel_left m yp])
def idOf (t:Tx):Ab.Id:=if zeU t=true then zco ([6]++putTx t) else zId
theorem zeT {α:Type} {T:GoT α} {U N:Nat→Prop} {w:World}:∀{l:List α} {cs:List Value},zak T U N w l cs→∀x∈l,∃c,T.rel U N w x c
  | [],_,_,x,hx=>by cases hx
  | y::l,_,⟨c1,c2,_,h1,h2⟩,x,hx=>by
    rcases List.mem_cons.1 hx with e|e
    · exact⟨c1,e▸h1⟩
    exact zeT h2 x e
theorem fact_tx {t:Tx} {ρ:Nat→Value} {B:Nat→Prop} {U N:Nat→Prop} {w:World} {v:Value} (h:(AV.val txT t).rel ρ B U N w v):∀x∈t.ins,x.tx.length=32:=fun x hx=>by
  obtain⟨cs,⟨c1,c2,_,⟨ad,cap,_,_,_,h3⟩,_⟩,_⟩:=h;obtain⟨_,ds,_,_,hr,_⟩:=h3 (List.ne_nil_of_mem hx);obtain⟨c,hc⟩:=zeT hr x hx;exact fact_in hc
theorem zhO {α β:Type} {f:α→List β} {n:Nat}:∀{l:List α},(∀x∈l,(f x).length=n)→(l.map f).flatten.length=l.length*n
  | [],_=>by simp
  | x::l,h=>by
    rw[List.map_cons,List.flatten_cons,ue,h x yy,zhO (fun y hy=>h y ybl),List.length_cons,Nat.add_mul];omega
theorem putTx_len {t:Tx} (h:zeU t=true) (h32:∀x∈t.ins,x.tx.length=32):(putTx t).length≤200:=by
  obtain⟨h1,_,h2⟩:=zfW h;unfold putTx zgX zmz;have e1:=zhO (f:=putIn) (n:=33) (l:=t.ins.take t.ins.length) (fun x hx=>by
    rw[List.take_length] at hx;unfold putIn;rw[ue,h32 x hx];rfl)
  have e2:=zhO (f:=zwp) (n:=7) (l:=t.outs.take t.outs.length) (fun x hx=>by
    unfold zwp;rw[ue,zJ];rfl)
  rw[List.take_length] at e1 e2;simp only[ue,List.length_cons,List.length_nil,List.take_length,e1,e2];omega
theorem of_ok (ls:List (List UInt8)) (hl:ls.flatten.length≤70368744177664):Tells P 70 [.val (bsl (bsl u8T)) ls] (.val idT (zco ls.flatten)):=by
 refine zc Tryz.func70 rfl rfl rfl (fun ext w hext=>?_);refine ze (d:=0) rfl zk (fun hsl0=>?_);refine qcf ?_;refine qax ?_;refine A0 (oCl (zu (zgs ls yc)) rfl zoI yf) ?_;refine A0 (oCl (zp1 ls.flatten hl) rfl fn_25 yf) ?_;refine qau ?_;refine CN ?_;exact zag rfl rfl rfl rfl zaj (rfl)
theorem id_ok (t:Tx):Tells P 44 [.val txT t] (.val idT (idOf t)):=by
 refine zc Tryz.func44 rfl rfl rfl (fun ext w hext=>?_);refine ze (d:=0) rfl fact_tx (fun h32=>?_);refine qae ?_;refine qaM ?_;refine CNQR ?_;refine qcu ?_;refine A0 (oCl (zcn (put_ok t)) rfl fn_100 yf) ?_;refine qbi ?_;refine A0 aV ?_;refine qaj ?_;refine qaL ?_;refine zn (p:=¬zeU t=true) rfl yy (fun ht11=>?_) (fun ht11=>?_)
 ·
  refine CQR ?_;refine A0 (zhN rfl zjH zq8 rfl) ?_;refine qau ?_;refine CN ?_;exact zag rfl rfl rfl rfl zaj (by unfold idOf;rw[ur ht11])
 refine zj (d:=3) rfl (ut (ua ht11)) ?_;refine CSQR ?_;refine qbn ?_;refine qax ?_;refine A0 (zX (T:=(sl u8T)) (xs:=[_,_]) rfl zeN zep y4 rfl rfl) ?_;refine A0 (oCl (of_ok [[6],putTx t] (by have:=putTx_len (ua ht11) h32;simp;omega)) rfl fn_70 yf) ?_;refine qau ?_;refine CN ?_;exact zag rfl rfl rfl rfl zaj (by unfold idOf;rw[ut (ua ht11)];simp)
theorem zpd:∀{a b:List UInt8},Lib.compareBytes a b=0↔a=b
  | [],[]=>by simp[Lib.compareBytes]
  | [],_::_=>by simp[Lib.compareBytes]
  | _::_,[]=>by simp[Lib.compareBytes]
  | x::a,y::b=>by
    unfold Lib.compareBytes;by_cases h1:x<y
    · rw[ut h1]
      constructor
      · intro h;omega
      intro h;injection h with h _;subst h;exact absurd h1 (UInt8.lt_irrefl _)
    rw[ur h1];by_cases h2:y<x
    · rw[ut h2]
      constructor
      · intro h;omega
      intro h;injection h with h _;subst h;exact absurd h2 (UInt8.lt_irrefl _)
    rw[ur h2];have e:x=y:=UInt8.le_antisymm (UInt8.not_lt.1 h2) (UInt8.not_lt.1 h1);subst e;rw[zpd (a:=a) (b:=b)];simp
theorem cb_neg:∀{a b:List UInt8},Lib.compareBytes b a = -Lib.compareBytes a b
  | [],[]=>by simp[Lib.compareBytes]
  | [],_::_=>by simp[Lib.compareBytes]
  | _::_,[]=>by simp[Lib.compareBytes]
  | x::a,y::b=>by
    unfold Lib.compareBytes;by_cases h1:x<y
    · have h2:¬y<x:=fun h=>UInt8.lt_irrefl _ (UInt8.lt_trans h1 h)
      simp[h1,h2]
    by_cases h2:y<x
    · simp[h1,h2]
    simp only[ur h1,ur h2];exact cb_neg
theorem zxx:∀{a b c:List UInt8},Lib.compareBytes a b<0→Lib.compareBytes b c<0→Lib.compareBytes a c<0
  | [],[],_,h,_=>by simp[Lib.compareBytes] at h
  | _::_,[],_,h,_=>by simp[Lib.compareBytes] at h
  | _,_::_,[],_,h=>by simp[Lib.compareBytes] at h
  | [],_::_,_::_,_,_=>by simp[Lib.compareBytes]
  | x::a,y::b,z::c,h,k=>by
    unfold Lib.compareBytes at h k ⊢;by_cases h1:x<y
    · by_cases k1:y<z
      · rw[ut (UInt8.lt_trans h1 k1)];omega
      rw[ur k1] at k;by_cases k2:z<y
      · rw[ut k2] at k;omega
      have e:y=z:=UInt8.le_antisymm (UInt8.not_lt.1 k2) (UInt8.not_lt.1 k1);subst e;rw[ut h1];omega
    rw[ur h1] at h;by_cases h2:y<x
    · rw[ut h2] at h;omega
    rw[ur h2] at h;have e:x=y:=UInt8.le_antisymm (UInt8.not_lt.1 h2) (UInt8.not_lt.1 h1);subst e;by_cases k1:x<z
    · rw[ut k1];omega
    rw[ur k1] at k ⊢;by_cases k2:z<x
    · rw[ut k2] at k;omega
    rw[ur k2] at k ⊢;exact zxx h k
theorem znk (a b:In):zbj a b=if Lib.compareBytes a.tx b.tx=0 then zjT a.i b.i else Lib.compareBytes a.tx b.tx:=by
  unfold zbj;simp only[orL];by_cases h:Lib.compareBytes a.tx b.tx=0
  · rw[ut h,ut h]
    split<;>simp_all
  rw[ur h,ur h]
theorem zvB {x y:Int}:zjT x y=0↔x=y:=by unfold zjT;split<;>(try split)<;>omega
theorem zdo {a b:In}:zbj a b=0↔a=b:=by
  rw[znk];by_cases h:Lib.compareBytes a.tx b.tx=0
  · rw[ut h,zvB]
    have:=zpd.1 h
    cases a;cases b;simp_all
  rw[ur h]
  constructor
  · intro e;exact absurd e h
  intro e;subst e;exact absurd (zpd.2 rfl) h
theorem zdO (a b:In):zbj b a = -zbj a b:=by
  rw[znk,znk,cb_neg (a:=a.tx) (b:=b.tx)];by_cases h:Lib.compareBytes a.tx b.tx=0
  · rw[ut h,ut yc]
    unfold zjT;split<;>split<;>(try split)<;>omega
  rw[ur h,ur yc]
theorem zgh {a b c:In} (h:zbj a b<0) (k:zbj b c<0):zbj a c<0:=by
  rw[znk] at h k ⊢;by_cases h1:Lib.compareBytes a.tx b.tx=0
  · rw[ut h1] at h
    have e:=zpd.1 h1;rw[e];by_cases k1:Lib.compareBytes b.tx c.tx=0
    · rw[ut k1] at k ⊢
      unfold zjT at *;split at h<;>split at k<;>(try split at h)<;>(try split at k)<;>split<;>(try split)<;>omega
    rw[ur k1] at k ⊢;exact k
  rw[ur h1] at h;by_cases k1:Lib.compareBytes b.tx c.tx=0
  · have e:=zpd.1 k1
    rw[←e,ur h1];exact h
  rw[ur k1] at k
  have:=zxx h k
  rw[ur yc];exact this
def sortL_ren:Go.Shelf.Ren:=⟨fun|6=>288|15=>169|14=>334|28=>223|29=>224|20=>363|21=>364|22=>365|23=>366|24=>367|25=>368|26=>369|27=>370|46=>381|47=>355|48=>356|49=>382|50=>383|57=>387|n=>n,fun|22=>61|24=>293|25=>373|3=>3|39=>234|0=>0|53=>53|55=>50|4=>4|46=>384|45=>383|50=>167|5=>5|9=>9|66=>403|70=>407|76=>418|77=>126|n=>n,fun|n=>n⟩
theorem sortL:Go.Proofs.SlLaysF0.n6 P sortL_ren:={
  mixed:=by kernel_rfl,
  f6:=⟨Tryz.f288.name,by decide,Tryz.func288.trans (congrArg some yr)⟩,
  f14:=⟨Tryz.f334.name,by decide,Tryz.func334.trans (congrArg some yr)⟩,
  f15:=Tryz.func169.trans (congrArg some yr),
  f20:=⟨Tryz.f363.name,by decide,Tryz.func363.trans (congrArg some yr)⟩,
  f21:=⟨Tryz.f364.name,by decide,Tryz.func364.trans (congrArg some yr)⟩,
  f22:=⟨Tryz.f365.name,by decide,Tryz.func365.trans (congrArg some yr)⟩,
  f23:=⟨Tryz.f366.name,by decide,Tryz.func366.trans (congrArg some yr)⟩,
  f24:=⟨Tryz.f367.name,by decide,Tryz.func367.trans (congrArg some yr)⟩,
  f25:=⟨Tryz.f368.name,by decide,Tryz.func368.trans (congrArg some yr)⟩,
  f26:=⟨Tryz.f369.name,by decide,Tryz.func369.trans (congrArg some yr)⟩,
  f27:=⟨Tryz.f370.name,by decide,Tryz.func370.trans (congrArg some yr)⟩,
  f28:=Tryz.func223.trans (congrArg some yr),
  f29:=Tryz.func224.trans (congrArg some yr),
  f46:=⟨Tryz.f381.name,by decide,Tryz.func381.trans (congrArg some yr)⟩,
  f47:=Tryz.func355.trans (congrArg some yr),
  f48:=Tryz.func356.trans (congrArg some yr),
  f49:=⟨Tryz.f382.name,by decide,Tryz.func382.trans (congrArg some yr)⟩,
  f50:=⟨Tryz.f383.name,by decide,Tryz.func383.trans (congrArg some yr)⟩,
  f57:=⟨Tryz.f387.name,by decide,Tryz.func387.trans (congrArg some yr)⟩,
  t0:=Tryz.underlying0,
  a0:=Tryz.isAgg0,
  z0:=Tryz.sizeOf0,
  v0:=Tryz.zeroValue0,
  t3:=Tryz.underlying3,
  a3:=Tryz.isAgg3,
  z3:=Tryz.sizeOf3,
  v3:=Tryz.zeroValue3,
  t4:=Tryz.underlying4,
  a4:=Tryz.isAgg4,
  z4:=Tryz.sizeOf4,
  v4:=Tryz.zeroValue4,
  t5:=Tryz.underlying5,
  a5:=Tryz.isAgg5,
  z5:=Tryz.sizeOf5,
  v5:=Tryz.zeroValue5,
  t9:=Tryz.underlying9,
  a9:=Tryz.isAgg9,
  z9:=Tryz.sizeOf9,
  v9:=Tryz.zeroValue9,
  t22:=Tryz.underlying61,
  a22:=Tryz.isAgg61,
  z22:=Tryz.sizeOf61,
  v22:=Tryz.zeroValue61,
  t25:=Tryz.underlying373,
  a25:=Tryz.isAgg373,
  z25:=Tryz.sizeOf373,
  v25:=Tryz.zeroValue373,
  t39:=Tryz.underlying234,
  a39:=Tryz.isAgg234,
  z39:=Tryz.sizeOf234,
  v39:=Tryz.zeroValue234,
  t45:=Tryz.underlying383,
  a45:=Tryz.isAgg383,
  z45:=Tryz.sizeOf383,
  v45:=Tryz.zeroValue383,
  t46:=Tryz.underlying384,
  a46:=Tryz.isAgg384,
  z46:=Tryz.sizeOf384,
  v46:=Tryz.zeroValue384,
  t50:=Tryz.underlying167,
  a50:=Tryz.isAgg167,
  z50:=Tryz.sizeOf167,
  v50:=Tryz.zeroValue167,
  t53:=Tryz.underlying53,
  a53:=Tryz.isAgg53,
  z53:=Tryz.sizeOf53,
  v53:=Tryz.zeroValue53,
  t55:=Tryz.underlying50,
  a55:=Tryz.isAgg50,
  z55:=Tryz.sizeOf50,
  v55:=Tryz.zeroValue50,
  t66:=Tryz.underlying403,
  a66:=Tryz.isAgg403,
  z66:=Tryz.sizeOf403,
  v66:=Tryz.zeroValue403,
  t70:=Tryz.underlying407,
  a70:=Tryz.isAgg407,
  z70:=Tryz.sizeOf407,
  v70:=Tryz.zeroValue407,
  t76:=Tryz.underlying418,
  a76:=Tryz.isAgg418,
  z76:=Tryz.sizeOf418,
  v76:=Tryz.zeroValue418,
  t77:=Tryz.underlying126,
  a77:=Tryz.isAgg126,
  z77:=Tryz.sizeOf126,
  v77:=Tryz.zeroValue126 }
def Apart (l:List Coin):Prop:=l.Pairwise fun a b=>zbj a.inn b.inn≠0
def zkw (l:List Coin):List Coin:=l.mergeSort fun a b=>decide (zbj a.inn b.inn≤0)
def ztY (l:Ab.Id):List Value:=l.map fun b=>.int .u8 b.toNat
def zoV (c:Coin):List Value:=ztY c.inn.tx++[.int .i64 c.inn.i,.int .i64 c.out.v,.int .i64 c.out.to]
def okCoin (c:Coin):Prop:=c.inn.tx.length=32∧IntKind.InR .i64 c.inn.i∧IntKind.InR .i64 c.out.v∧IntKind.InR .i64 c.out.to
theorem flat_u8:Flat1 u8T (fun b=>[.int .u8 b.toNat]) (fun _=>True):=fun _ _ _ _ _=>Iff.rfl
theorem flat_id:Flat1 idT ztY (fun l=>l.length=32):=fun U N w l cs=>by
  show(l.length=32∧zak u8T U N w l cs)↔_;rw[zhP flat_u8];have e:(l.map fun b:UInt8=>[Value.int .u8 b.toNat]).flatten=ztY l:=by
    unfold ztY
    induction l with
    | nil=>rfl
    | cons x l ih=>rw[List.map_cons,List.flatten_cons,ih];rfl
  rw[e];exact⟨fun h=>⟨h.2.1,h.1⟩,fun h=>⟨h.2,h.1,fun _ _=>trivial⟩⟩
theorem flat_coin:Flat1 zbm zoV okCoin:=fun U N w c cs=>by
  constructor
  · rintro ⟨c1,c2,rfl,⟨d1,d2,rfl,h1,h2⟩,⟨d3,d4,rfl,h3,h4⟩⟩
    obtain⟨rfl,k1⟩:=(flat_id _ _ _ _ _).1 h1;obtain⟨rfl,k2⟩:=h2;obtain⟨rfl,k3⟩:=h3;obtain⟨rfl,k4⟩:=h4;exact⟨by simp[zoV],k1,k2,k3,k4⟩
  rintro ⟨rfl,k1,k2,k3,k4⟩
  exact⟨ztY c.inn.tx++[.int .i64 c.inn.i],[.int .i64 c.out.v,.int .i64 c.out.to],by simp[zoV],⟨ztY c.inn.tx,[.int .i64 c.inn.i],rfl,(flat_id _ _ _ _ _).2 ⟨rfl,k1⟩,rfl,k2⟩,⟨[.int .i64 c.out.v],[.int .i64 c.out.to],rfl,⟨rfl,k3⟩,rfl,k4⟩⟩
theorem zuP {l r:List Coin} (hl:Apart l) (hp:r.Perm l) (hs:r.Pairwise fun a b=>¬zbj b.inn a.inn<0):r=zkw l:=by
  have hle:∀a b c:Coin,(decide (zbj a.inn b.inn≤0))=true→(decide (zbj b.inn c.inn≤0))=true→(decide (zbj a.inn c.inn≤0))=true:=fun a b c h1 h2=>by
    have h1:=of_decide_eq_true h1;have h2:=of_decide_eq_true h2;apply ui;by_cases e1:zbj a.inn b.inn=0
    · rw[zdo.1 e1];exact h2
    by_cases e2:zbj b.inn c.inn=0
    · rw[←zdo.1 e2];exact h1
    have:=zgh (show zbj a.inn b.inn<0 by omega) (show zbj b.inn c.inn<0 by omega);omega
  have htot:∀a b:Coin,(decide (zbj a.inn b.inn≤0)||decide (zbj b.inn a.inn≤0))=true:=fun a b=>by
    have:=zdO a.inn b.inn
    rw[Bool.or_eq_true,uj,uj];omega
  have h1:(zkw l).Pairwise fun a b=>(decide (zbj a.inn b.inn≤0))=true:=List.pairwise_mergeSort (fun a b c=>hle a b c) (fun a b=>htot a b) l
  have h2:r.Pairwise fun a b=>(decide (zbj a.inn b.inn≤0))=true:=hs.imp fun {a b} h=>by
    have:=zdO a.inn b.inn
    exact ui yc
  have hperm:r.Perm (zkw l):=hp.trans (List.mergeSort_perm l _).symm;have hap:Apart (zkw l):=(List.mergeSort_perm l _).symm.pairwise hl (fun {a b} h=>by have:=zdO a.inn b.inn;omega);have hinj:∀a∈zkw l,∀b∈zkw l,zbj a.inn b.inn=0→a=b:=by
    intro a ha b hb h0;apply Classical.byContradiction;intro hne;obtain⟨i,hi,rfl⟩:=List.getElem_of_mem ha;obtain⟨j,hj,rfl⟩:=List.getElem_of_mem hb;have hw:=List.pairwise_iff_getElem.1 hap;rcases Nat.lt_trichotomy i j with h|h|h
    · exact hw i j hi hj h h0
    · subst h;exact hne rfl
    have:=zdO (zkw l)[i].inn (zkw l)[j].inn
    exact hw j i hj hi h yc
  refine hperm.eq_of_pairwise (le:=fun a b=>(decide (zbj a.inn b.inn≤0))=true) (fun a b ha hb x y=>?_) h2 h1;have x:=of_decide_eq_true x;have y:=of_decide_eq_true y
  have:=zdO a.inn b.inn
  exact hinj a (hperm.mem_iff.1 ha) b hb yc
theorem sort_ok (l:List Coin) (hl:Apart l) (hn:l.length<1000000):zfr P 288 (.row 293 zbm l) [.own 0,.clo 289 []] (.lit (.tuple #[])) (.row 293 zbm (zkw l)) :=
  sort_tells sortL flat_coin (fun c h=>by unfold zoV ztY;simp only[ue,List.length_map,h.1,List.length_cons,List.length_nil];rfl) (fun c _ v hv=>by
    unfold zoV ztY at hv;simp only[List.mem_append,List.mem_map,List.mem_cons,List.not_mem_nil,or_false] at hv;rcases hv with ⟨b,_,rfl⟩|rfl|rfl|rfl<;>rfl) rfl (x0:=⟨⟨zId,0⟩,⟨0,0⟩⟩) ⟨rfl,zdw.2 yp,zdw.2 yp,zdw.2 yp⟩ zpZ (cf:=fun a b=>zbj a.inn b.inn)
    (fun c _ h=>by have:=zdo.2 (rfl:c.inn=c.inn);omega) (fun a b c _ _ _ h1 h2=>zgh h1 h2)
    (fun a b c _ _ _ h1 h2 h3=>by
      have n1:=zdO a.inn b.inn;have n2:=zdO b.inn c.inn;by_cases e1:zbj a.inn b.inn=0
      · rw[zdo.1 e1] at h3;exact h2 h3
      by_cases e2:zbj b.inn c.inn=0
      · rw[←zdo.1 e2] at h3;exact h1 h3
      have:=zgh (show zbj c.inn b.inn<0 by omega) (show zbj b.inn a.inn<0 by omega)
      have n3:=zdO a.inn c.inn;omega) fn_289 (fun x y=>made2_ok x y) yc (fun r hp hs=>zuP hl hp hs)
def newN (id:Ab.Id) (outs:List Out) (k:Nat):List Coin:=(outs.take k).zipIdx.map fun x=>⟨⟨id,(x.2:Int)⟩,x.1⟩
theorem zrI {id:Ab.Id} {outs:List Out} {k:Nat} (h:k≤outs.length):(newN id outs k).length=k:=by simp[newN];omega
theorem newN_succ {id:Ab.Id} {outs:List Out} {k:Nat} {o:Out} (h:outs[k]?=some o) (p:List Coin):p++newN id outs k++[⟨⟨id,(k:Int)⟩,o⟩]=p++newN id outs (k+1):=by
  have hk:=(ul.1 h).1;unfold newN;rw[un,h,List.zipIdx_append,List.map_append,List.append_assoc];simp;omega
def zb9 (p:List Coin) (t:Tx):List Coin×Int:=if (p.any fun c=>decide (c.inn.tx=idOf t))=true then ([],10) else (zkw (p++newN (idOf t) t.outs t.outs.length),0)
theorem made_ok (p:List Coin) (t:Tx) (hp:p.length≤48) (hto:t.outs.length≤3) (hd:(p.any fun c=>decide (c.inn.tx=idOf t))=false→Apart (p++newN (idOf t) t.outs t.outs.length)):zfr P 249 (.row 293 zbm p) [.own 0,.val txT t] (.tup2 (.fresh 293 zbm (zb9 p t).1) (.val i64T (zb9 p t).2)) (.none_):=by
 refine zgo trivial Tryz.func249 rfl rfl ⟨Nat.one_pos,⟨trivial,trivial⟩⟩ (fun ext pg w hext hgr=>?_);refine zjA (n:=0) rfl (fun hrl=>?_);refine qc6 ?_;refine qaz ?_;refine qcu ?_;refine A0 (oCl (id_ok t) rfl fn_44 yf) ?_;refine qaM ?_;refine qau ?_;refine CNQQR ?_;refine A0 mO ?_;refine xi ?_;refine A0 (oCl (zna _ _) rfl fn_286 ⟨(zO rfl rfl),(by first|exact zdJ (Cs:=[_]) rfl fn_287 yk ybO rfl (fun x=>zwE _ x)|exact zdI (Cs:=[_]) rfl fn_287 yk ybO rfl (fun x y=>zwE _ x)|exact zdK rfl),trivial⟩) ?_;refine CN ?_;refine zn (p:=(p.any fun c=>decide (c.inn.tx=idOf t))=true) rfl (Bool.decide_eq_true.symm) (fun ht13=>?_) (fun ht13=>?_)
 ·
  refine qbp ?_;exact zxA rfl rfl rfl rfl rfl zc9 (by unfold zb9;rw[ut ht13];exact zpD rfl) (zgW zc9 rfl (by unfold zb9;rw[ut ht13]))
 have hnot:(p.any fun c=>decide (c.inn.tx=idOf t))=false:=by simpa using ht13
 refine CSQQR ?_;refine A0 (oFp zeE) ?_;refine A0 (oLb zeJ znI) ?_;refine A0 (zW rfl rfl zib) ?_;refine qa2 ?_;refine zaQ 0 3 4 rfl rfl rfl rfl rfl rfl ?_;refine zA (n:=3) (y:=p++newN (idOf t) t.outs 0) rfl (by simp[newN]) ?_;refine Lp (ι:=Nat) 4 (fun k=>(((((Fr.none.set 0 (.own 3)).set 3 (.ptr 1 0)).set 6 (.ptr 2 0)).set 15 (.val (sl outT) t.outs)).set 16 (.val i64T (t.outs.length:Int))).set 17 (.val i64T (k:Int))) (fun k=>((Hp.none.set 1 (.box 101 txT t)).set 2 (.box 49 idT (idOf t))).set 3 (.row 293 zbm (p++newN (idOf t) t.outs k))) (fun k=>k≤t.outs.length) (fun k=>t.outs.length-k) (0) (uf _) ?_;intro k hinv;refine qak ?_;refine Cf (p:=k<t.outs.length) (fun ht18=>?_) (fun ht18=>?_)
 ·
  obtain⟨o,ho⟩:∃o,t.outs[k]?=some o:=⟨_,ub ht18⟩;have hnl:=zrI (id:=idOf t) hinv;refine qaE ?_;refine qcp ?_;refine A0 aV ?_;refine zf rfl rfl rfl rfl rfl (Lens.self _) zh9 rfl ?_;refine CNR ?_;refine A0 mO ?_;refine qb2 ?_;refine qax ?_;refine A0 (zC rfl ze_256 bd_256 (.cons zgQ zml zaj rfl (.cons zdW zlB ty_3 rfl .nil)) rfl) ?_;refine A0 (oLs rfl rfl rfl zh9) ?_;refine A0 (zC rfl ze_293 bd_293 (.cons zfN zdt zc3 rfl (.cons zjk zf4 zh9 rfl .nil)) rfl) ?_;refine A0 (zX (T:=zbm) (xs:=[_]) rfl zmZ zqf yB rfl rfl) ?_;refine zF rfl rfl rfl rfl rfl rfl rfl zqf (by simp only[ue,List.length_cons,List.length_nil,hnl];omega) ?_;refine A0 aO ?_;refine qbh ?_;refine zaQ 5 3 6 rfl rfl rfl rfl rfl rfl ?_;refine zA (n:=3) rfl (newN_succ ho p) ?_;exact Nx (k+1) yc yc
 obtain rfl:k=t.outs.length:=yc;refine CE ?_;refine qb6 ?_;refine zgT (sort_ok _ (hd hnot) (by rw[ue,zrI (ug _)];omega)) rfl fn_288 rfl trivial trivial rfl ybR rfl rfl rfl ?_;refine CNQR ?_;refine A0 mO ?_;refine qch ?_;exact zxA rfl rfl rfl rfl rfl zc9 (zlP zc9 (fun h=>False.elim h) rfl rfl (by unfold zb9;rw[ur ht13])) (zgW zc9 rfl (by unfold zb9;rw[ur ht13]))
def Sorted (p:List Coin):Prop:=p.Pairwise fun a b=>zbj a.inn b.inn<0
theorem zqM {p:List Coin} {k:Nat} {c:Coin} (h:p[k]?=some c):zjS p k=true↔zgR c=true∧∀j b,k=j+1→p[j]?=some b→zbj b.inn c.inn<0:=by
  unfold zjS;rw[h];simp only[uk];cases k with
  | zero=>simp
  | succ k =>
    constructor
    · rintro ⟨h1,h2⟩
      refine⟨h1,fun j b e hb=>?_⟩;obtain rfl:k=j:=yc;simp only[hb] at h2;exact of_decide_eq_true h2
    rintro ⟨h1,h2⟩
    refine⟨h1,?_⟩;simp only[];cases hb:p[k]? with
    | none=>rfl
    | some b=>exact ui (h2 k b rfl hb)
theorem zbc {p:List Coin}:zaZ p=true↔(∀c∈p,zgR c=true)∧Sorted p∧p.length≤48:=by
  unfold zaZ;simp only[uk,uj,List.all_eq_true,List.mem_range]
  constructor
  · rintro ⟨h1,h2⟩
    have hat:∀k c,p[k]?=some c→zgR c=true∧∀j b,k=j+1→p[j]?=some b→zbj b.inn c.inn<0:=fun k c hc=>(zqM hc).1 (h1 k (ul.1 hc).1)
    refine⟨fun c hc=>?_,?_,h2⟩
    · obtain⟨k,hk⟩:=List.mem_iff_getElem?.1 hc
      exact(hat k c hk).1
    have key : ∀ (k i : Nat) (a b : Coin), i < k → p[i]? = some a → p[k]? = some b → zbj a.inn b.inn < 0 := fun k => by
      induction k with
      | zero=>intro i a b h;omega
      | succ k ih =>
        intro i a b h ha hb;obtain⟨m,hm⟩:∃m,p[k]?=some m:=⟨_,ub (by have:=(ul.1 hb).1;omega)⟩;have hlast:=(hat (k+1) b hb).2 k m rfl hm;by_cases e:i=k
        · subst e;rw[ha] at hm;injection hm with hm;subst hm;exact hlast
        exact zgh (ih i a m yc ha hm) hlast
    unfold Sorted;rw[List.pairwise_iff_getElem];intro i j hi hj hij;exact key j i _ _ hij (ub hi) (ub hj)
  rintro ⟨h1,h2,h3⟩
  refine⟨fun k hk=>?_,h3⟩;refine(zqM (ub hk)).2 ⟨h1 _ (List.getElem_mem hk),fun j b e hb=>?_⟩;subst e;have hj:=(ul.1 hb).1
  have:=List.pairwise_iff_getElem.1 h2 j (j+1) hj hk yc
  rw[ub hj] at hb;injection hb with hb;rw[←hb];exact this
theorem Sorted.apart {p:List Coin} (h:Sorted p):Apart p:=List.Pairwise.imp (fun h=>by omega) h
theorem zpq {p:List Coin} {id:Ab.Id} {outs:List Out} {k:Nat} (h:Apart p) (hn:(p.any fun c=>decide (c.inn.tx=id))=false):Apart (p++newN id outs k):=by
  unfold Apart;rw[List.pairwise_append];refine⟨h,?_,fun a ha b hb e=>?_⟩
  · unfold newN
    rw[List.pairwise_map,List.pairwise_iff_getElem];intro i j hi hj hij e
    have:=zdo.1 e
    injection this with _ h2;simp at h2;omega
  have:=zdo.1 e
  unfold newN at hb;obtain⟨x,_,rfl⟩:=List.mem_map.1 hb;have h2:=List.any_eq_false.1 hn a ha;rw[this] at h2;simp at h2
theorem del_sorted {l:List Coin} (i:Nat) (h:Sorted l):Sorted (l.take i++l.drop (i+1)):=by
  rw[←List.eraseIdx_eq_take_drop_succ];exact List.Pairwise.sublist (List.eraseIdx_sublist _ _) h
def zdy:List Coin→Int→List In→Option (List Coin×Int)
  | p,n,[]=>some (p,n)
  | p,n,x::l=>match p[placeOf p x]? with
    | none=>none
    | some c=>if zbj c.inn x=0 then zdy (p.take (placeOf p x)++p.drop (placeOf p x+1)) (IntKind.i64.wrap (n+c.out.v)) l else none
def zai (p:List Coin) (t:Tx):List Coin×Int×Int :=
  if ¬(zaZ p=true∧zeU t=true∧t.ins≠[]) then (p,0,1) else
  match zdy p 0 t.ins with
  | none=>(p,0,8)
  | some (rest,n) =>
    if IntKind.i64.wrap (n-zf7 (·.v) t.outs)<0 then (p,0,8)
    else if (zb9 rest t).2=0 then (if 48<(zb9 rest t).1.length then (p,0,11) else ((zb9 rest t).1,IntKind.i64.wrap (n-zf7 (·.v) t.outs),0))
    else (p,0,(zb9 rest t).2)
theorem zfg {p:List Coin} (h:zaZ p=true):p.length≤48:=by
  unfold zaZ at h;simp only[uk,uj] at h;exact h.2
theorem zs1 {p:List Coin} {n:Int} {ins:List In} {k:Nat} {x:In} {c:Coin} (hx:ins[k]?=some x) (hc:p[placeOf p x]?=some c) (h0:zbj c.inn x=0):zdy p n (ins.drop k)=zdy (p.take (placeOf p x)++p.drop (placeOf p x+1)) (IntKind.i64.wrap (n+c.out.v)) (ins.drop (k+1)):=by
  obtain⟨hk,rfl⟩:=ul.1 hx;rw[List.drop_eq_getElem_cons hk];rw[zdy.eq_2];simp only[hc,ut h0]
theorem zs0 {p:List Coin} {n:Int} {ins:List In} {k:Nat} {x:In} (hx:ins[k]?=some x) (h:¬zl1 p x=true):zdy p n (ins.drop k)=none:=by
  obtain⟨hk,rfl⟩:=ul.1 hx;rw[List.drop_eq_getElem_cons hk];rw[zdy.eq_2];unfold zl1 zfy at h
  split
  · rfl
  rename_i c hc;rw[hc] at h;simp only[uj] at h;rw[ur h]
theorem isThere_at {p:List Coin} {x:In} (h:zl1 p x=true):∃c,p[placeOf p x]?=some c∧zbj c.inn x=0:=by
  unfold zl1 zfy at h
  split at h
  · cases h
  rename_i c hc;exact⟨c,hc,by simpa using h⟩
theorem zgd (p:List Coin) (e:Int) (hp:p.length≤2000000000000):Tells P 283 [.val i64T e,.rptr (bsl zbm) p] (.tup3 (.fresh 293 zbm p) (.val i64T 0) (.val i64T e)):=by
 refine zc Tryz.func283 rfl rfl rfl (fun ext w hext=>?_);refine ze (d:=0) rfl zt (fun hin0=>?_);refine qaq ?_;refine A0 aV ?_;refine qaz ?_;refine A0 (zg rfl rfl zmX) ?_;refine zaD (ziY p yU) rfl ztT yf rfl rfl rfl ?_;refine qax ?_;refine A0 aO ?_;refine qbA ?_;exact zdH rfl rfl (zh rfl rfl rfl) (zcP rfl) (zcP rfl)
theorem zwc (p:List Coin) (t:Tx) (hp:p.length≤2000000000000):Tells P 248 [.val (bsl zbm) p,.val txT t] (.tup3 (.fresh 293 zbm (zai p t).1) (.val i64T (zai p t).2.1) (.val i64T (zai p t).2.2)):=by
 refine zc Tryz.func248 rfl rfl rfl (fun ext w hext=>?_);refine ze (d:=0) rfl zk (fun hsl0=>?_);refine qay ?_;refine A0 aL ?_;refine A0 aV ?_;refine qaz ?_;refine xi ?_;refine A0 aC ?_;refine CNQQR ?_;refine A0 (oLs rfl rfl rfl zmX) ?_;refine A0 (oCl (may_ok _) rfl fn_247 yf) ?_;refine A0 oN ?_;refine qax ?_;refine zaP (d:=21) (p:=¬zaZ p=true) rfl yy (fun g21=>?_) (fun g21=>?_)
 ·
  refine qac ?_;refine qbd ?_;refine qco ?_;refine Ct ?_;refine qc8 ?_;refine xr ?_;refine qbx ?_;have hS:zai p t=(p,0,1):=by unfold zai;rw[ut (fun h=>g21 h.1)]
  exact zdH rfl rfl (zh rfl rfl yP) (za rfl yP) (za rfl yP)
 refine A1 (oLs rfl rfl rfl zgb) ?_;refine A1 (oCl (zrK _) rfl fn_168 yf) ?_;refine A1 oN ?_;refine qal ?_;refine zaP (d:=26) (p:=¬zeU t=true) rfl yy (fun g26=>?_) (fun g26=>?_)
 ·
  refine qb7 ?_;refine qaw ?_;refine Ct ?_;refine qc8 ?_;refine xr ?_;refine qbx ?_;have hS:zai p t=(p,0,1):=by unfold zai;rw[ut (fun h=>g26 h.2.1)]
  exact zdH rfl rfl (zh rfl rfl yP) (za rfl yP) (za rfl yP)
 refine A1 (oFp zdY) ?_;refine A1 (oLb ze8 zmW) ?_;refine A1 (zW rfl rfl zjM) ?_;refine A1 zbZ ?_;refine A0 oK ?_;refine Sp (d:=31) (p:=t.ins.length=0) (fun g31=>?_) (fun g31=>?_)
 ·
  refine CN ?_;refine Ct ?_;refine qc8 ?_;refine xr ?_;refine qbx ?_;have hS:zai p t=(p,0,1):=by unfold zai;rw[ut (fun h=>h.2.2 (List.length_eq_zero_iff.1 g31))]
  exact zdH rfl rfl (zh rfl rfl yP) (za rfl yP) (za rfl yP)
 have hmp:=ua g21;have hmt:=ua g26;have hpl:=zfg hmp;have hne:t.ins≠[]:=fun e=>g31 (by rw[e];rfl)
 refine CN ?_;refine Cg ?_;refine CSQR ?_;refine A0 (oLs rfl rfl rfl zmX) ?_;refine zaD (ziY p yU) rfl ztT yf rfl rfl rfl ?_;refine A0 aO ?_;refine CNQR ?_;refine qbS ?_;refine qbr ?_;refine qa2 ?_;refine Lp (ι:=Nat×List Coin×Int) 3 (fun(k,rest,n)=>(((((((Fr.none.set 2 (.ptr 0 0)).set 3 (.ptr 1 0)).set 7 (.clo 283 [0])).set 8 (.own 2)).set 9 (.val i64T n)).set 40 (.val (sl inT) t.ins)).set 41 (.val i64T (t.ins.length:Int))).set 42 (.val i64T (k:Int))) (fun(k,rest,n)=>((Hp.none.set 0 (.box 61 (bsl zbm) p)).set 1 (.box 101 txT t)).set 2 (.row 293 zbm rest)) (fun(k,rest,n)=>k≤t.ins.length∧Sorted rest∧rest.length≤48∧zdy p 0 t.ins=zdy rest n (t.ins.drop k)) (fun(k,rest,n)=>t.ins.length-k) ((0,p,0)) (⟨uf _,(zbc.1 hmp).2.1,hpl,rfl⟩) ?_;intro⟨k,rest,n⟩ hinv;dsimp only at hinv;refine ze (d:=40) rfl zk (fun hsi=>?_);refine qak ?_;refine Cf (p:=k<t.ins.length) (fun ht43=>?_) (fun ht43=>?_)
 ·
  obtain⟨x,hx⟩:∃x,t.ins[k]?=some x:=⟨_,ub ht43⟩;refine CSQBQR ?_;refine qcq ?_;refine zf rfl rfl rfl rfl rfl (Lens.self _) zc3 rfl ?_;refine CNQR ?_;refine A0 mO ?_;refine A0 (oLs rfl rfl rfl zc3) ?_;refine A0 (oCl (place_ok rest x yc) rfl fn_284 ⟨(zO rfl rfl),yo,trivial⟩) ?_;refine qbi ?_;refine A0 aV ?_;refine qaj ?_;refine qaL ?_;refine zn (p:=¬zl1 rest x=true) rfl yy (fun ht53=>?_) (fun ht53=>?_)
  ·
   refine qc8 ?_;refine xr ?_;refine qbx ?_;have hS:zai p t=(p,0,8):=by unfold zai;rw[ur (Classical.not_not.2 ⟨hmp,hmt,hne⟩)];rw[hinv.2.2.2,zs0 hx ht53]
   exact zdH rfl rfl (zh rfl rfl yP) (za rfl yP) (za rfl yP)
  obtain⟨c,hc,h0⟩:=isThere_at (ua ht53);have hlt:placeOf rest x<rest.length:=(ul.1 hc).1;refine qcG ?_;refine A0 mO ?_;refine qax ?_;refine A0 (zcs (i:=placeOf rest x) rfl rfl rfl rfl yn zmZ yg) ?_;refine A0 (zoD rfl rfl zjk rfl) ?_;refine A0 (zoD rfl rfl ze6 rfl) ?_;refine A0 (zbX rfl rfl rfl rfl yh (zf4.comp zi9) ty_3) ?_;refine A0 zdp ?_;refine qc5 ?_;refine A0 mO ?_;refine qao ?_;refine A0 zdp ?_;refine zxD (delete_ok rest (placeOf rest x) hlt) rfl fn_285 rfl trivial ⟨yi,yi,yi,trivial⟩ rfl rfl rfl ?_;refine A0 aO ?_;refine qbh ?_;refine zaQ 4 2 5 rfl rfl rfl rfl rfl rfl ?_;exact Nx ((k+1,rest.take (placeOf rest x)++rest.drop (placeOf rest x+1),IntKind.i64.wrap (n+c.out.v))) (⟨by omega,del_sorted _ hinv.2.1,by simp;omega,hinv.2.2.2.trans (zs1 hx hc h0)⟩) (by show _<t.ins.length-k;simp only[];omega)
 obtain rfl:k=t.ins.length:=yc;have htk:zdy p 0 t.ins=some (rest,n):=by rw[hinv.2.2.2,List.drop_of_length_le (ug _)];rfl
 refine CE ?_;refine qa4 ?_;refine qcu ?_;refine A0 (oCl (outs_ok _) rfl fn_250 yf) ?_;refine A0 zbb ?_;refine qaj ?_;refine qaY ?_;refine Cf (p:=IntKind.i64.wrap (n-zf7 (·.v) t.outs)<0) (fun ht78=>?_) (fun ht78=>?_)
 ·
  refine qc8 ?_;refine xr ?_;refine qbx ?_;have hS:zai p t=(p,0,8):=by unfold zai;rw[ur (Classical.not_not.2 ⟨hmp,hmt,hne⟩)];rw[htk];exact ut ht78
  exact zdH rfl rfl (zh rfl rfl yP) (za rfl yP) (za rfl yP)
 refine CSQR ?_;refine A0 mO ?_;refine qcu ?_;refine zuv (made_ok rest t yc (zfW hmt).2.2 (zpq (Sorted.apart hinv.2.1))) rfl fn_249 rfl trivial zaE ybR rfl rfl rfl ?_;refine A0 yw ?_;refine qaa ?_;refine A0 aO ?_;refine A0 aX ?_;refine CNQQR ?_;refine A0 mX ?_;refine A0 zbZ ?_;refine qax ?_;refine Sp (d:=92) (p:=(zb9 rest t).2=0) (fun g92=>?_) (fun g92=>?_)
 ·
  refine A1 mO ?_;refine A1 (zaJ rfl rfl rfl zjN) ?_;refine A1 zc1 ?_;refine A0 oK ?_;refine Sp (d:=96) (p:=48<(zb9 rest t).1.length) (fun g96=>?_) (fun g96=>?_)
  ·
   refine CN ?_;refine Ct ?_;refine CR ?_;refine qaj ?_;refine qbk ?_;refine Ct ?_;refine qc8 ?_;refine qax ?_;refine xr ?_;refine qbx ?_;have hS:zai p t=(p,0,11):=by unfold zai;rw[ur (Classical.not_not.2 ⟨hmp,hmt,hne⟩)];rw[htk];simp only[ur ht78,ut g92,ut g96]
   exact zdH rfl rfl (zh rfl rfl yP) (za rfl yP) (za rfl yP)
  refine CN ?_;refine Cg ?_;refine CSQQR ?_;refine A0 mX ?_;refine qbk ?_;refine ze1 rfl (by simp[IntL.toI,g92]) ?_;refine CSQR ?_;refine A0 mO ?_;refine qax ?_;refine A0 aO ?_;refine qbA ?_;have hS:zai p t=((zb9 rest t).1,IntKind.i64.wrap (n-zf7 (·.v) t.outs),0):=by unfold zai;rw[ur (Classical.not_not.2 ⟨hmp,hmt,hne⟩)];rw[htk];simp only[ur ht78,ut g92,ur g96]
  exact zdH rfl rfl (zh rfl rfl yP) (za rfl yP) (za rfl yP)
 refine qac ?_;refine qaw ?_;refine Cg ?_;refine CSQQR ?_;refine A0 mX ?_;refine qbk ?_;refine zgz rfl (by simp[IntL.toI,g92]) ?_;refine qc8 ?_;refine A0 mX ?_;refine zgA (As:=[_]) (Cs:=[_]) (zgd p _ hp) rfl rfl zoH ybN yk ybO zaE zaE rfl rfl rfl ?_;refine qbx ?_;have hS:zai p t=(p,0,(zb9 rest t).2):=by unfold zai;rw[ur (Classical.not_not.2 ⟨hmp,hmt,hne⟩)];rw[htk];simp only[ur ht78,ur g92]
 exact zdH rfl rfl (zh rfl rfl yP) (za rfl yP) (za rfl yP)
theorem leC_trans (a b c:Coin) (h:decide (zbj a.inn b.inn≤0)=true) (k:decide (zbj b.inn c.inn≤0)=true):decide (zbj a.inn c.inn≤0)=true:=by
  simp only[uj] at *;by_cases h0:zbj a.inn b.inn=0
  · rw[zdo.1 h0];exact k
  by_cases k0:zbj b.inn c.inn=0
  · rw[←zdo.1 k0];exact h
  have:=zgh (a:=a.inn) (b:=b.inn) (c:=c.inn) yc yc
  omega
theorem leC_total (a b:Coin):(decide (zbj a.inn b.inn≤0)||decide (zbj b.inn a.inn≤0))=true:=by
  have:=zdO a.inn b.inn
  simp only[Bool.or_eq_true,uj];omega
theorem zjf (l:List Coin):(zkw l).Perm l:=List.mergeSort_perm l _
theorem zs3 {l:List Coin} (h:Apart l):Sorted (zkw l):=by
  have h1:(zkw l).Pairwise fun a b=>decide (zbj a.inn b.inn≤0)=true:=List.pairwise_mergeSort leC_trans leC_total l
  have h2:Apart (zkw l):=((zjf l).pairwise_iff (R:=fun a b:Coin=>zbj a.inn b.inn≠0) (fun {a b} h=>by have:=zdO a.inn b.inn;omega)).2 h;unfold Sorted Apart at *;refine List.Pairwise.imp₂ (fun a b h1 h2=>?_) h1 h2
  have:=of_decide_eq_true h1
  omega
theorem zsY {t:Tx} (h:zeU t=true):∀o∈t.outs,zwv o=false:=fun o ho=>by
  unfold zeU at h;simp only[uk,Bool.not_eq_true'] at h
  have:=List.any_eq_false.1 h.2.2.2.2 o ho
  simpa using this
theorem newN_ok {t:Tx} {id:Ab.Id} {k:Nat} (h:zeU t=true):∀c∈newN id t.outs k,zgR c=true:=fun c hc=>by
  unfold newN at hc;obtain⟨⟨o,i⟩,hx,rfl⟩:=List.mem_map.1 hc;have hi:=List.mk_mem_zipIdx_iff_getElem?.1 hx;have hlt:=(ul.1 hi).1;have ho:o∈t.outs:=List.mem_of_mem_take (ud hi);have h1:=zsY h o ho;have h3:=(zfW h).2.2;rw[um] at hlt;unfold zwv at h1;have h1:=of_decide_eq_false h1;unfold zgR;apply ui;simp only[];omega
theorem zom {p:List Coin} {t:Tx} (hp:∀c∈p,zgR c=true) (hs:Sorted p) (ht:zeU t=true):(∀c∈(zb9 p t).1,zgR c=true)∧Sorted (zb9 p t).1:=by
  unfold zb9
  split
  · exact⟨fun c hc=>absurd hc (List.not_mem_nil),List.Pairwise.nil⟩
  rename_i h;have h:(p.any fun c=>decide (c.inn.tx=idOf t))=false:=by simpa using h
  refine⟨fun c hc=>?_,zs3 (zpq (Sorted.apart hs) h)⟩
  have:=(zjf _).mem_iff.1 hc
  rcases List.mem_append.1 this with h|h
  · exact hp c h
  exact newN_ok ht c h
theorem zir:∀{ins:List In} {p rest:List Coin} {n m:Int},zdy p n ins=some (rest,m)→rest.Sublist p
  | [],p,rest,n,m,h=>by
    rw[zdy.eq_1] at h;injection h with h;injection h with h _;subst h;exact List.Sublist.refl _
  | x::ins,p,rest,n,m,h=>by
    rw[zdy.eq_2] at h
    split at h
    · cases h
    split at h
    · have:=zir h
      refine this.trans ?_;rw[←List.eraseIdx_eq_take_drop_succ];exact List.eraseIdx_sublist _ _
    cases h
theorem zhz {p:List Coin} {t:Tx} (h:zaZ p=true):zaZ (zai p t).1=true:=by
  obtain⟨h1,h2,h3⟩:=zbc.1 h;unfold zai
  split
  · exact h
  rename_i hn;have hn:=ua hn
  split
  · exact h
  rename_i rest n hrest;have hsub:=zir hrest
  split
  · exact h
  split
  · split
    · exact h
    rename_i hl;have hg:=zom (p:=rest) (fun c hc=>h1 c (hsub.subset hc)) (h2.sublist hsub) hn.2.1;exact zbc.2 ⟨hg.1,hg.2,Nat.le_of_not_lt hl⟩
  exact h
def zfB:List Coin→Int→List Tx→Sum Int (List Coin×Int)
  | out,room,[]=>.inr (out,room)
  | out,room,t::l=>if (zai out t).2.2=0 then zfB (zai out t).1 (IntKind.i64.wrap (room+(zai out t).2.1)) l else .inl (zai out t).2.2
def zet (l:List Tx):Bool:=match l with | []=>false|t::_=>decide (t.ins.length=0)
theorem zqv {l:List Tx} {t:Tx} (h:l[0]?=some t):zet l=decide (t.ins.length=0):=by
  cases l with
  | nil=>simp at h
  | cons a m=>simp at h;subst h;rfl
theorem zj4 {l:List Tx} (h:¬0<l.length):zet l=false:=by
  cases l with
  | nil=>rfl
  | cons a m=>simp at h
def zfb (l:List Tx) (k:Nat):List Tx:=if zet l=true∧k=0 then l.drop 1 else l.drop k
def zad (p:List Coin) (l:List Tx):List Coin×Int :=
  if ¬zaZ p=true then (p,1) else if 4<l.length then (p,3) else
  match zfB p 50 (zfb l 0) with
  | .inl e=>(p,e)
  | .inr (out,room)=>match (if zet l=true then l[0]? else none) with
    | none=>(out,0)
    | some t=>if ¬zeU t=true then (p,1) else if ¬(zb9 out t).2=0 then (p,(zb9 out t).2) else if room<zf7 (·.v) t.outs then (p,8) else if 48<(zb9 out t).1.length then (p,11) else ((zb9 out t).1,0)
theorem zjZ {out:List Coin} {room:Int} {l:List Tx} {k:Nat} {t:Tx} (hk:¬(zet l=true∧k=0)) (hx:l[k]?=some t) (h:(zai out t).2.2=0):zfB out room (zfb l k)=zfB (zai out t).1 (IntKind.i64.wrap (room+(zai out t).2.1)) (zfb l (k+1)):=by
  obtain⟨hlt,rfl⟩:=ul.1 hx;unfold zfb;rw[ur hk,ur yc,List.drop_eq_getElem_cons hlt,zfB.eq_2,ut h]
theorem zn1 {out:List Coin} {room:Int} {l:List Tx} {k:Nat} {t:Tx} (hk:¬(zet l=true∧k=0)) (hx:l[k]?=some t) (h:¬(zai out t).2.2=0):zfB out room (zfb l k) = .inl (zai out t).2.2:=by
  obtain⟨hlt,rfl⟩:=ul.1 hx;unfold zfb;rw[ur hk,List.drop_eq_getElem_cons hlt,zfB.eq_2,ur h]
theorem zix {l:List Tx} (h:zet l=true):zfb l 0=zfb l 1:=by
  unfold zfb;rw[ut ⟨h,rfl⟩,ur yc]
theorem zqi {l:List Tx} (k:Nat) (h:l.length≤k):zfb l k=[]:=by
  unfold zfb
  split
  · exact List.drop_of_length_le yc
  exact List.drop_of_length_le h
theorem zfq (p:List Coin) (e:Int) (hp:p.length≤2000000000000):Tells P 246 [.val i64T e,.rptr (bsl zbm) p] (.tup2 (.fresh 293 zbm p) (.val i64T e)):=by
 refine zc Tryz.func246 rfl rfl rfl (fun ext w hext=>?_);refine ze (d:=0) rfl zt (fun hin0=>?_);refine qaq ?_;refine qaz ?_;refine A0 (zg rfl rfl zmX) ?_;refine zaD (ziY p yU) rfl ztT yf rfl rfl rfl ?_;refine qax ?_;refine qch ?_;exact zV rfl rfl (zh rfl rfl rfl) (zcP rfl)
theorem apply_ok (p:List Coin) (l:List Tx) (hp:p.length≤2000000000000):Tells P 192 [.val (bsl zbm) p,.val (bsl txT) l] (.tup2 (.fresh 293 zbm (zad p l).1) (.val i64T (zad p l).2)):=by
 refine zc Tryz.func192 rfl rfl rfl (fun ext w hext=>?_);refine ze (d:=0) rfl zk (fun hsl0=>?_);refine ze (d:=1) rfl zk (fun hsl1=>?_);refine qc6 ?_;refine qaz ?_;refine xi ?_;refine A0 aC ?_;refine CNQ ?_;refine CB ?_;refine CQR ?_;refine A0 (oLs rfl rfl rfl zmX) ?_;refine A0 (oCl (may_ok _) rfl fn_247 yf) ?_;refine A0 oN ?_;refine qad ?_;refine zn (p:=¬zaZ p=true) rfl yy (fun ht17=>?_) (fun ht17=>?_)
 ·
  refine qc8 ?_;refine xt ?_;refine qcH ?_;have hS:zad p l=(p,1):=by unfold zad;rw[ut ht17]
  exact zV rfl rfl (zh rfl rfl yP) (za rfl yP)
 have hmp:=ua ht17;have hpl:=zfg hmp;refine qa4 ?_;refine qcA ?_;refine A0 zc1 ?_;refine qad ?_;refine Cf (p:=4<l.length) (fun ht25=>?_) (fun ht25=>?_)
 ·
  refine qc8 ?_;refine xt ?_;refine qcH ?_;have hS:zad p l=(p,3):=by unfold zad;rw[ur (Classical.not_not.2 hmp),ut ht25]
  exact zV rfl rfl (zh rfl rfl yP) (za rfl yP)
 refine CS ?_;refine CI ?_;refine CQR ?_;refine A0 (oLs rfl rfl rfl zmX) ?_;refine zaD (ziY p yU) rfl ztT yf rfl rfl rfl ?_;refine A0 aO ?_;refine qag ?_;refine qcA ?_;refine A0 zc1 ?_;refine qax ?_;refine Sp (d:=38) (p:=0<l.length) (fun g38=>?_) (fun g38=>?_)
 ·
  obtain⟨t0,ht0⟩:∃t0,l[0]?=some t0:=⟨_,ub g38⟩;refine A1 mV ?_;refine A1 (zK (i:=0) rfl rfl rfl yc zlM yh) ?_;refine A1 (oFr zdY ze8) ?_;refine A1 (zg rfl rfl zmW) ?_;refine A1 (by first|exact zW rfl rfl zjM|exact zaJ rfl rfl rfl zjM|exact zbM rfl rfl zjM) ?_;refine A1 zbZ ?_;refine A0 oK ?_;refine zj (d:=45) (y:=zet l) rfl yby ?_;refine qaj ?_;refine qcA ?_;refine qa2 ?_;refine Lp (ι:=Nat×List Coin×Int) 2 (fun(k,out,room)=>((((((((Fr.none.set 1 (.val (bsl txT) l)).set 2 (.ptr 0 0)).set 6 (.clo 246 [0])).set 7 (.own 1)).set 8 (.val i64T room)).set 9 (.val zm (zet l))).set 46 (.val (bsl txT) l)).set 47 (.val i64T (l.length:Int))).set 48 (.val i64T (k:Int))) (fun(k,out,room)=>(Hp.none.set 0 (.box 61 (bsl zbm) p)).set 1 (.row 293 zbm out)) (fun(k,out,room)=>k≤l.length∧zaZ out=true∧zfB p 50 (zfb l 0)=zfB out room (zfb l k)) (fun(k,out,room)=>l.length-k) ((0,p,50)) (⟨uf _,hmp,rfl⟩) ?_;intro⟨k,out,room⟩ hinv;dsimp only at hinv;have hol:=zfg hinv.2.1;refine qak ?_;refine Cf (p:=k<l.length) (fun ht49=>?_) (fun ht49=>?_)
  ·
   obtain⟨t,hx⟩:∃t,l[k]?=some t:=⟨_,ub ht49⟩;refine qaE ?_;refine qbl ?_;refine A0 aV ?_;refine qcg ?_;refine qbg ?_;refine A0 zbZ ?_;refine qax ?_;refine Sp (d:=55) (p:=k=0) (fun g55=>?_) (fun g55=>?_)
   ·
    refine A1 mV ?_;refine A0 oK ?_;refine zaP (d:=57) (p:=zet l=true) rfl yy (fun g57=>?_) (fun g57=>?_)
    ·
     refine CN ?_;refine Ct ?_;refine CE ?_;refine CR ?_;refine qah ?_;exact Nx ((k+1,out,room)) yQ ybB
    refine CN ?_;refine Cg ?_;refine CSQR ?_;refine A0 mO ?_;refine qcu ?_;refine zuu (zwc out t yc) rfl fn_248 ⟨(zO rfl rfl),yo,trivial⟩ zaE zaE rfl rfl rfl ?_;refine A0 yw ?_;refine qaa ?_;refine A0 e32 ?_;refine A0 aO ?_;refine qa0 ?_;refine zn (p:=¬(zai out t).2.2=0) rfl yH (fun ht66=>?_) (fun ht66=>?_)
    ·
     refine qc8 ?_;refine A0 mX ?_;refine xu ?_;refine qcH ?_;have hS:zad p l=(p,(zai out t).2.2):=yb8;exact zV rfl rfl (zh rfl rfl yP) (za rfl yP)
    refine CSQR ?_;refine A0 mO ?_;refine A0 aO ?_;refine CNR ?_;refine qax ?_;refine A0 mX ?_;refine A0 zdp ?_;refine A0 aV ?_;refine qbh ?_;refine zh4 1 ?_;refine xv ?_;exact Nx ((k+1,(zai out t).1,IntKind.i64.wrap (room+(zai out t).2.1))) yQ ybB
   refine qco ?_;refine Cg ?_;refine CSQR ?_;refine A0 mO ?_;refine qcu ?_;refine zuu (zwc out t yc) rfl fn_248 ⟨(zO rfl rfl),yo,trivial⟩ zaE zaE rfl rfl rfl ?_;refine A0 yw ?_;refine qaa ?_;refine A0 e32 ?_;refine A0 aO ?_;refine qa0 ?_;refine zn (p:=¬(zai out t).2.2=0) rfl yH (fun ht66=>?_) (fun ht66=>?_)
   ·
    refine qc8 ?_;refine A0 mX ?_;refine xu ?_;refine qcH ?_;have hS:zad p l=(p,(zai out t).2.2):=yb8;exact zV rfl rfl (zh rfl rfl yP) (za rfl yP)
   refine CSQR ?_;refine A0 mO ?_;refine A0 aO ?_;refine CNR ?_;refine qax ?_;refine A0 mX ?_;refine A0 zdp ?_;refine A0 aV ?_;refine qbh ?_;refine zh4 1 ?_;refine xv ?_;exact Nx ((k+1,(zai out t).1,IntKind.i64.wrap (room+(zai out t).2.1))) yQ ybB
  have hrun:zfB p 50 (zfb l 0) = .inr (out,room):=by rw[hinv.2.2,zqi k yc];rfl
  refine CE ?_;refine qb1 ?_;refine qaL ?_;refine zn (p:=¬zet l=true) rfl yy (fun ht78=>?_) (fun ht78=>?_)
  ·
   have hnf:=ht78;refine qb6 ?_;refine qch ?_;have hS:zad p l=(out,0):=yb9;exact zV rfl rfl (zh rfl rfl yP) (za rfl yP)
  have hf:=ua ht78;refine qbM ?_;refine A0 (zK (i:=0) rfl rfl rfl yc zlM yh) ?_;refine A0 (zg rfl rfl zgb) ?_;refine A0 (oCl (zrK _) rfl fn_168 ybN) ?_;refine qaL ?_;refine zn (p:=¬zeU t0=true) rfl yy (fun ht84=>?_) (fun ht84=>?_)
  ·
   refine qc8 ?_;refine xt ?_;refine qcH ?_;have hS:zad p l=(p,1):=by unfold zad;rw[ur (Classical.not_not.2 hmp),ur (show ¬4<l.length by omega)];rw[hrun];simp only[ut hf,ht0];rw[ut ht84]
   exact zV rfl rfl (zh rfl rfl yP) (za rfl yP)
  have hmt:=ua ht84;refine CSQR ?_;refine A0 mO ?_;refine qax ?_;refine A0 (zK (i:=0) rfl rfl rfl yc zlM yh) ?_;refine A0 (zg rfl rfl zgb) ?_;refine zuv (made_ok out t0 yc (zfW hmt).2.2 (zpq (Sorted.apart (zbc.1 hinv.2.1).2.1))) rfl fn_249 rfl trivial zaE ybR rfl rfl rfl ?_;refine A0 yw ?_;refine qaa ?_;refine A0 aO ?_;refine A0 aX ?_;refine CNQ ?_;refine CB ?_;refine CQR ?_;refine A0 mX ?_;refine A0 zdQ ?_;refine qad ?_;refine zn (p:=¬(zb9 out t0).2=0) rfl yH (fun ht97=>?_) (fun ht97=>?_)
  ·
   refine qc8 ?_;refine A0 mX ?_;refine xu ?_;refine qcH ?_;have hS:zad p l=(p,(zb9 out t0).2):=by unfold zad;rw[ur (Classical.not_not.2 hmp),ur (show ¬4<l.length by omega)];rw[hrun];simp only[ut hf,ht0];rw[ur (Classical.not_not.2 hmt),ut ht97]
   exact zV rfl rfl (zh rfl rfl yP) (za rfl yP)
  refine qa4 ?_;refine A0 (zK (i:=0) rfl rfl rfl yc zlM yh) ?_;refine A0 (zg rfl rfl zgb) ?_;refine A0 (oCl (outs_ok _) rfl fn_250 ybN) ?_;refine qax ?_;refine A0 zc1 ?_;refine qad ?_;refine Cf (p:=room<zf7 (·.v) t0.outs) (fun ht105=>?_) (fun ht105=>?_)
  ·
   refine qc8 ?_;refine xt ?_;refine qcH ?_;have hS:zad p l=(p,8):=by unfold zad;rw[ur (Classical.not_not.2 hmp),ur (show ¬4<l.length by omega)];rw[hrun];simp only[ut hf,ht0];rw[ur (Classical.not_not.2 hmt),ur ht97,ut ht105]
   exact zV rfl rfl (zh rfl rfl yP) (za rfl yP)
  refine qb6 ?_;refine A0 (zaJ rfl rfl rfl zjN) ?_;refine A0 zc1 ?_;refine qad ?_;refine Cf (p:=48<(zb9 out t0).1.length) (fun ht116=>?_) (fun ht116=>?_)
  ·
   refine qc8 ?_;refine xt ?_;refine qcH ?_;have hS:zad p l=(p,11):=by unfold zad;rw[ur (Classical.not_not.2 hmp),ur (show ¬4<l.length by omega)];rw[hrun];simp only[ut hf,ht0];rw[ur (Classical.not_not.2 hmt),ur ht97,ur ht105,ut ht116]
   exact zV rfl rfl (zh rfl rfl yP) (za rfl yP)
  refine CS ?_;refine CI ?_;refine qb6 ?_;refine qch ?_;have hS:zad p l=((zb9 out t0).1,0):=by unfold zad;rw[ur (Classical.not_not.2 hmp),ur (show ¬4<l.length by omega)];rw[hrun];simp only[ut hf,ht0];rw[ur (Classical.not_not.2 hmt),ur ht97,ur ht105,ur ht116]
  exact zV rfl rfl (zh rfl rfl yP) (za rfl yP)
 refine qac ?_;refine qac ?_;refine A0 oK ?_;refine zj (d:=45) (y:=zet l) rfl yby ?_;refine qaj ?_;refine qcA ?_;refine qa2 ?_;refine Lp (ι:=Nat×List Coin×Int) 2 (fun(k,out,room)=>((((((((Fr.none.set 1 (.val (bsl txT) l)).set 2 (.ptr 0 0)).set 6 (.clo 246 [0])).set 7 (.own 1)).set 8 (.val i64T room)).set 9 (.val zm (zet l))).set 46 (.val (bsl txT) l)).set 47 (.val i64T (l.length:Int))).set 48 (.val i64T (k:Int))) (fun(k,out,room)=>(Hp.none.set 0 (.box 61 (bsl zbm) p)).set 1 (.row 293 zbm out)) (fun(k,out,room)=>k≤l.length∧zaZ out=true∧zfB p 50 (zfb l 0)=zfB out room (zfb l k)) (fun(k,out,room)=>l.length-k) ((0,p,50)) (⟨uf _,hmp,rfl⟩) ?_;intro⟨k,out,room⟩ hinv;dsimp only at hinv;have hol:=zfg hinv.2.1;refine qak ?_;refine Cf (p:=k<l.length) (fun ht49=>?_) (fun ht49=>?_)
 ·
  exfalso;omega
 have hrun:zfB p 50 (zfb l 0) = .inr (out,room):=by rw[hinv.2.2,zqi k yc];rfl
 refine CE ?_;refine qb1 ?_;refine qaL ?_;refine zn (p:=¬zet l=true) rfl yy (fun ht78=>?_) (fun ht78=>?_)
 ·
  have hnf:=ht78;refine qb6 ?_;refine qch ?_;have hS:zad p l=(out,0):=yb9;exact zV rfl rfl (zh rfl rfl yP) (za rfl yP)
 exact absurd (ua ht78) (by rw[zj4 g38];simp)
theorem zwS {α:Type} {p:α→Bool}:∀{l:List α},idx p l<0→∀x∈l,p x=false
  | [],_,x,hx=>by cases hx
  | y::l,h,x,hx=>by
    unfold idx at h;cases hy:p y with
    | true=>rw[hy] at h;simp at h
    | false =>
      rw[hy] at h;rcases List.mem_cons.1 hx with e|hx
      · rw[e];exact hy
      refine zwS (l:=l) ?_ x hx
      have:=ziI p l
      simp at h
      split at h<;>omega
theorem znn {α:Type} {p:α→Bool}:∀{l:List α},0≤idx p l→∃x,l[(idx p l).toNat]?=some x∧p x=true∧∀(j:Nat) y,l[j]?=some y→p y=true→idx p l≤j
  | [],h=>by simp[idx] at h
  | y::l,h=>by
    cases hy:p y with
    | true =>
      have e:idx p (y::l)=0:=by unfold idx;rw[hy];simp
      rw[e];exact⟨y,rfl,hy,fun j z _ _=>by omega⟩
    | false =>
      by_cases h0:0≤idx p l
      · have e : idx p (y :: l) = idx p l + 1 := by
          conv=>lhs;unfold idx
          rw[hy];simp;omega
        obtain⟨x,h1,h2,h3⟩:=znn h0;refine⟨x,?_,h2,fun j z hj hz=>?_⟩
        · rw[e,show(idx p l+1).toNat=(idx p l).toNat+1 by omega];exact h1
        cases j with
        | zero=>simp at hj;subst hj;rw[hy] at hz;cases hz
        | succ j=>have:=h3 j z (by simpa using hj) hz;rw[e];omega
      exfalso
      have:=ziI p l
      have e:idx p (y::l) = -1:=by
        conv=>lhs;unfold idx
        rw[hy];simp;omega
      omega
theorem idx_lt {α:Type} {p:α→Bool} {l:List α}:idx p l<l.length∨l=[]:=by
  by_cases h:0≤idx p l
  · obtain⟨x,hx,_⟩:=znn h
    have:=(ul.1 hx).1
    left;omega
  cases l with
  | nil=>right;rfl
  | cons a l=>left;simp;omega
def tot {α:Type} (f:α→Int):List α→Int
  | []=>0
  | x::l=>f x+tot f l
theorem zp0 {α:Type} {f:α→Int}:∀{l m:List α},tot f (l++m)=tot f l+tot f m
  | [],m=>by simp[tot]
  | x::l,m=>by rw[List.cons_append,tot,tot,zp0];omega
theorem tot_perm {α:Type} {f:α→Int} {l m:List α} (h:l.Perm m):tot f l=tot f m:=by
  induction h with
  | nil=>rfl
  | cons x _ ih=>rw[tot,tot,ih]
  | swap x y l=>simp only[tot];omega
  | trans _ _ h1 h2=>exact h1.trans h2
theorem tot_del {α:Type} {f:α→Int} {x:α}:∀{l:List α} {i:Nat},l[i]?=some x→tot f (l.take i++l.drop (i+1))+f x=tot f l
  | [],i,h=>by simp at h
  | y::l,0,h=>by simp at h;subst h;simp[tot];omega
  | y::l,i+1,h=>by
    have:=tot_del (f:=f) (l:=l) (i:=i) (by simpa using h)
    simp only[List.take_succ_cons,List.drop_succ_cons,List.cons_append,tot];omega
theorem znM {α:Type} {f:α→Int}:∀{l:List α},(∀x∈l,0≤f x)→0≤tot f l
  | [],_=>Int.le_refl _
  | x::l,h=>by
    have:=znM (f:=f) (l:=l) fun y hy=>h y (List.mem_cons_of_mem _ hy)
    have:=h x List.mem_cons_self
    rw[tot];omega
theorem tot_le {α:Type} {f:α→Int} {M:Int}:∀{l:List α},(∀x∈l,f x≤M)→tot f l≤M*l.length
  | [],_=>by simp[tot]
  | x::l,h=>by
    have:=tot_le (f:=f) (M:=M) (l:=l) fun y hy=>h y (List.mem_cons_of_mem _ hy)
    have:=h x List.mem_cons_self
    rw[tot,List.length_cons,Int.natCast_add,Int.mul_add];omega
theorem zw5 {α:Type} {f:α→Int} {M:Int} (hM:0≤M):∀{l:List α} {n:Int},(∀x∈l,0≤f x∧f x≤M)→0≤n→n+M*l.length≤9223372036854775807→l.foldl (fun n x=>IntKind.i64.wrap (n+f x)) n=n+tot f l
  | [],n,_,_,_=>by simp[tot]
  | x::l,n,h,h0,h1=>by
    have hx:=h x List.mem_cons_self;rw[List.length_cons,Int.natCast_add,Int.mul_add] at h1;have h2:0≤M*l.length:=Int.mul_nonneg hM (Int.natCast_nonneg _);have e:IntKind.i64.wrap (n+f x)=n+f x:=zax yc;rw[List.foldl_cons,e,zw5 hM (fun y hy=>h y (List.mem_cons_of_mem _ hy)) yc yc,tot];omega
theorem worth_tot {α:Type} {f:α→Int} {l:List α} (h:∀x∈l,0≤f x∧f x≤2199023255552) (hl:l.length≤60):zf7 f l=tot f l:=by
  have:=zw5 (f:=f) (M:=2199023255552) yp (n:=0) h (Int.le_refl _) yc
  unfold zf7;rw[this];omega
theorem zlh {p:List Coin} (h:∀c∈p,zgR c=true):∀c∈p,0≤c.out.v∧c.out.v≤1099511627776:=fun c hc=>by
  have:=of_decide_eq_true (h c hc)
  omega
theorem zo4 {p:List Coin} (h:∀c∈p,zgR c=true) (hl:p.length≤48):0≤tot (·.out.v) p∧tot (·.out.v) p≤52776558133248:=by
  have h:=zlh h;refine⟨znM fun x hx=>(h x hx).1,?_⟩
  have:=tot_le (f:=fun c:Coin=>c.out.v) (M:=1099511627776) (l:=p) fun x hx=>(h x hx).2
  omega
theorem outs_pos {t:Tx} (h:zeU t=true):∀o∈t.outs,0≤o.v∧o.v≤1099511627776:=fun o ho=>by
  have h1:=zsY h o ho;unfold zwv at h1
  have:=of_decide_eq_false h1
  omega
theorem zwt {t:Tx} (h:zeU t=true):zf7 (·.v) t.outs=tot (·.v) t.outs∧0≤tot (·.v) t.outs∧tot (·.v) t.outs≤3298534883328:=by
  have h1:=outs_pos h;have h3:=(zfW h).2.2;refine⟨worth_tot (fun x hx=>by have:=h1 x hx;omega) yc,znM fun x hx=>(h1 x hx).1,?_⟩
  have:=tot_le (f:=fun o:Out=>o.v) (M:=1099511627776) (l:=t.outs) fun x hx=>(h1 x hx).2
  omega
theorem zip_tot {id:Ab.Id}:∀{outs:List Out} {k:Nat},tot (·.out.v) ((outs.zipIdx k).map fun x=>(⟨⟨id,(x.2:Int)⟩,x.1⟩:Coin))=tot (·.v) outs
  | [],_=>rfl
  | o::outs,k=>by rw[List.zipIdx_cons,List.map_cons,tot,tot,zip_tot]
theorem newN_tot {id:Ab.Id} {outs:List Out}:tot (·.out.v) (newN id outs outs.length)=tot (·.v) outs:=by
  unfold newN;rw[List.take_length];exact zip_tot
theorem zqp {p:List Coin} {t:Tx} (h:(zb9 p t).2=0):tot (·.out.v) (zb9 p t).1=tot (·.out.v) p+tot (·.v) t.outs∧(zb9 p t).1.length=p.length+t.outs.length:=by
  unfold zb9 at h ⊢
  split
  · rename_i e;rw[ut e] at h;exact absurd h yp
  refine⟨?_,?_⟩
  · rw[tot_perm (zjf _),zp0,newN_tot]
  rw[(zjf _).length_eq,ue,zrI (ug _)]
theorem znO:∀{ins:List In} {p rest:List Coin} {n m:Int},zdy p n ins=some (rest,m)→(∀c∈p,zgR c=true)→p.length≤48→0≤n→n+tot (·.out.v) p≤52776558133248→m+tot (·.out.v) rest=n+tot (·.out.v) p∧n≤m∧rest.length+ins.length=p.length
  | [],p,rest,n,m,h,_,_,_,_=>by
    rw[zdy.eq_1] at h;injection h with h;injection h with h1 h2;subst h1;subst h2;exact⟨rfl,Int.le_refl _,rfl⟩
  | x::ins,p,rest,n,m,h,ho,hl,h0,h1=>by
    rw[zdy.eq_2] at h
    split at h
    · cases h
    rename_i c hc
    split at h
    · have hd:=tot_del (f:=fun c:Coin=>c.out.v) hc
      have hcm:=zlh ho c (ud hc);have hlt:=(ul.1 hc).1;have hsub:(p.take (placeOf p x)++p.drop (placeOf p x+1)).Sublist p:=by
        rw[←List.eraseIdx_eq_take_drop_succ];exact List.eraseIdx_sublist _ _
      have hp:=znM (f:=fun c:Coin=>c.out.v) (l:=p.take (placeOf p x)++p.drop (placeOf p x+1)) fun y hy=>(zlh ho y (hsub.subset hy)).1
      have hll:(p.take (placeOf p x)++p.drop (placeOf p x+1)).length+1=p.length:=yx;have e:IntKind.i64.wrap (n+c.out.v)=n+c.out.v:=zax yc;rw[e] at h
      have:=znO h (fun y hy=>ho y (hsub.subset hy)) yc yc yc
      rw[List.length_cons];omega
    cases h
theorem zuN {p:List Coin} {t:Tx} (h:zaZ p=true):0≤(zai p t).2.1∧tot (·.out.v) (zai p t).1+(zai p t).2.1=tot (·.out.v) p∧((zai p t).2.2≠0→(zai p t).1=p∧(zai p t).2.1=0):=by
  obtain⟨h1,h2,h3⟩:=zbc.1 h;have hT:=zo4 h1 h3;unfold zai
  split
  · exact⟨Int.le_refl _,by simp,fun _=>⟨rfl,rfl⟩⟩
  rename_i hn;have hn:=ua hn
  split
  · exact⟨Int.le_refl _,by simp,fun _=>⟨rfl,rfl⟩⟩
  rename_i rest n hrest;have ht:=znO hrest h1 h3 (Int.le_refl _) yc;have ho:=zwt hn.2.1;have hsub:=zir hrest;have hr:=znM (f:=fun c:Coin=>c.out.v) (l:=rest) fun c hc=>(zlh h1 c (hsub.subset hc)).1
  split
  · exact⟨Int.le_refl _,by simp,fun _=>⟨rfl,rfl⟩⟩
  rename_i hw;rw[ho.1] at hw ⊢;have e:IntKind.i64.wrap (n-tot (·.v) t.outs)=n-tot (·.v) t.outs:=zax yc;rw[e] at hw ⊢
  split
  · rename_i hm
    have hmt:=(zqp hm).1
    split
    · exact⟨Int.le_refl _,by simp,fun _=>⟨rfl,rfl⟩⟩
    exact⟨by simp only[];omega,by simp only[];omega,fun h=>absurd rfl h⟩
  exact⟨Int.le_refl _,by simp,fun _=>⟨rfl,rfl⟩⟩
theorem zqd:∀{l:List Tx} {p out:List Coin} {r r':Int},zfB p r l = .inr (out,r')→zaZ p=true→0≤r→tot (·.out.v) p+r≤52776558133398→zaZ out=true∧r≤r'∧tot (·.out.v) out+r'=tot (·.out.v) p+r
  | [],p,out,r,r',h,hp,_,_=>by
    rw[zfB.eq_1] at h;injection h with h;injection h with h1 h2;subst h1;subst h2;exact⟨hp,Int.le_refl _,rfl⟩
  | t::l,p,out,r,r',h,hp,h0,h1=>by
    rw[zfB.eq_2] at h
    split at h
    · have hs:=zuN (t:=t) hp
      have hm:=zhz (t:=t) hp;have hT:=zo4 (zbc.1 hm).1 (zbc.1 hm).2.2;have e:IntKind.i64.wrap (r+(zai p t).2.1)=r+(zai p t).2.1:=zax yc;rw[e] at h
      have:=zqd h hm yc yc
      exact⟨this.1,by omega,by omega⟩
    cases h
theorem zvS {p:List Coin} {l:List Tx} (h:zaZ p=true):zaZ (zad p l).1=true∧tot (·.out.v) (zad p l).1≤tot (·.out.v) p+50∧((zad p l).2≠0→(zad p l).1=p):=by
  have hT:=zo4 (zbc.1 h).1 (zbc.1 h).2.2;have same:∀e:Int,zaZ p=true∧tot (·.out.v) p≤tot (·.out.v) p+50∧(e≠0→p=p):=fun _=>⟨h,by omega,fun _=>rfl⟩
  unfold zad;rw[ur (Classical.not_not.2 h)]
  split
  · exact same _
  split
  · exact same _
  rename_i out room hr;have hrt:=zqd hr h yp yc
  split
  · exact⟨hrt.1,by simp only[];omega,fun h=>absurd rfl h⟩
  rename_i t _
  split
  · exact same _
  rename_i hmt;have hmt:=ua hmt;have ho:=zwt hmt
  split
  · exact same _
  rename_i hm;have hm:=ua hm
  split
  · exact same _
  rename_i hw;rw[ho.1] at hw
  split
  · exact same _
  rename_i hl;have hg:=zom (p:=out) (zbc.1 hrt.1).1 (zbc.1 hrt.1).2.1 hmt;have hmt:=(zqp hm).1;exact⟨zbc.2 ⟨hg.1,hg.2,Nat.le_of_not_lt hl⟩,by simp only[];omega,fun h=>absurd rfl h⟩
theorem zgg (x:UInt64) {m:Nat} (h:m≤64):(za6 x m).toNat=x.toNat/2^m:=by
  have hx:x.toNat<18446744073709551616:=x.toNat_lt;unfold za6;rw[UInt64.toNat_ofNat_of_lt' (Nat.lt_of_le_of_lt (Nat.div_le_self _ _) hx),Nat.min_eq_left h]
theorem shr_zero (x:UInt64):x=za6 x (8*0):=by
  apply UInt64.toNat_inj.1;rw[zgg x yp];simp
end Go.Proofs.YtikaeepohlkjdaaGreat
