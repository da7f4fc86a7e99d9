/- Facts on the types of this seat's program, by number. PRINTED BY gen_facts.py. -/
import Derived.Test.YtmfgemnmelbflaaParts
import Derived.Test.YtmfgemnmelbflaaTy
import Derived.Test.YtmfgemnmelbflaaProg
import Derived.KernelRfl
set_option maxRecDepth 100000
namespace Go.Proofs.Ytmfgemnmelbflaa
set_option linter.unusedVariables false
set_option linter.unusedSimpArgs false
open Go.Ab
noncomputable abbrev P : Program := Go.Proofs.Try.prog

theorem ty_1 : tyB P 1 1 false = true := by kernel_rfl
theorem ty_2 : tyB P 2 1 false = true := by kernel_rfl
theorem ty_3 : tyB P 3 1 false = true := by kernel_rfl
theorem ui_3 : P.underlying 3 = some (.int .i64) := by kernel_rfl
theorem us_3 : (P.underlying 3).isSome = true := by kernel_rfl
theorem ze_3 : ZeroAt P 3 i64T 0 := zeroAt_one zero_i64 (by kernel_rfl)
theorem ty_4 : tyB P 4 1 false = true := by kernel_rfl
theorem ze_4 : ZeroAt P 4 boolT false := zeroAt_one zero_bool (by kernel_rfl)
theorem ty_5 : tyB P 5 1 false = true := by kernel_rfl
theorem ui_5 : P.underlying 5 = some (.int .u8) := by kernel_rfl
theorem us_5 : (P.underlying 5).isSome = true := by kernel_rfl
theorem ze_5 : ZeroAt P 5 u8T 0 := zeroAt_one zero_u8 (by kernel_rfl)
theorem ty_12 : tyB P 12 1 false = true := by kernel_rfl
theorem ty_13 : tyB P 13 2 true = true := by kernel_rfl
theorem bd_13 : (match P.underlying 13 with | some (.struct fs) => fs.all fun f => (P.info? f.type).isSome | _ => false) = true := by kernel_rfl
theorem fd_13_0 : fieldB P 13 0 0 9 = true := by kernel_rfl
theorem fd_13_1 : fieldB P 13 1 1 12 = true := by kernel_rfl
theorem ty_20 : tyB P 20 1 false = true := by kernel_rfl
theorem ty_21 : tyB P 21 1 false = true := by kernel_rfl
theorem ty_22 : tyB P 22 1 false = true := by kernel_rfl
theorem row_22 : rowB P 22 50 35 56 = true := by kernel_rfl
theorem sl_22 : sliceB P 22 50 35 = true := by kernel_rfl
theorem isl_22 : (match P.underlying 22 with | some (.slice _) => true | _ => false) = true := by kernel_rfl
theorem ze_22 : ZeroAt P 22 (sl coinT) [] := zeroAt_one zero_sl (by kernel_rfl)
theorem ty_23 : tyB P 23 1 false = true := by kernel_rfl
theorem row_23 : rowB P 23 42 33 40 = true := by kernel_rfl
theorem sl_23 : sliceB P 23 42 33 = true := by kernel_rfl
theorem isl_23 : (match P.underlying 23 with | some (.slice _) => true | _ => false) = true := by kernel_rfl
theorem ze_23 : ZeroAt P 23 (sl inT) [] := zeroAt_one zero_sl (by kernel_rfl)
theorem ty_24 : tyB P 24 1 false = true := by kernel_rfl
theorem row_24 : rowB P 24 48 2 16 = true := by kernel_rfl
theorem sl_24 : sliceB P 24 48 2 = true := by kernel_rfl
theorem isl_24 : (match P.underlying 24 with | some (.slice _) => true | _ => false) = true := by kernel_rfl
theorem ze_24 : ZeroAt P 24 (sl outT) [] := zeroAt_one zero_sl (by kernel_rfl)
theorem ty_25 : tyB P 25 2 true = true := by kernel_rfl
theorem bd_25 : (match P.underlying 25 with | some (.struct fs) => fs.all fun f => (P.info? f.type).isSome | _ => false) = true := by kernel_rfl
theorem fd_25_0 : fieldB P 25 0 0 23 = true := by kernel_rfl
theorem fd_25_1 : fieldB P 25 1 1 24 = true := by kernel_rfl
theorem ty_26 : tyB P 26 2 true = true := by kernel_rfl
theorem bd_26 : (match P.underlying 26 with | some (.struct fs) => fs.all fun f => (P.info? f.type).isSome | _ => false) = true := by kernel_rfl
theorem fd_26_0 : fieldB P 26 0 0 23 = true := by kernel_rfl
theorem fd_26_1 : fieldB P 26 1 1 24 = true := by kernel_rfl
theorem ze_26 : ZeroAt P 26 txT zTx := zeroAt_agg zero_Tx (by kernel_rfl)
theorem ty_27 : tyB P 27 1 false = true := by kernel_rfl
theorem row_27 : rowB P 27 26 2 48 = true := by kernel_rfl
theorem sl_27 : sliceB P 27 26 2 = true := by kernel_rfl
theorem isl_27 : (match P.underlying 27 with | some (.slice _) => true | _ => false) = true := by kernel_rfl
theorem ze_27 : ZeroAt P 27 (sl txT) [] := zeroAt_one zero_sl (by kernel_rfl)
theorem ty_28 : tyB P 28 1 false = true := by kernel_rfl
theorem ty_29 : tyB P 29 1 false = true := by kernel_rfl
theorem ty_30 : tyB P 30 1 false = true := by kernel_rfl
theorem ty_31 : tyB P 31 1 false = true := by kernel_rfl
theorem ui_31 : P.underlying 31 = some (.int .i64) := by kernel_rfl
theorem us_31 : (P.underlying 31).isSome = true := by kernel_rfl
theorem ze_31 : ZeroAt P 31 i64T 0 := zeroAt_one zero_i64 (by kernel_rfl)
theorem ty_33 : tyB P 33 1 false = true := by kernel_rfl
theorem ty_35 : tyB P 35 1 false = true := by kernel_rfl
theorem ty_36 : tyB P 36 1 false = true := by kernel_rfl
theorem ty_37 : tyB P 37 1 false = true := by kernel_rfl
theorem ty_38 : tyB P 38 1 false = true := by kernel_rfl
theorem ty_39 : tyB P 39 32 true = true := by kernel_rfl
theorem ar_39 : arrB P 39 32 5 1 = true := by kernel_rfl
theorem ze_39 : ZeroAt P 39 idT zId := zeroAt_agg zero_id (by kernel_rfl)
theorem ty_40 : tyB P 40 32 true = true := by kernel_rfl
theorem ar_40 : arrB P 40 32 5 1 = true := by kernel_rfl
theorem ze_40 : ZeroAt P 40 idT zId := zeroAt_agg zero_id (by kernel_rfl)
theorem ty_41 : tyB P 41 33 true = true := by kernel_rfl
theorem bd_41 : (match P.underlying 41 with | some (.struct fs) => fs.all fun f => (P.info? f.type).isSome | _ => false) = true := by kernel_rfl
theorem fd_41_0 : fieldB P 41 0 0 40 = true := by kernel_rfl
theorem fd_41_1 : fieldB P 41 1 32 3 = true := by kernel_rfl
theorem ty_42 : tyB P 42 33 true = true := by kernel_rfl
theorem bd_42 : (match P.underlying 42 with | some (.struct fs) => fs.all fun f => (P.info? f.type).isSome | _ => false) = true := by kernel_rfl
theorem fd_42_0 : fieldB P 42 0 0 40 = true := by kernel_rfl
theorem fd_42_1 : fieldB P 42 1 32 3 = true := by kernel_rfl
theorem ze_42 : ZeroAt P 42 inT zIn := zeroAt_agg zero_In (by kernel_rfl)
theorem ty_43 : tyB P 43 1 false = true := by kernel_rfl
theorem ty_44 : tyB P 44 1 false = true := by kernel_rfl
theorem ty_45 : tyB P 45 1 false = true := by kernel_rfl
theorem ty_46 : tyB P 46 1 false = true := by kernel_rfl
theorem ty_47 : tyB P 47 2 true = true := by kernel_rfl
theorem bd_47 : (match P.underlying 47 with | some (.struct fs) => fs.all fun f => (P.info? f.type).isSome | _ => false) = true := by kernel_rfl
theorem fd_47_0 : fieldB P 47 0 0 3 = true := by kernel_rfl
theorem fd_47_1 : fieldB P 47 1 1 3 = true := by kernel_rfl
theorem ty_48 : tyB P 48 2 true = true := by kernel_rfl
theorem bd_48 : (match P.underlying 48 with | some (.struct fs) => fs.all fun f => (P.info? f.type).isSome | _ => false) = true := by kernel_rfl
theorem fd_48_0 : fieldB P 48 0 0 3 = true := by kernel_rfl
theorem fd_48_1 : fieldB P 48 1 1 3 = true := by kernel_rfl
theorem ze_48 : ZeroAt P 48 outT zOut := zeroAt_agg zero_Out (by kernel_rfl)
theorem ty_49 : tyB P 49 35 true = true := by kernel_rfl
theorem bd_49 : (match P.underlying 49 with | some (.struct fs) => fs.all fun f => (P.info? f.type).isSome | _ => false) = true := by kernel_rfl
theorem fd_49_0 : fieldB P 49 0 0 42 = true := by kernel_rfl
theorem fd_49_1 : fieldB P 49 1 33 48 = true := by kernel_rfl
theorem ty_50 : tyB P 50 35 true = true := by kernel_rfl
theorem bd_50 : (match P.underlying 50 with | some (.struct fs) => fs.all fun f => (P.info? f.type).isSome | _ => false) = true := by kernel_rfl
theorem fd_50_0 : fieldB P 50 0 0 42 = true := by kernel_rfl
theorem fd_50_1 : fieldB P 50 1 33 48 = true := by kernel_rfl
theorem ze_50 : ZeroAt P 50 coinT zCoin := zeroAt_agg zero_Coin (by kernel_rfl)
theorem ty_51 : tyB P 51 1 false = true := by kernel_rfl
theorem ty_52 : tyB P 52 1 false = true := by kernel_rfl
theorem ty_53 : tyB P 53 1 false = true := by kernel_rfl
theorem ty_54 : tyB P 54 1 false = true := by kernel_rfl
theorem ty_55 : tyB P 55 1 false = true := by kernel_rfl
theorem ty_56 : tyB P 56 1 false = true := by kernel_rfl
theorem ty_58 : tyB P 58 1 false = true := by kernel_rfl
theorem ty_59 : tyB P 59 1 false = true := by kernel_rfl
theorem ty_60 : tyB P 60 1 false = true := by kernel_rfl
theorem ty_61 : tyB P 61 1 false = true := by kernel_rfl
theorem ty_62 : tyB P 62 1 false = true := by kernel_rfl
theorem ty_63 : tyB P 63 1 false = true := by kernel_rfl
theorem ty_64 : tyB P 64 1 false = true := by kernel_rfl
theorem ty_65 : tyB P 65 1 false = true := by kernel_rfl
theorem ty_66 : tyB P 66 1 false = true := by kernel_rfl
theorem ty_67 : tyB P 67 1 false = true := by kernel_rfl
theorem ty_68 : tyB P 68 1 false = true := by kernel_rfl
theorem ty_69 : tyB P 69 1 false = true := by kernel_rfl
theorem ty_70 : tyB P 70 1 false = true := by kernel_rfl
theorem ty_71 : tyB P 71 1 false = true := by kernel_rfl
theorem row_71 : rowB P 71 5 1 1 = true := by kernel_rfl
theorem sl_71 : sliceB P 71 5 1 = true := by kernel_rfl
theorem isl_71 : (match P.underlying 71 with | some (.slice _) => true | _ => false) = true := by kernel_rfl
theorem ze_71 : ZeroAt P 71 (sl u8T) [] := zeroAt_one zero_sl (by kernel_rfl)
theorem ty_73 : tyB P 73 1 false = true := by kernel_rfl
theorem ty_74 : tyB P 74 1 false = true := by kernel_rfl
theorem ty_75 : tyB P 75 1 false = true := by kernel_rfl
theorem ty_76 : tyB P 76 1 false = true := by kernel_rfl
theorem ty_77 : tyB P 77 1 false = true := by kernel_rfl
theorem ty_78 : tyB P 78 1 false = true := by kernel_rfl
theorem ty_79 : tyB P 79 1 false = true := by kernel_rfl
theorem ty_80 : tyB P 80 1 false = true := by kernel_rfl
theorem ty_81 : tyB P 81 1 false = true := by kernel_rfl
theorem ty_82 : tyB P 82 1 false = true := by kernel_rfl
theorem ty_83 : tyB P 83 1 false = true := by kernel_rfl
theorem ty_84 : tyB P 84 1 false = true := by kernel_rfl
theorem ty_85 : tyB P 85 1 false = true := by kernel_rfl
theorem ty_86 : tyB P 86 1 false = true := by kernel_rfl
theorem row_86 : rowB P 86 71 1 24 = true := by kernel_rfl
theorem sl_86 : sliceB P 86 71 1 = true := by kernel_rfl
theorem isl_86 : (match P.underlying 86 with | some (.slice _) => true | _ => false) = true := by kernel_rfl
theorem ze_86 : ZeroAt P 86 (sl (sl u8T)) [] := zeroAt_one zero_sl (by kernel_rfl)
theorem ty_87 : tyB P 87 1 false = true := by kernel_rfl
theorem ty_88 : tyB P 88 1 false = true := by kernel_rfl
theorem ty_89 : tyB P 89 1 false = true := by kernel_rfl
theorem ty_90 : tyB P 90 1 false = true := by kernel_rfl
theorem ty_91 : tyB P 91 1 false = true := by kernel_rfl
theorem ty_92 : tyB P 92 1 false = true := by kernel_rfl
theorem ty_93 : tyB P 93 1 false = true := by kernel_rfl
theorem ui_93 : P.underlying 93 = some (.int .u64) := by kernel_rfl
theorem us_93 : (P.underlying 93).isSome = true := by kernel_rfl
theorem ze_93 : ZeroAt P 93 u64T 0 := zeroAt_one zero_u64 (by kernel_rfl)
theorem ty_94 : tyB P 94 1 false = true := by kernel_rfl
theorem ty_95 : tyB P 95 1 false = true := by kernel_rfl
theorem ty_96 : tyB P 96 1 false = true := by kernel_rfl
theorem ty_97 : tyB P 97 1 false = true := by kernel_rfl
theorem ty_98 : tyB P 98 1 false = true := by kernel_rfl
theorem ui_98 : P.underlying 98 = some (.int .u64) := by kernel_rfl
theorem us_98 : (P.underlying 98).isSome = true := by kernel_rfl
theorem ze_98 : ZeroAt P 98 u64T 0 := zeroAt_one zero_u64 (by kernel_rfl)
theorem ty_99 : tyB P 99 1 false = true := by kernel_rfl
theorem ty_100 : tyB P 100 1 false = true := by kernel_rfl
theorem ty_101 : tyB P 101 1 false = true := by kernel_rfl
theorem row_101 : rowB P 101 3 1 8 = true := by kernel_rfl
theorem sl_101 : sliceB P 101 3 1 = true := by kernel_rfl
theorem isl_101 : (match P.underlying 101 with | some (.slice _) => true | _ => false) = true := by kernel_rfl
theorem ze_101 : ZeroAt P 101 (sl i64T) [] := zeroAt_one zero_sl (by kernel_rfl)
theorem ty_102 : tyB P 102 1 false = true := by kernel_rfl
theorem ty_103 : tyB P 103 1 false = true := by kernel_rfl
theorem zp_103 : (P.info? 103).bind (·.zero) = some (.pointer none) := by kernel_rfl
theorem ty_104 : tyB P 104 1 false = true := by kernel_rfl
theorem ui_104 : P.underlying 104 = some (.int .u32) := by kernel_rfl
theorem us_104 : (P.underlying 104).isSome = true := by kernel_rfl
theorem ze_104 : ZeroAt P 104 u32T 0 := zeroAt_one zero_u32 (by kernel_rfl)
theorem ty_105 : tyB P 105 8 true = true := by kernel_rfl
theorem ar_105 : arrB P 105 8 104 1 = true := by kernel_rfl
theorem ze_105 : ZeroAt P 105 (arrT 8 (by decide) u32T) (List.replicate 8 0) := zeroAt_agg (zero_arr (by decide) zero_u32) (by kernel_rfl)
theorem ty_106 : tyB P 106 8 true = true := by kernel_rfl
theorem ar_106 : arrB P 106 8 104 1 = true := by kernel_rfl
theorem ze_106 : ZeroAt P 106 (arrT 8 (by decide) u32T) (List.replicate 8 0) := zeroAt_agg (zero_arr (by decide) zero_u32) (by kernel_rfl)
theorem ty_107 : tyB P 107 1 false = true := by kernel_rfl
theorem ty_108 : tyB P 108 1 false = true := by kernel_rfl
theorem ty_109 : tyB P 109 1 false = true := by kernel_rfl
theorem ty_110 : tyB P 110 1 false = true := by kernel_rfl
theorem ty_111 : tyB P 111 1 false = true := by kernel_rfl
theorem ty_112 : tyB P 112 1 false = true := by kernel_rfl
theorem ty_113 : tyB P 113 1 false = true := by kernel_rfl
theorem ty_114 : tyB P 114 1 false = true := by kernel_rfl
theorem ty_116 : tyB P 116 1 false = true := by kernel_rfl
theorem ty_117 : tyB P 117 1 false = true := by kernel_rfl
theorem ty_118 : tyB P 118 1 false = true := by kernel_rfl
theorem ty_119 : tyB P 119 1 false = true := by kernel_rfl
theorem ty_120 : tyB P 120 1 false = true := by kernel_rfl
theorem ty_121 : tyB P 121 1 false = true := by kernel_rfl
theorem ty_122 : tyB P 122 1 false = true := by kernel_rfl
theorem row_122 : rowB P 122 104 1 4 = true := by kernel_rfl
theorem sl_122 : sliceB P 122 104 1 = true := by kernel_rfl
theorem isl_122 : (match P.underlying 122 with | some (.slice _) => true | _ => false) = true := by kernel_rfl
theorem ze_122 : ZeroAt P 122 (sl u32T) [] := zeroAt_one zero_sl (by kernel_rfl)
theorem ty_123 : tyB P 123 1 false = true := by kernel_rfl
theorem ty_124 : tyB P 124 1 false = true := by kernel_rfl
theorem ty_125 : tyB P 125 1 false = true := by kernel_rfl
theorem ty_126 : tyB P 126 1 false = true := by kernel_rfl
theorem ty_127 : tyB P 127 64 true = true := by kernel_rfl
theorem ar_127 : arrB P 127 64 104 1 = true := by kernel_rfl
theorem ze_127 : ZeroAt P 127 (arrT 64 (by decide) u32T) (List.replicate 64 0) := zeroAt_agg (zero_arr (by decide) zero_u32) (by kernel_rfl)
theorem ty_128 : tyB P 128 1 false = true := by kernel_rfl
theorem ty_129 : tyB P 129 1 false = true := by kernel_rfl
theorem ty_130 : tyB P 130 1 false = true := by kernel_rfl
theorem ty_131 : tyB P 131 1 false = true := by kernel_rfl
theorem ty_132 : tyB P 132 1 false = true := by kernel_rfl
theorem ty_133 : tyB P 133 1 false = true := by kernel_rfl
theorem ty_134 : tyB P 134 1 false = true := by kernel_rfl
theorem zp_134 : (P.info? 134).bind (·.zero) = some (.pointer none) := by kernel_rfl
theorem ty_135 : tyB P 135 1 false = true := by kernel_rfl
theorem ty_136 : tyB P 136 1 false = true := by kernel_rfl
theorem zp_136 : (P.info? 136).bind (·.zero) = some (.pointer none) := by kernel_rfl
theorem ty_138 : tyB P 138 1 false = true := by kernel_rfl
theorem ty_139 : tyB P 139 1 false = true := by kernel_rfl
theorem ty_140 : tyB P 140 1 false = true := by kernel_rfl
theorem ty_146 : tyB P 146 1 false = true := by kernel_rfl
theorem ty_149 : tyB P 149 1 false = true := by kernel_rfl
theorem ty_150 : tyB P 150 1 false = true := by kernel_rfl
theorem zp_150 : (P.info? 150).bind (·.zero) = some (.pointer none) := by kernel_rfl
theorem eqk_3 (d : Nat) : EqOk P 3 i64T (d + 1) := eq_int (by kernel_rfl) d
theorem ub_4 : P.underlying 4 = some .bool := by kernel_rfl
theorem eqk_5 (d : Nat) : EqOk P 5 u8T (d + 1) := eq_u8 (by kernel_rfl) d
theorem eqk_31 (d : Nat) : EqOk P 31 i64T (d + 1) := eq_int (by kernel_rfl) d
theorem eqk_39 (d : Nat) : EqOk P 39 idT (d + 2) := eq_arr ar_39 ty_5 (eqk_5 d)
theorem eqt_39 : EqTy P 39 idT := ⟨eqk_39 9998, rfl, by kernel_rfl⟩
theorem eqk_40 (d : Nat) : EqOk P 40 idT (d + 2) := eq_arr ar_40 ty_5 (eqk_5 d)
theorem eqt_40 : EqTy P 40 idT := ⟨eqk_40 9998, rfl, by kernel_rfl⟩
theorem eqk_42 (d : Nat) : EqOk P 42 inT (d + 3) := eq_struct (n := 2) (by kernel_rfl) rfl (.cons fd_42_0 L_In_tx ty_40 (eqk_40 (d + 0)) (.cons fd_42_1 L_In_i ty_3 (eqk_3 (d + 1)) .nil)) eqx_In
theorem eqt_42 : EqTy P 42 inT := ⟨eqk_42 9997, rfl, by kernel_rfl⟩
theorem eqk_48 (d : Nat) : EqOk P 48 outT (d + 2) := eq_struct (n := 2) (by kernel_rfl) rfl (.cons fd_48_0 L_Out_v ty_3 (eqk_3 (d + 0)) (.cons fd_48_1 L_Out_to ty_3 (eqk_3 (d + 0)) .nil)) eqx_Out
theorem eqt_48 : EqTy P 48 outT := ⟨eqk_48 9998, rfl, by kernel_rfl⟩
theorem eqk_50 (d : Nat) : EqOk P 50 coinT (d + 4) := eq_struct (n := 2) (by kernel_rfl) rfl (.cons fd_50_0 L_Coin_inn ty_42 (eqk_42 (d + 0)) (.cons fd_50_1 L_Coin_out ty_48 (eqk_48 (d + 1)) .nil)) eqx_Coin
theorem eqt_50 : EqTy P 50 coinT := ⟨eqk_50 9996, rfl, by kernel_rfl⟩
theorem eqk_93 (d : Nat) : EqOk P 93 u64T (d + 1) := eq_u64 (by kernel_rfl) d
theorem eqk_98 (d : Nat) : EqOk P 98 u64T (d + 1) := eq_u64 (by kernel_rfl) d
theorem eqk_104 (d : Nat) : EqOk P 104 u32T (d + 1) := eq_u32 (by kernel_rfl) d
theorem fn_3 : fnB P 3 = true := by kernel_rfl
theorem fn_4 : fnB P 4 = true := by kernel_rfl
theorem fn_5 : fnB P 5 = true := by kernel_rfl
theorem fn_6 : fnB P 6 = true := by kernel_rfl
theorem fn_7 : fnB P 7 = true := by kernel_rfl
theorem fn_8 : fnB P 8 = true := by kernel_rfl
theorem fn_9 : fnB P 9 = true := by kernel_rfl
theorem fn_10 : fnB P 10 = true := by kernel_rfl
theorem fn_11 : fnB P 11 = true := by kernel_rfl
theorem fn_12 : fnB P 12 = true := by kernel_rfl
theorem fn_13 : fnB P 13 = true := by kernel_rfl
theorem fn_14 : fnB P 14 = true := by kernel_rfl
theorem fn_15 : fnB P 15 = true := by kernel_rfl
theorem fn_16 : fnB P 16 = true := by kernel_rfl
theorem fn_17 : fnB P 17 = true := by kernel_rfl
theorem fn_18 : fnB P 18 = true := by kernel_rfl
theorem fn_19 : fnB P 19 = true := by kernel_rfl
theorem fn_20 : fnB P 20 = true := by kernel_rfl
theorem fn_21 : fnB P 21 = true := by kernel_rfl
theorem fn_22 : fnB P 22 = true := by kernel_rfl
theorem fn_23 : fnB P 23 = true := by kernel_rfl
theorem fn_24 : fnB P 24 = true := by kernel_rfl
theorem fn_25 : fnB P 25 = true := by kernel_rfl
theorem fn_26 : fnB P 26 = true := by kernel_rfl
theorem fn_27 : fnB P 27 = true := by kernel_rfl
theorem fn_28 : fnB P 28 = true := by kernel_rfl
theorem fn_29 : fnB P 29 = true := by kernel_rfl
theorem fn_30 : fnB P 30 = true := by kernel_rfl
theorem fn_31 : fnB P 31 = true := by kernel_rfl
theorem fn_32 : fnB P 32 = true := by kernel_rfl
theorem fn_33 : fnB P 33 = true := by kernel_rfl
theorem fn_34 : fnB P 34 = true := by kernel_rfl
theorem fn_35 : fnB P 35 = true := by kernel_rfl
theorem fn_36 : fnB P 36 = true := by kernel_rfl
theorem fn_37 : fnB P 37 = true := by kernel_rfl
theorem fn_38 : fnB P 38 = true := by kernel_rfl
theorem fn_39 : fnB P 39 = true := by kernel_rfl
theorem fn_40 : fnB P 40 = true := by kernel_rfl
theorem fn_41 : fnB P 41 = true := by kernel_rfl
theorem fn_42 : fnB P 42 = true := by kernel_rfl
theorem fn_43 : fnB P 43 = true := by kernel_rfl
theorem fn_44 : fnB P 44 = true := by kernel_rfl
theorem fn_45 : fnB P 45 = true := by kernel_rfl
theorem fn_46 : fnB P 46 = true := by kernel_rfl
theorem fn_47 : fnB P 47 = true := by kernel_rfl
theorem fn_48 : fnB P 48 = true := by kernel_rfl
theorem fn_49 : fnB P 49 = true := by kernel_rfl
theorem fn_50 : fnB P 50 = true := by kernel_rfl
theorem fn_51 : fnB P 51 = true := by kernel_rfl
theorem fn_52 : fnB P 52 = true := by kernel_rfl
theorem fn_53 : fnB P 53 = true := by kernel_rfl
theorem fn_54 : fnB P 54 = true := by kernel_rfl
theorem fn_55 : fnB P 55 = true := by kernel_rfl
theorem fn_56 : fnB P 56 = true := by kernel_rfl
theorem fn_57 : fnB P 57 = true := by kernel_rfl
theorem fn_58 : fnB P 58 = true := by kernel_rfl
theorem fn_59 : fnB P 59 = true := by kernel_rfl
theorem fn_60 : fnB P 60 = true := by kernel_rfl
theorem fn_61 : fnB P 61 = true := by kernel_rfl
theorem fn_62 : fnB P 62 = true := by kernel_rfl
theorem fn_63 : fnB P 63 = true := by kernel_rfl
theorem fn_64 : fnB P 64 = true := by kernel_rfl
theorem fn_65 : fnB P 65 = true := by kernel_rfl
theorem fn_66 : fnB P 66 = true := by kernel_rfl
theorem fn_67 : fnB P 67 = true := by kernel_rfl
theorem fn_68 : fnB P 68 = true := by kernel_rfl
theorem fn_69 : fnB P 69 = true := by kernel_rfl
theorem fn_70 : fnB P 70 = true := by kernel_rfl
theorem fn_71 : fnB P 71 = true := by kernel_rfl
theorem fn_72 : fnB P 72 = true := by kernel_rfl
theorem fn_73 : fnB P 73 = true := by kernel_rfl
theorem fn_75 : fnB P 75 = true := by kernel_rfl
theorem fn_76 : fnB P 76 = true := by kernel_rfl
theorem fn_77 : fnB P 77 = true := by kernel_rfl
theorem fn_78 : fnB P 78 = true := by kernel_rfl
theorem fn_79 : fnB P 79 = true := by kernel_rfl
theorem fn_80 : fnB P 80 = true := by kernel_rfl
theorem fn_81 : fnB P 81 = true := by kernel_rfl
theorem fn_82 : fnB P 82 = true := by kernel_rfl
theorem fn_83 : fnB P 83 = true := by kernel_rfl
theorem fn_84 : fnB P 84 = true := by kernel_rfl
theorem fn_85 : fnB P 85 = true := by kernel_rfl
theorem fn_86 : fnB P 86 = true := by kernel_rfl
theorem fn_87 : fnB P 87 = true := by kernel_rfl
theorem fn_88 : fnB P 88 = true := by kernel_rfl
theorem fn_89 : fnB P 89 = true := by kernel_rfl
theorem fn_90 : fnB P 90 = true := by kernel_rfl
theorem fn_91 : fnB P 91 = true := by kernel_rfl
theorem fn_92 : fnB P 92 = true := by kernel_rfl
theorem fn_93 : fnB P 93 = true := by kernel_rfl
theorem fn_94 : fnB P 94 = true := by kernel_rfl
theorem fn_95 : fnB P 95 = true := by kernel_rfl
theorem fn_96 : fnB P 96 = true := by kernel_rfl
theorem fn_97 : fnB P 97 = true := by kernel_rfl
theorem fn_98 : fnB P 98 = true := by kernel_rfl
theorem fn_99 : fnB P 99 = true := by kernel_rfl
theorem fn_100 : fnB P 100 = true := by kernel_rfl
theorem fn_101 : fnB P 101 = true := by kernel_rfl
theorem fn_102 : fnB P 102 = true := by kernel_rfl
theorem fn_103 : fnB P 103 = true := by kernel_rfl
theorem fn_104 : fnB P 104 = true := by kernel_rfl
theorem fn_105 : fnB P 105 = true := by kernel_rfl
theorem fn_106 : fnB P 106 = true := by kernel_rfl
theorem mixed : P.follows .mixedOrders = true := by kernel_rfl
end Go.Proofs.Ytmfgemnmelbflaa
