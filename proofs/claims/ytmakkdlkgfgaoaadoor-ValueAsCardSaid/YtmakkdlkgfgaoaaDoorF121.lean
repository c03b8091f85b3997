-- Laid by program (wip/tools/genv.sh, pack.py, merge.py of this repo) out of the translation; Lean checks it.
import Derived.Test.YtmakkdlkgfgaoaaDoorF0
import Derived.Test.YtmakkdlkgfgaoaaDoorC0
import Derived.Test.YtmakkdlkgfgaoaaDoorF100
import Derived.Test.YtmakkdlkgfgaoaaDoorF104
import Derived.Test.YtmakkdlkgfgaoaaDoorF108
import Derived.Test.YtmakkdlkgfgaoaaDoorF112
namespace Go.Proofs.YtmakkdlkgfgaoaaDoor.F
open Go.RowKit Go.Proofs.YtmakkdlkgfgaoaaDoorW.PrintWords Go.Proofs.YtmakkdlkgfgaoaaDoorW.PrintLast Go.Proofs.YtmakkdlkgfgaoaaDoorW.PrintMore
attribute [local go_sem] max2_int min2_int max_two min_two max_three min_three max_four min_four
attribute [local go_sem high] bx_cell bx_frozen
set_option linter.unusedVariables false
set_option linter.unusedSimpArgs false

section
attribute [local go_sem high] eqA23 eqA25
/-! ### whittlelaw2_ValueAs: function 11 -/
def whittlelaw2_ValueAs.f (k : Nat) (a0_0 : Int) (a0_1 : Int) (a0_2 : Int) (a0_3 : ByteArray) (a0_4 : Bool) (a0_5 : Int) : Option (Bool) := (value_AsNumber.f k a0_0 a0_1 a0_2 a0_3 a0_4 a0_5).bind fun bt1141 => ((whittleref2_AsNumber.f k a0_0 a0_1 a0_2 a0_3 a0_4 a0_5).bind fun bt1151 => ((value_AsText.f k a0_0 a0_1 a0_2 a0_3 a0_4 a0_5).bind fun bt1161 => ((whittleref2_AsText.f k a0_0 a0_1 a0_2 a0_3 a0_4 a0_5).bind fun bt1169 => ((value_AsTruth.f k a0_0 a0_1 a0_2 a0_3 a0_4 a0_5).bind fun bt1177 => ((whittleref2_AsTruth.f k a0_0 a0_1 a0_2 a0_3 a0_4 a0_5).bind fun bt1185 => ((whittlelaw2_able.f k).bind fun t1193 => (if t1193 = true then (if (bt1141.1 == bt1151.1 && (bt1141.2.1 == bt1151.2.1)) = true then (if (bt1141.2.2.1 == bt1151.2.2.1 && ((bt1141.2.2.2.1 == bt1151.2.2.2.1 && (bt1141.2.2.2.2.1 == bt1151.2.2.2.2.1)) && (bt1141.2.2.2.2.2.1.toList == bt1151.2.2.2.2.2.1.toList && (bt1141.2.2.2.2.2.2.1 == bt1151.2.2.2.2.2.2.1 && (bt1141.2.2.2.2.2.2.2 == bt1151.2.2.2.2.2.2.2))))) = true then (if bt1161.1.toList = bt1169.1.toList then (if (bt1161.2.1 == bt1169.2.1 && ((bt1161.2.2.1 == bt1169.2.2.1 && (bt1161.2.2.2.1 == bt1169.2.2.2.1)) && (bt1161.2.2.2.2.1.toList == bt1169.2.2.2.2.1.toList && (bt1161.2.2.2.2.2.1 == bt1169.2.2.2.2.2.1 && (bt1161.2.2.2.2.2.2 == bt1169.2.2.2.2.2.2))))) = true then (if (bt1177.1 == bt1185.1) = true then (some (bt1177.2.1 == bt1185.2.1 && ((bt1177.2.2.1 == bt1185.2.2.1 && (bt1177.2.2.2.1 == bt1185.2.2.2.1)) && (bt1177.2.2.2.2.1.toList == bt1185.2.2.2.2.1.toList && (bt1177.2.2.2.2.2.1 == bt1185.2.2.2.2.2.1 && (bt1177.2.2.2.2.2.2 == bt1185.2.2.2.2.2.2)))))) else (some false)) else (some false)) else (some false)) else (some false)) else (some false)) else (some false))))))))
theorem whittlelaw2_ValueAs.mono : ∀ a0 a1 a2 a3 a4 a5 k, LeO (whittlelaw2_ValueAs.f k a0 a1 a2 a3 a4 a5) (whittlelaw2_ValueAs.f (k + 1) a0 a1 a2 a3 a4 a5) := by
 intro a0 a1 a2 a3 a4 a5 k
 unfold whittlelaw2_ValueAs.f
 repeat' first
   | (with_reducible exact value_AsNumber.mono _ _ _ _ _ _ _)
   | (with_reducible exact value_AsText.mono _ _ _ _ _ _ _)
   | (with_reducible exact value_AsTruth.mono _ _ _ _ _ _ _)
   | (with_reducible exact whittlelaw2_able.mono _)
   | (with_reducible exact whittleref2_AsNumber.mono _ _ _ _ _ _ _)
   | (with_reducible exact whittleref2_AsText.mono _ _ _ _ _ _ _)
   | (with_reducible exact whittleref2_AsTruth.mono _ _ _ _ _ _ _)
   | (with_reducible exact LeO.refl _)
   | (with_reducible exact LeO.none _)
   | (with_reducible refine LeO.ite ?_ ?_)
   | (with_reducible refine LeO.bind ?_ (fun _ => ?_))
   | exact value_AsNumber.mono _ _ _ _ _ _ _
   | exact value_AsText.mono _ _ _ _ _ _ _
   | exact value_AsTruth.mono _ _ _ _ _ _ _
   | exact whittlelaw2_able.mono _
   | exact whittleref2_AsNumber.mono _ _ _ _ _ _ _
   | exact whittleref2_AsText.mono _ _ _ _ _ _ _
   | exact whittleref2_AsTruth.mono _ _ _ _ _ _ _
   | exact LeO.none _
   | refine LeO.ite ?_ ?_
   | refine LeO.bind ?_ (fun _ => ?_)
set_option maxHeartbeats 8000000 in
set_option maxRecDepth 100000 in
theorem whittlelaw2_ValueAs.calls (k : Nat) (a0_0 : Int) (a0_1 : Int) (a0_2 : Int) (a0_3 : ByteArray) (a0_4 : Bool) (a0_5 : Int) (r : Bool) (w : World) (HT0 : TabAt w) (hr0 : r = true) (h : whittlelaw2_ValueAs.f k a0_0 a0_1 a0_2 a0_3 a0_4 a0_5 = some r) :
  Calls Tryd.prog 11 #[.agg #[.int .i64 a0_0, .int .i64 a0_1, .int .i64 a0_2, .string a0_3, .bool a0_4, .int .i64 a0_5]] w fun e w' => e = .returned (.bool r) ∧ Below w.heap.size w w' := by
 have hu25 := Tryd.underlying25
 have hu23 := Tryd.underlying23
 have HT := Aside0.mk HT0
 clear HT0
 have HR := Aside0.mk hr0
 clear hr0
 have BX := Bx.start w
 have H : ((value_AsNumber.f k a0_0 a0_1 a0_2 a0_3 a0_4 a0_5).bind fun bt1141 => ((whittleref2_AsNumber.f k a0_0 a0_1 a0_2 a0_3 a0_4 a0_5).bind fun bt1151 => ((value_AsText.f k a0_0 a0_1 a0_2 a0_3 a0_4 a0_5).bind fun bt1161 => ((whittleref2_AsText.f k a0_0 a0_1 a0_2 a0_3 a0_4 a0_5).bind fun bt1169 => ((value_AsTruth.f k a0_0 a0_1 a0_2 a0_3 a0_4 a0_5).bind fun bt1177 => ((whittleref2_AsTruth.f k a0_0 a0_1 a0_2 a0_3 a0_4 a0_5).bind fun bt1185 => ((whittlelaw2_able.f k).bind fun t1193 => (if t1193 = true then (if (bt1141.1 == bt1151.1 && (bt1141.2.1 == bt1151.2.1)) = true then (if (bt1141.2.2.1 == bt1151.2.2.1 && ((bt1141.2.2.2.1 == bt1151.2.2.2.1 && (bt1141.2.2.2.2.1 == bt1151.2.2.2.2.1)) && (bt1141.2.2.2.2.2.1.toList == bt1151.2.2.2.2.2.1.toList && (bt1141.2.2.2.2.2.2.1 == bt1151.2.2.2.2.2.2.1 && (bt1141.2.2.2.2.2.2.2 == bt1151.2.2.2.2.2.2.2))))) = true then (if bt1161.1.toList = bt1169.1.toList then (if (bt1161.2.1 == bt1169.2.1 && ((bt1161.2.2.1 == bt1169.2.2.1 && (bt1161.2.2.2.1 == bt1169.2.2.2.1)) && (bt1161.2.2.2.2.1.toList == bt1169.2.2.2.2.1.toList && (bt1161.2.2.2.2.2.1 == bt1169.2.2.2.2.2.1 && (bt1161.2.2.2.2.2.2 == bt1169.2.2.2.2.2.2))))) = true then (if (bt1177.1 == bt1185.1) = true then (some (bt1177.2.1 == bt1185.2.1 && ((bt1177.2.2.1 == bt1185.2.2.1 && (bt1177.2.2.2.1 == bt1185.2.2.2.1)) && (bt1177.2.2.2.2.1.toList == bt1185.2.2.2.2.1.toList && (bt1177.2.2.2.2.2.1 == bt1185.2.2.2.2.2.1 && (bt1177.2.2.2.2.2.2 == bt1185.2.2.2.2.2.2)))))) else (some false)) else (some false)) else (some false)) else (some false)) else (some false)) else (some false))))))))) = some r := h
 clear h
 replace H := Option.bind_eq_some_iff.mp H
 obtain ⟨⟨t1141, t1142, t1143, t1144, t1145, t1146, t1147, t1148⟩, A20, H⟩ := H
 have A2 := Aside0.mk A20
 clear A20
 replace H := Option.bind_eq_some_iff.mp H
 obtain ⟨⟨t1151, t1152, t1153, t1154, t1155, t1156, t1157, t1158⟩, A30, H⟩ := H
 have A3 := Aside0.mk A30
 clear A30
 replace H := Option.bind_eq_some_iff.mp H
 obtain ⟨⟨t1161, t1162, t1163, t1164, t1165, t1166, t1167⟩, A40, H⟩ := H
 have A4 := Aside0.mk A40
 clear A40
 replace H := Option.bind_eq_some_iff.mp H
 obtain ⟨⟨t1169, t1170, t1171, t1172, t1173, t1174, t1175⟩, A50, H⟩ := H
 have A5 := Aside0.mk A50
 clear A50
 replace H := Option.bind_eq_some_iff.mp H
 obtain ⟨⟨t1177, t1178, t1179, t1180, t1181, t1182, t1183⟩, A60, H⟩ := H
 have A6 := Aside0.mk A60
 clear A60
 replace H := Option.bind_eq_some_iff.mp H
 obtain ⟨⟨t1185, t1186, t1187, t1188, t1189, t1190, t1191⟩, A70, H⟩ := H
 have A7 := Aside0.mk A70
 clear A70
 replace H := Option.bind_eq_some_iff.mp H
 obtain ⟨t1193, A80, H⟩ := H
 replace H : (if t1193 = true then (if (t1141 == t1151 && (t1142 == t1152)) = true then (if (t1143 == t1153 && ((t1144 == t1154 && (t1145 == t1155)) && (t1146.toList == t1156.toList && (t1147 == t1157 && (t1148 == t1158))))) = true then (if t1161.toList = t1169.toList then (if (t1162 == t1170 && ((t1163 == t1171 && (t1164 == t1172)) && (t1165.toList == t1173.toList && (t1166 == t1174 && (t1167 == t1175))))) = true then (if (t1177 == t1185) = true then (some (t1178 == t1186 && ((t1179 == t1187 && (t1180 == t1188)) && (t1181.toList == t1189.toList && (t1182 == t1190 && (t1183 == t1191)))))) else (some false)) else (some false)) else (some false)) else (some false)) else (some false)) else (some false)) = some r := H
 have A8 := Aside0.mk A80
 clear A80
 by_cases c9 : t1193 = true
 ·subst c9
  have H1 : (if (t1141 == t1151 && (t1142 == t1152)) = true then (if (t1143 == t1153 && ((t1144 == t1154 && (t1145 == t1155)) && (t1146.toList == t1156.toList && (t1147 == t1157 && (t1148 == t1158))))) = true then (if t1161.toList = t1169.toList then (if (t1162 == t1170 && ((t1163 == t1171 && (t1164 == t1172)) && (t1165.toList == t1173.toList && (t1166 == t1174 && (t1167 == t1175))))) = true then (if (t1177 == t1185) = true then (some (t1178 == t1186 && ((t1179 == t1187 && (t1180 == t1188)) && (t1181.toList == t1189.toList && (t1182 == t1190 && (t1183 == t1191)))))) else (some false)) else (some false)) else (some false)) else (some false)) else (some false)) = some r := by rw [if_pos rfl] at H; exact H
  clear H
  have H := H1
  clear H1
  by_cases c10 : (t1141 == t1151 && (t1142 == t1152)) = true
  ·rw [if_pos c10] at H
   have c10b0 : (t1141 == t1151 && (t1142 == t1152)) = true := c10
   (try (have c10b1 : decide (t1141 = t1151 && (t1142 == t1152)) = true := by simpa using c10))
   (try (have c10b2 : (t1141 == t1151 && (t1142 == t1152)) = true := by simpa using c10))
   clear c10
   by_cases c11 : (t1143 == t1153 && ((t1144 == t1154 && (t1145 == t1155)) && (t1146.toList == t1156.toList && (t1147 == t1157 && (t1148 == t1158))))) = true
   ·rw [if_pos c11] at H
    have c11b0 : (t1143 == t1153 && ((t1144 == t1154 && (t1145 == t1155)) && (t1146.toList == t1156.toList && (t1147 == t1157 && (t1148 == t1158))))) = true := c11
    (try (have c11b1 : decide (t1143 = t1153 && ((t1144 == t1154 && (t1145 == t1155)) && (t1146.toList == t1156.toList && (t1147 == t1157 && (t1148 == t1158))))) = true := by simpa using c11))
    (try (have c11b2 : (t1143 == t1153 && ((t1144 == t1154 && (t1145 == t1155)) && (t1146.toList == t1156.toList && (t1147 == t1157 && (t1148 == t1158))))) = true := by simpa using c11))
    clear c11
    by_cases c12 : t1161.toList = t1169.toList
    ·rw [if_pos c12] at H
     have c12b0 : (t1161.toList == t1169.toList) = true := beq_iff_eq.mpr c12
     have c12b1 : (t1161.toList != t1169.toList) = false := bne_eq_false_iff_eq.mpr c12
     clear c12
     by_cases c13 : (t1162 == t1170 && ((t1163 == t1171 && (t1164 == t1172)) && (t1165.toList == t1173.toList && (t1166 == t1174 && (t1167 == t1175))))) = true
     ·rw [if_pos c13] at H
      have c13b0 : (t1162 == t1170 && ((t1163 == t1171 && (t1164 == t1172)) && (t1165.toList == t1173.toList && (t1166 == t1174 && (t1167 == t1175))))) = true := c13
      (try (have c13b1 : decide (t1162 = t1170 && ((t1163 == t1171 && (t1164 == t1172)) && (t1165.toList == t1173.toList && (t1166 == t1174 && (t1167 == t1175))))) = true := by simpa using c13))
      (try (have c13b2 : (t1162 == t1170 && ((t1163 == t1171 && (t1164 == t1172)) && (t1165.toList == t1173.toList && (t1166 == t1174 && (t1167 == t1175))))) = true := by simpa using c13))
      clear c13
      by_cases c14 : (t1177 == t1185) = true
      ·rw [if_pos c14] at H
       have c14b0 : (t1177 == t1185) = true := c14
       (try (have c14b1 : decide (t1177 = t1185) = true := by simpa using c14))
       (try (have c14b2 : (t1177 == t1185) = true := by simpa using c14))
       clear c14
       clear HR
       obtain rfl := Option.some.inj H
       go_enter Tryd.func11, Tryd.ntmps11
       go_wp2_with (first | ((with_reducible refine gate_dst (N := 1) rfl ?_); refine bxe 1 #[.int .i64 a0_0, .int .i64 a0_1, .int .i64 a0_2, .string a0_3, .bool a0_4, .int .i64 a0_5] 25 rfl rfl gr ?_; clear BX; intro gb1140 w15 GE1140 BX) | ((with_reducible refine gate_callee (f := 37) rfl ?_); refine goesL_ (some 17) rfl rfl Tryd.func37 kr rfl #[.agg #[.int .i64 a0_0, .int .i64 a0_1, .int .i64 a0_2, .string a0_3, .bool a0_4, .int .i64 a0_5]] rfl ga ?_; (with_reducible refine (value_AsNumber.calls k a0_0 a0_1 a0_2 a0_3 a0_4 a0_5 t1141 t1142 t1143 t1144 t1145 t1146 t1147 t1148 _ A2.out).mono ?_); rintro e w17 ⟨rfl, hb⟩; refine ⟨_, rfl, ?_⟩; replace BX := bx_call hb; clear hb) | ((with_reducible refine gate_dst (N := 3) rfl ?_); refine bxe 3 #[.int .i64 0, .int .i64 0] 23 rfl rfl gr ?_; clear BX; intro gb1149 w18 GE1149 BX) | ((with_reducible refine gate_dst (N := 4) rfl ?_); refine bxe 4 #[.int .i64 0, .int .i64 0, .int .i64 0, .string (⟨#[]⟩ : ByteArray), .bool false, .int .i64 0] 25 rfl rfl gr ?_; clear BX; intro gb1150 w19 GE1150 BX) | ((with_reducible refine gate_callee (f := 38) rfl ?_); refine goesL_ (some 22) rfl rfl Tryd.func38 kr rfl #[.agg #[.int .i64 a0_0, .int .i64 a0_1, .int .i64 a0_2, .string a0_3, .bool a0_4, .int .i64 a0_5]] rfl ga ?_; (with_reducible refine (whittleref2_AsNumber.calls k a0_0 a0_1 a0_2 a0_3 a0_4 a0_5 t1151 t1152 t1153 t1154 t1155 t1156 t1157 t1158 _ A3.out).mono ?_); rintro e w26 ⟨rfl, hb⟩; refine ⟨_, rfl, ?_⟩; replace BX := bx_call hb; clear hb) | ((with_reducible refine gate_dst (N := 5) rfl ?_); refine bxe 5 #[.int .i64 0, .int .i64 0] 23 rfl rfl gr ?_; clear BX; intro gb1159 w27 GE1159 BX) | ((with_reducible refine gate_dst (N := 6) rfl ?_); refine bxe 6 #[.int .i64 0, .int .i64 0, .int .i64 0, .string (⟨#[]⟩ : ByteArray), .bool false, .int .i64 0] 25 rfl rfl gr ?_; clear BX; intro gb1160 w28 GE1160 BX) | ((with_reducible refine gate_callee (f := 39) rfl ?_); refine goesL_ (some 27) rfl rfl Tryd.func39 kr rfl #[.agg #[.int .i64 a0_0, .int .i64 a0_1, .int .i64 a0_2, .string a0_3, .bool a0_4, .int .i64 a0_5]] rfl ga ?_; (with_reducible refine (value_AsText.calls k a0_0 a0_1 a0_2 a0_3 a0_4 a0_5 t1161 t1162 t1163 t1164 t1165 t1166 t1167 _ ?side1 A4.out).mono ?_); (case side1 => exact HT.out.on bx_bl); rintro e w39 ⟨rfl, hb⟩; refine ⟨_, rfl, ?_⟩; replace BX := bx_call hb; clear hb) | ((with_reducible refine gate_dst (N := 8) rfl ?_); refine bxe 8 #[.int .i64 0, .int .i64 0, .int .i64 0, .string (⟨#[]⟩ : ByteArray), .bool false, .int .i64 0] 25 rfl rfl gr ?_; clear BX; intro gb1168 w40 GE1168 BX) | ((with_reducible refine gate_callee (f := 40) rfl ?_); refine goesL_ (some 32) rfl rfl Tryd.func40 kr rfl #[.agg #[.int .i64 a0_0, .int .i64 a0_1, .int .i64 a0_2, .string a0_3, .bool a0_4, .int .i64 a0_5]] rfl ga ?_; (with_reducible refine (whittleref2_AsText.calls k a0_0 a0_1 a0_2 a0_3 a0_4 a0_5 t1169 t1170 t1171 t1172 t1173 t1174 t1175 _ A5.out).mono ?_); rintro e w48 ⟨rfl, hb⟩; refine ⟨_, rfl, ?_⟩; replace BX := bx_call hb; clear hb) | ((with_reducible refine gate_dst (N := 10) rfl ?_); refine bxe 10 #[.int .i64 0, .int .i64 0, .int .i64 0, .string (⟨#[]⟩ : ByteArray), .bool false, .int .i64 0] 25 rfl rfl gr ?_; clear BX; intro gb1176 w49 GE1176 BX) | ((with_reducible refine gate_callee (f := 41) rfl ?_); refine goesL_ (some 37) rfl rfl Tryd.func41 kr rfl #[.agg #[.int .i64 a0_0, .int .i64 a0_1, .int .i64 a0_2, .string a0_3, .bool a0_4, .int .i64 a0_5]] rfl ga ?_; (with_reducible refine (value_AsTruth.calls k a0_0 a0_1 a0_2 a0_3 a0_4 a0_5 t1177 t1178 t1179 t1180 t1181 t1182 t1183 _ A6.out).mono ?_); rintro e w58 ⟨rfl, hb⟩; refine ⟨_, rfl, ?_⟩; replace BX := bx_call hb; clear hb) | ((with_reducible refine gate_dst (N := 12) rfl ?_); refine bxe 12 #[.int .i64 0, .int .i64 0, .int .i64 0, .string (⟨#[]⟩ : ByteArray), .bool false, .int .i64 0] 25 rfl rfl gr ?_; clear BX; intro gb1184 w59 GE1184 BX) | ((with_reducible refine gate_callee (f := 42) rfl ?_); refine goesL_ (some 42) rfl rfl Tryd.func42 kr rfl #[.agg #[.int .i64 a0_0, .int .i64 a0_1, .int .i64 a0_2, .string a0_3, .bool a0_4, .int .i64 a0_5]] rfl ga ?_; (with_reducible refine (whittleref2_AsTruth.calls k a0_0 a0_1 a0_2 a0_3 a0_4 a0_5 t1185 t1186 t1187 t1188 t1189 t1190 t1191 _ A7.out).mono ?_); rintro e w69 ⟨rfl, hb⟩; refine ⟨_, rfl, ?_⟩; replace BX := bx_call hb; clear hb) | ((with_reducible refine gate_dst (N := 14) rfl ?_); refine bxe 14 #[.int .i64 0, .int .i64 0, .int .i64 0, .string (⟨#[]⟩ : ByteArray), .bool false, .int .i64 0] 25 rfl rfl gr ?_; clear BX; intro gb1192 w70 GE1192 BX) | ((with_reducible refine gate_callee (f := 15) rfl ?_); refine goesL_ (some 45) rfl rfl Tryd.func15 kr rfl #[] rfl ga ?_; (with_reducible refine (whittlelaw2_able.calls k  true _ ?side1 A8.out).mono ?_); (case side1 => exact HT.out.on bx_bl); rintro e w80 ⟨rfl, hb⟩; refine ⟨_, rfl, ?_⟩; replace BX := bx_call hb; clear hb))
       go_ret
       exact ⟨er2, bx_bl⟩
      ·rw [if_neg c14] at H
       have c14b0 : (t1177 == t1185) = false := by simpa using c14
       (try (have c14b1 : decide (t1177 = t1185) = false := by simpa using c14))
       (try (have c14b2 : (t1177 == t1185) = false := by simpa using c14))
       (try (have c14b3 : ¬ (t1177 = t1185) := by simpa using c14))
       clear c14
       exact absurd (Option.some.inj H) (by rw [HR.out]; decide)
     ·rw [if_neg c13] at H
      have c13b0 : (t1162 == t1170 && ((t1163 == t1171 && (t1164 == t1172)) && (t1165.toList == t1173.toList && (t1166 == t1174 && (t1167 == t1175))))) = false := by simpa using c13
      (try (have c13b1 : decide (t1162 = t1170 && ((t1163 == t1171 && (t1164 == t1172)) && (t1165.toList == t1173.toList && (t1166 == t1174 && (t1167 == t1175))))) = false := by simpa using c13))
      (try (have c13b2 : (t1162 == t1170 && ((t1163 == t1171 && (t1164 == t1172)) && (t1165.toList == t1173.toList && (t1166 == t1174 && (t1167 == t1175))))) = false := by simpa using c13))
      (try (have c13b3 : ¬ (t1162 = t1170 && ((t1163 == t1171 && (t1164 == t1172)) && (t1165.toList == t1173.toList && (t1166 == t1174 && (t1167 == t1175))))) := by simpa using c13))
      clear c13
      exact absurd (Option.some.inj H) (by rw [HR.out]; decide)
    ·rw [if_neg c12] at H
     have c12b0 : (t1161.toList == t1169.toList) = false := beq_eq_false_iff_ne.mpr c12
     have c12b1 : (t1161.toList != t1169.toList) = true := bne_iff_ne.mpr c12
     exact absurd (Option.some.inj H) (by rw [HR.out]; decide)
   ·rw [if_neg c11] at H
    have c11b0 : (t1143 == t1153 && ((t1144 == t1154 && (t1145 == t1155)) && (t1146.toList == t1156.toList && (t1147 == t1157 && (t1148 == t1158))))) = false := by simpa using c11
    (try (have c11b1 : decide (t1143 = t1153 && ((t1144 == t1154 && (t1145 == t1155)) && (t1146.toList == t1156.toList && (t1147 == t1157 && (t1148 == t1158))))) = false := by simpa using c11))
    (try (have c11b2 : (t1143 == t1153 && ((t1144 == t1154 && (t1145 == t1155)) && (t1146.toList == t1156.toList && (t1147 == t1157 && (t1148 == t1158))))) = false := by simpa using c11))
    (try (have c11b3 : ¬ (t1143 = t1153 && ((t1144 == t1154 && (t1145 == t1155)) && (t1146.toList == t1156.toList && (t1147 == t1157 && (t1148 == t1158))))) := by simpa using c11))
    clear c11
    exact absurd (Option.some.inj H) (by rw [HR.out]; decide)
  ·rw [if_neg c10] at H
   have c10b0 : (t1141 == t1151 && (t1142 == t1152)) = false := by simpa using c10
   (try (have c10b1 : decide (t1141 = t1151 && (t1142 == t1152)) = false := by simpa using c10))
   (try (have c10b2 : (t1141 == t1151 && (t1142 == t1152)) = false := by simpa using c10))
   (try (have c10b3 : ¬ (t1141 = t1151 && (t1142 == t1152)) := by simpa using c10))
   clear c10
   exact absurd (Option.some.inj H) (by rw [HR.out]; decide)
 ·replace c9 := Bool.eq_false_iff.mpr c9
  subst c9
  have H1 : (some false) = some r := by rw [if_neg (show ¬ (false = true) by decide)] at H; exact H
  clear H
  have H := H1
  clear H1
  exact absurd (Option.some.inj H) (by rw [HR.out]; decide)
end
end Go.Proofs.YtmakkdlkgfgaoaaDoor.F
