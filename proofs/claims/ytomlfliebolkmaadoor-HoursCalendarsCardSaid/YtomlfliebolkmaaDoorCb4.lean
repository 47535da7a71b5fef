/-
  HoursCalendars: a round of its loop, by cases (m, no date): next month, next year.
-/
import Derived.Test.YtomlfliebolkmaaDoorKk
set_option linter.unusedVariables false
set_option linter.unusedSimpArgs false
namespace Go.Proofs.YtomlfliebolkmaaDoor
open Go Go.Proofs Go.RowKit Pl

set_option maxRecDepth 100000 in
set_option maxHeartbeats 40000000 in
theorem round_m_n_n2 (Q0 : Exit → Act → World → Prop) (day y m d : Int) (w w10 : World) (B μ : Nat) (u4 u6 u7 u8 u9 u10 u11 u12 u13 u14 u15 u16 u17 u18 u19 u20 u21 u29 u30 u31 u32 u33 u34 u35 u36 u37 u38 u39 u40 u41 u42 u43 u44 u45 u46 u47 u48 u49 u50 u51 u52 u53 u54 u55 u56 u57 u58 u59 u60 u61 u62 u63 u64 u65 u66 u67 u68 u69 u70 u71 u72 u73 u74 u75 u76 u77 u78 u79 u80 u81 u82 u83 u84 u85 u86 u87 u88 u89 u90 u91 u92 u93 u94 u95 u96 u97 u98 u99 u100 u101 u102 u103 u104 u105 u106 u107 u108 u109 u110 u111 u112 u113 u114 u115 u116 u117 u118 u119 u120 u121 u122 u123 u124 u125 u126 u127 u128 u129 u130 u131 u132 u133 u134 u135 u136 u137 u138 u139 u140 u141 u142 u143 u144 u145 u146 u147 u148 u149 u150 u151 u152 u153 u154 u155 u156 u157 u158 u159 u160 u161 u162 u163 u164 u165 u166 u167 u168 u169 u170 u171 u172 u173 u174 u175 u176 u177 u178 u179 u180 u181 u182 u183 u184 u185 u186 u187 u188 u189 u190 u191 u192 u193 u194 u195 u196 u197 u198 u199 u200 u201 u202 u203 u204 u205 u206 u207 u208 u209 u210 u211 u212 u213 u214 u215 u216 u217 u218 u219 u220 u221 u222 u223 u224 u225 u226 u227 u228 : Value) (hv : dvM y m d = false) (hd : 0 ≤ day ∧ day ≤ 3000000) (hn : (daM (day + 1) = 1 ∧ yrM (day + 1) = yrM day ∧ moM (day + 1) = moM day + 1)) (hcw : CW w w10 B y m d) (hμ : μ = 9) :
   Code.wp Tryd.prog body9 (Exit.then (fun a' w' => (∃ u4 u6 u7 u8 u9 u10 u11 u12 u13 u14 u15 u16 u17 u18 u19 u20 u21 u28 u29 u30 u31 u32 u33 u34 u35 u36 u37 u38 u39 u40 u41 u42 u43 u44 u45 u46 u47 u48 u49 u50 u51 u52 u53 u54 u55 u56 u57 u58 u59 u60 u61 u62 u63 u64 u65 u66 u67 u68 u69 u70 u71 u72 u73 u74 u75 u76 u77 u78 u79 u80 u81 u82 u83 u84 u85 u86 u87 u88 u89 u90 u91 u92 u93 u94 u95 u96 u97 u98 u99 u100 u101 u102 u103 u104 u105 u106 u107 u108 u109 u110 u111 u112 u113 u114 u115 u116 u117 u118 u119 u120 u121 u122 u123 u124 u125 u126 u127 u128 u129 u130 u131 u132 u133 u134 u135 u136 u137 u138 u139 u140 u141 u142 u143 u144 u145 u146 u147 u148 u149 u150 u151 u152 u153 u154 u155 u156 u157 u158 u159 u160 u161 u162 u163 u164 u165 u166 u167 u168 u169 u170 u171 u172 u173 u174 u175 u176 u177 u178 u179 u180 u181 u182 u183 u184 u185 u186 u187 u188 u189 u190 u191 u192 u193 u194 u195 u196 u197 u198 u199 u200 u201 u202 u203 u204 u205 u206 u207 u208 u209 u210 u211 u212 u213 u214 u215 u216 u217 u218 u219 u220 u221 u222 u223 u224 u225 u226 u227 u228 : Value, (∃ k : Nat, k ≤ 2 ∧ u28 = .int .i64 k ∧ CW w w' B y m d) ∧ a' = ⟨#[.int .i64 day, .agg #[.int .i64 y, .int .i64 m, .int .i64 d], undef, .pointer (some ⟨w.heap.size, 0, none⟩), u4, undef, u6, u7, u8, u9, u10, u11, u12, u13, u14, u15, u16, u17, u18, u19, u20, u21, .bool true, .bool false, .agg #[.func (.func 34) #[] #[], .func (.func 45) #[] #[], .int .i64 13, .int .i64 128, .int .i64 46751], .agg #[.func (.func 35) #[] #[], .func (.func 48) #[] #[], .int .i64 12, .int .i64 30, .int .i64 10631], .slice (some ⟨B, 0, none⟩) 2 2, .int .i64 2, u28, u29, u30, u31, u32, u33, u34, u35, u36, u37, u38, u39, u40, u41, u42, u43, u44, u45, u46, u47, u48, u49, u50, u51, u52, u53, u54, u55, u56, u57, u58, u59, u60, u61, u62, u63, u64, u65, u66, u67, u68, u69, u70, u71, u72, u73, u74, u75, u76, u77, u78, u79, u80, u81, u82, u83, u84, u85, u86, u87, u88, u89, u90, u91, u92, u93, u94, u95, u96, u97, u98, u99, u100, u101, u102, u103, u104, u105, u106, u107, u108, u109, u110, u111, u112, u113, u114, u115, u116, u117, u118, u119, u120, u121, u122, u123, u124, u125, u126, u127, u128, u129, u130, u131, u132, u133, u134, u135, u136, u137, u138, u139, u140, u141, u142, u143, u144, u145, u146, u147, u148, u149, u150, u151, u152, u153, u154, u155, u156, u157, u158, u159, u160, u161, u162, u163, u164, u165, u166, u167, u168, u169, u170, u171, u172, u173, u174, u175, u176, u177, u178, u179, u180, u181, u182, u183, u184, u185, u186, u187, u188, u189, u190, u191, u192, u193, u194, u195, u196, u197, u198, u199, u200, u201, u202, u203, u204, u205, u206, u207, u208, u209, u210, u211, u212, u213, u214, u215, u216, u217, u218, u219, u220, u221, u222, u223, u224, u225, u226, u227, u228], []⟩) ∧ 10 - (intOf (a'.tmps.getD 28 undef)).toNat < μ) Q0) ⟨#[.int .i64 day, .agg #[.int .i64 y, .int .i64 m, .int .i64 d], undef, .pointer (some ⟨w.heap.size, 0, none⟩), u4, undef, u6, u7, u8, u9, u10, u11, u12, u13, u14, u15, u16, u17, u18, u19, u20, u21, .bool true, .bool false, .agg #[.func (.func 34) #[] #[], .func (.func 45) #[] #[], .int .i64 13, .int .i64 128, .int .i64 46751], .agg #[.func (.func 35) #[] #[], .func (.func 48) #[] #[], .int .i64 12, .int .i64 30, .int .i64 10631], .slice (some ⟨B, 0, none⟩) 2 2, .int .i64 2, .int .i64 ((1 : Nat) : Int), u29, u30, u31, u32, u33, u34, u35, u36, u37, u38, u39, u40, u41, u42, u43, u44, u45, u46, u47, u48, u49, u50, u51, u52, u53, u54, u55, u56, u57, u58, u59, u60, u61, u62, u63, u64, u65, u66, u67, u68, u69, u70, u71, u72, u73, u74, u75, u76, u77, u78, u79, u80, u81, u82, u83, u84, u85, u86, u87, u88, u89, u90, u91, u92, u93, u94, u95, u96, u97, u98, u99, u100, u101, u102, u103, u104, u105, u106, u107, u108, u109, u110, u111, u112, u113, u114, u115, u116, u117, u118, u119, u120, u121, u122, u123, u124, u125, u126, u127, u128, u129, u130, u131, u132, u133, u134, u135, u136, u137, u138, u139, u140, u141, u142, u143, u144, u145, u146, u147, u148, u149, u150, u151, u152, u153, u154, u155, u156, u157, u158, u159, u160, u161, u162, u163, u164, u165, u166, u167, u168, u169, u170, u171, u172, u173, u174, u175, u176, u177, u178, u179, u180, u181, u182, u183, u184, u185, u186, u187, u188, u189, u190, u191, u192, u193, u194, u195, u196, u197, u198, u199, u200, u201, u202, u203, u204, u205, u206, u207, u208, u209, u210, u211, u212, u213, u214, u215, u216, u217, u218, u219, u220, u221, u222, u223, u224, u225, u226, u227, u228], []⟩ w10 := by
  have HVm := Lib.hid hv; have HCW := Lib.hid hcw; have HMU := Lib.hid hμ; clear hv hcw hμ
  conv => arg 2; whnf
  have HNX := Lib.hid hn; clear hn
  obtain ⟨d0, d1⟩ := hd
  have hneg : ¬ day < 0 := by omega
  have hbig : ¬ 3000000 < day := by omega
  have hi := isM day (by omega) (by omega)
  have hle : yrM day ≤ 9999 - 30 := by have := yrM_le (day := day) (by omega) (by omega) (9999 - 30) (by have h9 : Pl.stM (9999 - 30 + 1) = 3532681 := (by decide); omega); exact this
  have HX0 := Lib.hid (fun W => mOf_yes day W (by omega))
  have HK0 := Lib.hid (fun W => mDay_back day W (by omega))
  have HF := Lib.hid (fun W => mDay_first (yrM day) W ⟨hi.1, hi.2.1⟩)
  have HG := Lib.hid (fun W => mDay_cyc (yrM day) W ⟨hi.1, by omega⟩)
  have HN0 := Lib.hid (fun W => mOf_yes (day + 1) W (by omega))
  have hst := stM_bd (y := yrM day) ⟨hi.1, by have := hi.2.1; omega⟩
  obtain ⟨i1, i2, i3, i4, i5, i6, i9⟩ := hi
  clear i9
  have i7 := (mlM_bd (yrM day) (moM day)).2
  have i8 : daM day ≤ 30 := Int.le_trans i6 i7
  clear i7
  obtain ⟨x3, x1, x2⟩ := HNX.out
  clear HNX
  rw [x1, x2, x3] at HN0
  have HX := HX0; have HK := HK0; have HN := HN0
  clear x1 x2 x3 HX0 HK0 HN0 i6
  generalize yrM day = Y at *
  generalize moM day = M at *
  generalize daM day = E at *
  have p0 := HCW.out.p0; have p1 := HCW.out.p1; have p2 := HCW.out.p2; have pl := HCW.out.l0
  have u0 := HCW.out.s5; have u1 := HCW.out.s6; have u2 := HCW.out.s7; have u3 := HCW.out.s8; have u4 := HCW.out.s9
  go_wp2_with fail
  refine (mDay_no y m d _ HVm.out).mono ?_
  rintro e w11 ⟨rfl, hb⟩
  have HC11 := Lib.hid (bjoin (w := w10) (by have hb' := (Below.refl w10.heap.size w10); have hb'' := hb'.size; go_grown) hb)
  obtain ⟨l11_c, q11_c0, q11_c1, q11_c2, q11_c3, q11_c4⟩ := keep5 (b := w10.heap.size) (v0 := .func (.func 35) #[] #[]) (v1 := .func (.func 48) #[] #[]) (v2 := .int .i64 12) (v3 := .int .i64 30) (v4 := .int .i64 10631) hb (by first | (simp; done) | (simp; omega)) (by simp [go_sem]) (by simp [go_sem]) (by simp [go_sem]) (by simp [go_sem]) (by simp [go_sem])
  clear p0 p1 p2 pl
  clear hb
  clear u0 u1 u2 u3 u4
  go_wp2_with fail
  refine (HX.out _).mono ?_
  rintro e w12 ⟨rfl, hb⟩
  have HC12 := Lib.hid (bjoin (w := w10) (by have hb' := HC11.out; have hb'' := hb'.size; go_grown) hb)
  obtain ⟨l12_c, q12_c0, q12_c1, q12_c2, q12_c3, q12_c4⟩ := keep5 (b := w10.heap.size) hb (by first | omega | (simp; omega)) q11_c0 q11_c1 q11_c2 q11_c3 q11_c4
  clear q11_c0 q11_c1 q11_c2 q11_c3 q11_c4 l11_c
  clear hb
  go_wp2_with fail
  refine (HK.out _).mono ?_
  rintro e w13 ⟨rfl, hb⟩
  have HC13 := Lib.hid (bjoin (w := w10) (by have hb' := HC12.out; have hb'' := hb'.size; go_grown) hb)
  obtain ⟨l13_c, q13_c0, q13_c1, q13_c2, q13_c3, q13_c4⟩ := keep5 (b := w10.heap.size) hb (by first | omega | (simp; omega)) (cell_alloc_l _ q12_c0) (cell_alloc_l _ q12_c1) (cell_alloc_l _ q12_c2) (cell_alloc_l _ q12_c3) (cell_alloc_l _ q12_c4)
  obtain ⟨l13_x, q13_x0, q13_x1, q13_x2⟩ := keep3 (b := w12.heap.size) (v0 := .int .i64 Y) (v1 := .int .i64 M) (v2 := .int .i64 E) hb (by first | (simp; done) | (simp; omega)) (by simp [go_sem]) (by simp [go_sem]) (by simp [go_sem])
  clear q12_c0 q12_c1 q12_c2 q12_c3 q12_c4 l12_c
  clear hb
  go_wp2_with fail
  refine (HN.out _).mono ?_
  rintro e w14 ⟨rfl, hb⟩
  have HC14 := Lib.hid (bjoin (w := w10) (by have hb' := HC13.out; have hb'' := hb'.size; go_grown) hb)
  obtain ⟨l14_c, q14_c0, q14_c1, q14_c2, q14_c3, q14_c4⟩ := keep5 (b := w10.heap.size) hb (by first | omega | (simp; omega)) q13_c0 q13_c1 q13_c2 q13_c3 q13_c4
  obtain ⟨l14_x, q14_x0, q14_x1, q14_x2⟩ := keep3 (b := w12.heap.size) hb (by first | omega | (simp; omega)) q13_x0 q13_x1 q13_x2
  clear q13_c0 q13_c1 q13_c2 q13_c3 q13_c4 l13_c q13_x0 q13_x1 q13_x2 l13_x
  clear hb
  go_wp2_with fail
  refine (HF.out _).mono ?_
  rintro e w15 ⟨rfl, hb⟩
  have HC15 := Lib.hid (bjoin (w := w10) (by have hb' := HC14.out; have hb'' := hb'.size; go_grown) hb)
  obtain ⟨l15_c, q15_c0, q15_c1, q15_c2, q15_c3, q15_c4⟩ := keep5 (b := w10.heap.size) hb (by first | omega | (simp; omega)) (cell_alloc_l _ q14_c0) (cell_alloc_l _ q14_c1) (cell_alloc_l _ q14_c2) (cell_alloc_l _ q14_c3) (cell_alloc_l _ q14_c4)
  obtain ⟨l15_x, q15_x0, q15_x1, q15_x2⟩ := keep3 (b := w12.heap.size) hb (by first | omega | (simp; omega)) (cell_alloc_l _ q14_x0) (cell_alloc_l _ q14_x1) (cell_alloc_l _ q14_x2)
  obtain ⟨l15_y, q15_y0, q15_y1, q15_y2⟩ := keep3 (b := w14.heap.size) (v0 := .int .i64 Y) (v1 := .int .i64 (M + 1)) (v2 := .int .i64 1) hb (by first | (simp; done) | (simp; omega)) (by simp [go_sem]) (by simp [go_sem]) (by simp [go_sem])
  clear q14_c0 q14_c1 q14_c2 q14_c3 q14_c4 l14_c q14_x0 q14_x1 q14_x2 l14_x
  clear hb
  go_wp2_with fail
  refine (HG.out _).mono ?_
  rintro e w16 ⟨rfl, hb⟩
  have HC16 := Lib.hid (bjoin (w := w10) (by have hb' := HC15.out; have hb'' := hb'.size; go_grown) hb)
  obtain ⟨l16_c, q16_c0, q16_c1, q16_c2, q16_c3, q16_c4⟩ := keep5 (b := w10.heap.size) hb (by first | omega | (simp; omega)) q15_c0 q15_c1 q15_c2 q15_c3 q15_c4
  obtain ⟨l16_x, q16_x0, q16_x1, q16_x2⟩ := keep3 (b := w12.heap.size) hb (by first | omega | (simp; omega)) q15_x0 q15_x1 q15_x2
  clear q15_c0 q15_c1 q15_c2 q15_c3 q15_c4 l15_c q15_x0 q15_x1 q15_x2 l15_x q15_y0 q15_y1 q15_y2 l15_y
  clear hb
  go_wp2_with fail
  go_roundw
  case rel => exact ⟨_, _, _, _, _, _, _, _, _, _, _, _, _, _, _, _, _, _, _, _, _, _, _, _, _, _, _, _, _, _, _, _, _, _, _, _, _, _, _, _, _, _, _, _, _, _, _, _, _, _, _, _, _, _, _, _, _, _, _, _, _, _, _, _, _, _, _, _, _, _, _, _, _, _, _, _, _, _, _, _, _, _, _, _, _, _, _, _, _, _, _, _, _, _, _, _, _, _, _, _, _, _, _, _, _, _, _, _, _, _, _, _, _, _, _, _, _, _, _, _, _, _, _, _, _, _, _, _, _, _, _, _, _, _, _, _, _, _, _, _, _, _, _, _, _, _, _, _, _, _, _, _, _, _, _, _, _, _, _, _, _, _, _, _, _, _, _, _, _, _, _, _, _, _, _, _, _, _, _, _, _, _, _, _, _, _, _, _, _, _, _, _, _, _, _, _, _, _, _, _, _, _, _, _, _, _, _, _, _, _, _, _, _, _, _, _, _, _, ⟨2, by omega, rfl, HCW.out.on (by have hb' := HC16.out; have hb'' := hb'.size; go_grown)⟩, rfl⟩
  case measure => have := HMU.out; simp [intOf]; omega


set_option maxRecDepth 100000 in
set_option maxHeartbeats 40000000 in
theorem round_m_n_n3 (Q0 : Exit → Act → World → Prop) (day y m d : Int) (w w10 : World) (B μ : Nat) (u4 u6 u7 u8 u9 u10 u11 u12 u13 u14 u15 u16 u17 u18 u19 u20 u21 u29 u30 u31 u32 u33 u34 u35 u36 u37 u38 u39 u40 u41 u42 u43 u44 u45 u46 u47 u48 u49 u50 u51 u52 u53 u54 u55 u56 u57 u58 u59 u60 u61 u62 u63 u64 u65 u66 u67 u68 u69 u70 u71 u72 u73 u74 u75 u76 u77 u78 u79 u80 u81 u82 u83 u84 u85 u86 u87 u88 u89 u90 u91 u92 u93 u94 u95 u96 u97 u98 u99 u100 u101 u102 u103 u104 u105 u106 u107 u108 u109 u110 u111 u112 u113 u114 u115 u116 u117 u118 u119 u120 u121 u122 u123 u124 u125 u126 u127 u128 u129 u130 u131 u132 u133 u134 u135 u136 u137 u138 u139 u140 u141 u142 u143 u144 u145 u146 u147 u148 u149 u150 u151 u152 u153 u154 u155 u156 u157 u158 u159 u160 u161 u162 u163 u164 u165 u166 u167 u168 u169 u170 u171 u172 u173 u174 u175 u176 u177 u178 u179 u180 u181 u182 u183 u184 u185 u186 u187 u188 u189 u190 u191 u192 u193 u194 u195 u196 u197 u198 u199 u200 u201 u202 u203 u204 u205 u206 u207 u208 u209 u210 u211 u212 u213 u214 u215 u216 u217 u218 u219 u220 u221 u222 u223 u224 u225 u226 u227 u228 : Value) (hv : dvM y m d = false) (hd : 0 ≤ day ∧ day ≤ 3000000) (hn : (daM (day + 1) = 1 ∧ yrM (day + 1) = yrM day + 1 ∧ moM (day + 1) = 1 ∧ moM day = 12)) (hcw : CW w w10 B y m d) (hμ : μ = 9) :
   Code.wp Tryd.prog body9 (Exit.then (fun a' w' => (∃ u4 u6 u7 u8 u9 u10 u11 u12 u13 u14 u15 u16 u17 u18 u19 u20 u21 u28 u29 u30 u31 u32 u33 u34 u35 u36 u37 u38 u39 u40 u41 u42 u43 u44 u45 u46 u47 u48 u49 u50 u51 u52 u53 u54 u55 u56 u57 u58 u59 u60 u61 u62 u63 u64 u65 u66 u67 u68 u69 u70 u71 u72 u73 u74 u75 u76 u77 u78 u79 u80 u81 u82 u83 u84 u85 u86 u87 u88 u89 u90 u91 u92 u93 u94 u95 u96 u97 u98 u99 u100 u101 u102 u103 u104 u105 u106 u107 u108 u109 u110 u111 u112 u113 u114 u115 u116 u117 u118 u119 u120 u121 u122 u123 u124 u125 u126 u127 u128 u129 u130 u131 u132 u133 u134 u135 u136 u137 u138 u139 u140 u141 u142 u143 u144 u145 u146 u147 u148 u149 u150 u151 u152 u153 u154 u155 u156 u157 u158 u159 u160 u161 u162 u163 u164 u165 u166 u167 u168 u169 u170 u171 u172 u173 u174 u175 u176 u177 u178 u179 u180 u181 u182 u183 u184 u185 u186 u187 u188 u189 u190 u191 u192 u193 u194 u195 u196 u197 u198 u199 u200 u201 u202 u203 u204 u205 u206 u207 u208 u209 u210 u211 u212 u213 u214 u215 u216 u217 u218 u219 u220 u221 u222 u223 u224 u225 u226 u227 u228 : Value, (∃ k : Nat, k ≤ 2 ∧ u28 = .int .i64 k ∧ CW w w' B y m d) ∧ a' = ⟨#[.int .i64 day, .agg #[.int .i64 y, .int .i64 m, .int .i64 d], undef, .pointer (some ⟨w.heap.size, 0, none⟩), u4, undef, u6, u7, u8, u9, u10, u11, u12, u13, u14, u15, u16, u17, u18, u19, u20, u21, .bool true, .bool false, .agg #[.func (.func 34) #[] #[], .func (.func 45) #[] #[], .int .i64 13, .int .i64 128, .int .i64 46751], .agg #[.func (.func 35) #[] #[], .func (.func 48) #[] #[], .int .i64 12, .int .i64 30, .int .i64 10631], .slice (some ⟨B, 0, none⟩) 2 2, .int .i64 2, u28, u29, u30, u31, u32, u33, u34, u35, u36, u37, u38, u39, u40, u41, u42, u43, u44, u45, u46, u47, u48, u49, u50, u51, u52, u53, u54, u55, u56, u57, u58, u59, u60, u61, u62, u63, u64, u65, u66, u67, u68, u69, u70, u71, u72, u73, u74, u75, u76, u77, u78, u79, u80, u81, u82, u83, u84, u85, u86, u87, u88, u89, u90, u91, u92, u93, u94, u95, u96, u97, u98, u99, u100, u101, u102, u103, u104, u105, u106, u107, u108, u109, u110, u111, u112, u113, u114, u115, u116, u117, u118, u119, u120, u121, u122, u123, u124, u125, u126, u127, u128, u129, u130, u131, u132, u133, u134, u135, u136, u137, u138, u139, u140, u141, u142, u143, u144, u145, u146, u147, u148, u149, u150, u151, u152, u153, u154, u155, u156, u157, u158, u159, u160, u161, u162, u163, u164, u165, u166, u167, u168, u169, u170, u171, u172, u173, u174, u175, u176, u177, u178, u179, u180, u181, u182, u183, u184, u185, u186, u187, u188, u189, u190, u191, u192, u193, u194, u195, u196, u197, u198, u199, u200, u201, u202, u203, u204, u205, u206, u207, u208, u209, u210, u211, u212, u213, u214, u215, u216, u217, u218, u219, u220, u221, u222, u223, u224, u225, u226, u227, u228], []⟩) ∧ 10 - (intOf (a'.tmps.getD 28 undef)).toNat < μ) Q0) ⟨#[.int .i64 day, .agg #[.int .i64 y, .int .i64 m, .int .i64 d], undef, .pointer (some ⟨w.heap.size, 0, none⟩), u4, undef, u6, u7, u8, u9, u10, u11, u12, u13, u14, u15, u16, u17, u18, u19, u20, u21, .bool true, .bool false, .agg #[.func (.func 34) #[] #[], .func (.func 45) #[] #[], .int .i64 13, .int .i64 128, .int .i64 46751], .agg #[.func (.func 35) #[] #[], .func (.func 48) #[] #[], .int .i64 12, .int .i64 30, .int .i64 10631], .slice (some ⟨B, 0, none⟩) 2 2, .int .i64 2, .int .i64 ((1 : Nat) : Int), u29, u30, u31, u32, u33, u34, u35, u36, u37, u38, u39, u40, u41, u42, u43, u44, u45, u46, u47, u48, u49, u50, u51, u52, u53, u54, u55, u56, u57, u58, u59, u60, u61, u62, u63, u64, u65, u66, u67, u68, u69, u70, u71, u72, u73, u74, u75, u76, u77, u78, u79, u80, u81, u82, u83, u84, u85, u86, u87, u88, u89, u90, u91, u92, u93, u94, u95, u96, u97, u98, u99, u100, u101, u102, u103, u104, u105, u106, u107, u108, u109, u110, u111, u112, u113, u114, u115, u116, u117, u118, u119, u120, u121, u122, u123, u124, u125, u126, u127, u128, u129, u130, u131, u132, u133, u134, u135, u136, u137, u138, u139, u140, u141, u142, u143, u144, u145, u146, u147, u148, u149, u150, u151, u152, u153, u154, u155, u156, u157, u158, u159, u160, u161, u162, u163, u164, u165, u166, u167, u168, u169, u170, u171, u172, u173, u174, u175, u176, u177, u178, u179, u180, u181, u182, u183, u184, u185, u186, u187, u188, u189, u190, u191, u192, u193, u194, u195, u196, u197, u198, u199, u200, u201, u202, u203, u204, u205, u206, u207, u208, u209, u210, u211, u212, u213, u214, u215, u216, u217, u218, u219, u220, u221, u222, u223, u224, u225, u226, u227, u228], []⟩ w10 := by
  have HVm := Lib.hid hv; have HCW := Lib.hid hcw; have HMU := Lib.hid hμ; clear hv hcw hμ
  conv => arg 2; whnf
  have HNX := Lib.hid hn; clear hn
  obtain ⟨d0, d1⟩ := hd
  have hneg : ¬ day < 0 := by omega
  have hbig : ¬ 3000000 < day := by omega
  have hi := isM day (by omega) (by omega)
  have hle : yrM day ≤ 9999 - 30 := by have := yrM_le (day := day) (by omega) (by omega) (9999 - 30) (by have h9 : Pl.stM (9999 - 30 + 1) = 3532681 := (by decide); omega); exact this
  have HX0 := Lib.hid (fun W => mOf_yes day W (by omega))
  have HK0 := Lib.hid (fun W => mDay_back day W (by omega))
  have HF := Lib.hid (fun W => mDay_first (yrM day) W ⟨hi.1, hi.2.1⟩)
  have HG := Lib.hid (fun W => mDay_cyc (yrM day) W ⟨hi.1, by omega⟩)
  have HN0 := Lib.hid (fun W => mOf_yes (day + 1) W (by omega))
  have hst := stM_bd (y := yrM day) ⟨hi.1, by have := hi.2.1; omega⟩
  obtain ⟨i1, i2, i3, i4, i5, i6, i9⟩ := hi
  clear i9
  have i7 := (mlM_bd (yrM day) (moM day)).2
  have i8 : daM day ≤ 30 := Int.le_trans i6 i7
  clear i7
  obtain ⟨x3, x1, x2, x4⟩ := HNX.out
  clear HNX
  rw [x1, x2, x3] at HN0
  rw [x4] at HX0 HK0 i4
  have HX := HX0; have HK := HK0; have HN := HN0
  clear x1 x2 x3 x4 HX0 HK0 HN0 i6
  generalize yrM day = Y at *
  generalize daM day = E at *
  have p0 := HCW.out.p0; have p1 := HCW.out.p1; have p2 := HCW.out.p2; have pl := HCW.out.l0
  have u0 := HCW.out.s5; have u1 := HCW.out.s6; have u2 := HCW.out.s7; have u3 := HCW.out.s8; have u4 := HCW.out.s9
  go_wp2_with fail
  refine (mDay_no y m d _ HVm.out).mono ?_
  rintro e w11 ⟨rfl, hb⟩
  have HC11 := Lib.hid (bjoin (w := w10) (by have hb' := (Below.refl w10.heap.size w10); have hb'' := hb'.size; go_grown) hb)
  obtain ⟨l11_c, q11_c0, q11_c1, q11_c2, q11_c3, q11_c4⟩ := keep5 (b := w10.heap.size) (v0 := .func (.func 35) #[] #[]) (v1 := .func (.func 48) #[] #[]) (v2 := .int .i64 12) (v3 := .int .i64 30) (v4 := .int .i64 10631) hb (by first | (simp; done) | (simp; omega)) (by simp [go_sem]) (by simp [go_sem]) (by simp [go_sem]) (by simp [go_sem]) (by simp [go_sem])
  clear p0 p1 p2 pl
  clear hb
  clear u0 u1 u2 u3 u4
  go_wp2_with fail
  refine (HX.out _).mono ?_
  rintro e w12 ⟨rfl, hb⟩
  have HC12 := Lib.hid (bjoin (w := w10) (by have hb' := HC11.out; have hb'' := hb'.size; go_grown) hb)
  obtain ⟨l12_c, q12_c0, q12_c1, q12_c2, q12_c3, q12_c4⟩ := keep5 (b := w10.heap.size) hb (by first | omega | (simp; omega)) q11_c0 q11_c1 q11_c2 q11_c3 q11_c4
  clear q11_c0 q11_c1 q11_c2 q11_c3 q11_c4 l11_c
  clear hb
  go_wp2_with fail
  refine (HK.out _).mono ?_
  rintro e w13 ⟨rfl, hb⟩
  have HC13 := Lib.hid (bjoin (w := w10) (by have hb' := HC12.out; have hb'' := hb'.size; go_grown) hb)
  obtain ⟨l13_c, q13_c0, q13_c1, q13_c2, q13_c3, q13_c4⟩ := keep5 (b := w10.heap.size) hb (by first | omega | (simp; omega)) (cell_alloc_l _ q12_c0) (cell_alloc_l _ q12_c1) (cell_alloc_l _ q12_c2) (cell_alloc_l _ q12_c3) (cell_alloc_l _ q12_c4)
  obtain ⟨l13_x, q13_x0, q13_x1, q13_x2⟩ := keep3 (b := w12.heap.size) (v0 := .int .i64 Y) (v1 := .int .i64 12) (v2 := .int .i64 E) hb (by first | (simp; done) | (simp; omega)) (by simp [go_sem]) (by simp [go_sem]) (by simp [go_sem])
  clear q12_c0 q12_c1 q12_c2 q12_c3 q12_c4 l12_c
  clear hb
  go_wp2_with fail
  refine (HN.out _).mono ?_
  rintro e w14 ⟨rfl, hb⟩
  have HC14 := Lib.hid (bjoin (w := w10) (by have hb' := HC13.out; have hb'' := hb'.size; go_grown) hb)
  obtain ⟨l14_c, q14_c0, q14_c1, q14_c2, q14_c3, q14_c4⟩ := keep5 (b := w10.heap.size) hb (by first | omega | (simp; omega)) q13_c0 q13_c1 q13_c2 q13_c3 q13_c4
  obtain ⟨l14_x, q14_x0, q14_x1, q14_x2⟩ := keep3 (b := w12.heap.size) hb (by first | omega | (simp; omega)) q13_x0 q13_x1 q13_x2
  clear q13_c0 q13_c1 q13_c2 q13_c3 q13_c4 l13_c q13_x0 q13_x1 q13_x2 l13_x
  clear hb
  go_wp2_with fail
  refine (HF.out _).mono ?_
  rintro e w15 ⟨rfl, hb⟩
  have HC15 := Lib.hid (bjoin (w := w10) (by have hb' := HC14.out; have hb'' := hb'.size; go_grown) hb)
  obtain ⟨l15_c, q15_c0, q15_c1, q15_c2, q15_c3, q15_c4⟩ := keep5 (b := w10.heap.size) hb (by first | omega | (simp; omega)) (cell_alloc_l _ q14_c0) (cell_alloc_l _ q14_c1) (cell_alloc_l _ q14_c2) (cell_alloc_l _ q14_c3) (cell_alloc_l _ q14_c4)
  obtain ⟨l15_x, q15_x0, q15_x1, q15_x2⟩ := keep3 (b := w12.heap.size) hb (by first | omega | (simp; omega)) (cell_alloc_l _ q14_x0) (cell_alloc_l _ q14_x1) (cell_alloc_l _ q14_x2)
  obtain ⟨l15_y, q15_y0, q15_y1, q15_y2⟩ := keep3 (b := w14.heap.size) (v0 := .int .i64 (Y + 1)) (v1 := .int .i64 1) (v2 := .int .i64 1) hb (by first | (simp; done) | (simp; omega)) (by simp [go_sem]) (by simp [go_sem]) (by simp [go_sem])
  clear q14_c0 q14_c1 q14_c2 q14_c3 q14_c4 l14_c q14_x0 q14_x1 q14_x2 l14_x
  clear hb
  go_wp2_with fail
  refine (HG.out _).mono ?_
  rintro e w16 ⟨rfl, hb⟩
  have HC16 := Lib.hid (bjoin (w := w10) (by have hb' := HC15.out; have hb'' := hb'.size; go_grown) hb)
  obtain ⟨l16_c, q16_c0, q16_c1, q16_c2, q16_c3, q16_c4⟩ := keep5 (b := w10.heap.size) hb (by first | omega | (simp; omega)) q15_c0 q15_c1 q15_c2 q15_c3 q15_c4
  obtain ⟨l16_x, q16_x0, q16_x1, q16_x2⟩ := keep3 (b := w12.heap.size) hb (by first | omega | (simp; omega)) q15_x0 q15_x1 q15_x2
  clear q15_c0 q15_c1 q15_c2 q15_c3 q15_c4 l15_c q15_x0 q15_x1 q15_x2 l15_x q15_y0 q15_y1 q15_y2 l15_y
  clear hb
  go_wp2_with fail
  go_roundw
  case rel => exact ⟨_, _, _, _, _, _, _, _, _, _, _, _, _, _, _, _, _, _, _, _, _, _, _, _, _, _, _, _, _, _, _, _, _, _, _, _, _, _, _, _, _, _, _, _, _, _, _, _, _, _, _, _, _, _, _, _, _, _, _, _, _, _, _, _, _, _, _, _, _, _, _, _, _, _, _, _, _, _, _, _, _, _, _, _, _, _, _, _, _, _, _, _, _, _, _, _, _, _, _, _, _, _, _, _, _, _, _, _, _, _, _, _, _, _, _, _, _, _, _, _, _, _, _, _, _, _, _, _, _, _, _, _, _, _, _, _, _, _, _, _, _, _, _, _, _, _, _, _, _, _, _, _, _, _, _, _, _, _, _, _, _, _, _, _, _, _, _, _, _, _, _, _, _, _, _, _, _, _, _, _, _, _, _, _, _, _, _, _, _, _, _, _, _, _, _, _, _, _, _, _, _, _, _, _, _, _, _, _, _, _, _, _, _, _, _, _, _, _, ⟨2, by omega, rfl, HCW.out.on (by have hb' := HC16.out; have hb'' := hb'.size; go_grown)⟩, rfl⟩
  case measure => have := HMU.out; simp [intOf]; omega

end Go.Proofs.YtomlfliebolkmaaDoor
