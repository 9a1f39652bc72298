/- The normal form that is due. -/
import Derived.Test.YtogdjjleclbgcaaSteps
namespace Go.Proofs.Ytogdjjleclbgcaa
open Go.RowKit

set_option maxRecDepth 100000 in
set_option maxHeartbeats 1600000 in
theorem part8 (w0 w : World) (g B4 B8 : Nat) (st due : L) (k4 k8 : Hd) (h : Stand w0 w g B4 B8 st due k4 k8)
    (K : Act → World → Prop)
    (hK : ∀ u0 u1 u5 u6 u7 u11 u12 u13 u14 u15 u16 u17 u18 u19 u20 u21 u22 u23 u24 u25 u26 u27 u28 u29 u30 u31 u32 u33 u34 u35 u36 u37 u38 u39 u40 u41 u42 u43 u44 u45 u46 u47 u48 u49 u50 u51 u52 u53 u54 u55 u56 u57 u58 u59 u60 u61 u62 u63 u64 u65 u66 u67 u68 u69 u70 u71 u72 u73 u74 u75 u76 u77 u78 u79 u80 u81 u82 u83 u84 u85 u86 u87 u88 u89 u90 u91 u92 u93 u94 u95 u96 u97 u98 u99 u100 u101 u102 u103 u104 u105 u106 u107 u108 u109 u110 u111 u112 u113 u114 u115 u116 u117 u118 u119 u120 u121 u122 u123 u124 u125 u126 u127 u128 u129 u130 u131 u132 u133 u134 u135 u136 u137 u138 u139 u140 u141 u142 u143 u144 u145 u146 u147 u148 u149 u150 u151 u152 u153 u154 u155 u156 u157 u158 u159 u160 u161 u162 u163 u164 u165 u166 u167 u168 u169 u170 u171 u172 u173 u174 : Value, ∀ B9 : Nat, ∀ w', B9 = w.heap.size → Below w.heap.size w w' → w'.heap[B9]? = some k4.obj → K { tmps := #[u0, u1, .bool false, .pointer (some ⟨g, 0, none⟩), .pointer (some ⟨B4, 0, none⟩), u5, u6, u7, .pointer (some ⟨B8, 0, none⟩), .pointer (some ⟨B9, 0, none⟩), .int .i64 0, u11, u12, u13, u14, u15, u16, u17, u18, u19, u20, u21, u22, u23, u24, u25, u26, u27, u28, u29, u30, u31, u32, u33, u34, u35, u36, u37, u38, u39, u40, u41, u42, u43, u44, u45, u46, u47, u48, u49, u50, u51, u52, u53, u54, u55, u56, u57, u58, u59, u60, u61, u62, u63, u64, u65, u66, u67, u68, u69, u70, u71, u72, u73, u74, u75, u76, u77, u78, u79, u80, u81, u82, u83, u84, u85, u86, u87, u88, u89, u90, u91, u92, u93, u94, u95, u96, u97, u98, u99, u100, u101, u102, u103, u104, u105, u106, u107, u108, u109, u110, u111, u112, u113, u114, u115, u116, u117, u118, u119, u120, u121, u122, u123, u124, u125, u126, u127, u128, u129, u130, u131, u132, u133, u134, u135, u136, u137, u138, u139, u140, u141, u142, u143, u144, u145, u146, u147, u148, u149, u150, u151, u152, u153, u154, u155, u156, u157, u158, u159, u160, u161, u162, u163, u164, u165, u166, u167, u168, u169, u170, u171, u172, u173, u174], defers := [] } w')
    (u0 u1 u5 u6 u7 u9 u10 u11 u12 u13 u14 u15 u16 u17 u18 u19 u20 u21 u22 u23 u24 u25 u26 u27 u28 u29 u30 u31 u32 u33 u34 u35 u36 u37 u38 u39 u40 u41 u42 u43 u44 u45 u46 u47 u48 u49 u50 u51 u52 u53 u54 u55 u56 u57 u58 u59 u60 u61 u62 u63 u64 u65 u66 u67 u68 u69 u70 u71 u72 u73 u74 u75 u76 u77 u78 u79 u80 u81 u82 u83 u84 u85 u86 u87 u88 u89 u90 u91 u92 u93 u94 u95 u96 u97 u98 u99 u100 u101 u102 u103 u104 u105 u106 u107 u108 u109 u110 u111 u112 u113 u114 u115 u116 u117 u118 u119 u120 u121 u122 u123 u124 u125 u126 u127 u128 u129 u130 u131 u132 u133 u134 u135 u136 u137 u138 u139 u140 u141 u142 u143 u144 u145 u146 u147 u148 u149 u150 u151 u152 u153 u154 u155 u156 u157 u158 u159 u160 u161 u162 u163 u164 u165 u166 u167 u168 u169 u170 u171 u172 u173 u174 : Value) : (firstSeq (rest 8)).wp Try.prog (Exit.then K (bodyPost Try.prog Try.f3 (Good w0))) { tmps := #[u0, u1, .bool false, .pointer (some ⟨g, 0, none⟩), .pointer (some ⟨B4, 0, none⟩), u5, u6, u7, .pointer (some ⟨B8, 0, none⟩), u9, u10, u11, u12, u13, u14, u15, u16, u17, u18, u19, u20, u21, u22, u23, u24, u25, u26, u27, u28, u29, u30, u31, u32, u33, u34, u35, u36, u37, u38, u39, u40, u41, u42, u43, u44, u45, u46, u47, u48, u49, u50, u51, u52, u53, u54, u55, u56, u57, u58, u59, u60, u61, u62, u63, u64, u65, u66, u67, u68, u69, u70, u71, u72, u73, u74, u75, u76, u77, u78, u79, u80, u81, u82, u83, u84, u85, u86, u87, u88, u89, u90, u91, u92, u93, u94, u95, u96, u97, u98, u99, u100, u101, u102, u103, u104, u105, u106, u107, u108, u109, u110, u111, u112, u113, u114, u115, u116, u117, u118, u119, u120, u121, u122, u123, u124, u125, u126, u127, u128, u129, u130, u131, u132, u133, u134, u135, u136, u137, u138, u139, u140, u141, u142, u143, u144, u145, u146, u147, u148, u149, u150, u151, u152, u153, u154, u155, u156, u157, u158, u159, u160, u161, u162, u163, u164, u165, u166, u167, u168, u169, u170, u171, u172, u173, u174], defers := [] } w := by
  conv => arg 2; whnf
  have HK := Lib.hid hK
  clear hK
  obtain ⟨e0, e1, e2, e3, e4, e5, e6, e7, e8⟩ := cells_of_block h.b4
  go_wp2_with fail
  exact HK.out _ _ _ _ _ _ _ _ _ _ _ _ _ _ _ _ _ _ _ _ _ _ _ _ _ _ _ _ _ _ _ _ _ _ _ _ _ _ _ _ _ _ _ _ _ _ _ _ _ _ _ _ _ _ _ _ _ _ _ _ _ _ _ _ _ _ _ _ _ _ _ _ _ _ _ _ _ _ _ _ _ _ _ _ _ _ _ _ _ _ _ _ _ _ _ _ _ _ _ _ _ _ _ _ _ _ _ _ _ _ _ _ _ _ _ _ _ _ _ _ _ _ _ _ _ _ _ _ _ _ _ _ _ _ _ _ _ _ _ _ _ _ _ _ _ _ _ _ _ _ _ _ _ _ _ _ _ _ _ _ _ _ _ _ _ _ _ _ _ _ _ rfl (alloc_below w k4.obj) (Go.heap_alloc_new w k4.obj)
set_option maxRecDepth 100000 in
set_option maxHeartbeats 1600000 in

theorem rest8 (w0 w : World) (g B4 B8 : Nat) (st due : L) (k4 k8 : Hd) (h : Stand w0 w g B4 B8 st due k4 k8) (hf : Facts st due st 0) (f x : L) (hst : st = .app f x)
    (u0 u1 u5 u6 u7 u9 u10 u11 u12 u13 u14 u15 u16 u17 u18 u19 u20 u21 u22 u23 u24 u25 u26 u27 u28 u29 u30 u31 u32 u33 u34 u35 u36 u37 u38 u39 u40 u41 u42 u43 u44 u45 u46 u47 u48 u49 u50 u51 u52 u53 u54 u55 u56 u57 u58 u59 u60 u61 u62 u63 u64 u65 u66 u67 u68 u69 u70 u71 u72 u73 u74 u75 u76 u77 u78 u79 u80 u81 u82 u83 u84 u85 u86 u87 u88 u89 u90 u91 u92 u93 u94 u95 u96 u97 u98 u99 u100 u101 u102 u103 u104 u105 u106 u107 u108 u109 u110 u111 u112 u113 u114 u115 u116 u117 u118 u119 u120 u121 u122 u123 u124 u125 u126 u127 u128 u129 u130 u131 u132 u133 u134 u135 u136 u137 u138 u139 u140 u141 u142 u143 u144 u145 u146 u147 u148 u149 u150 u151 u152 u153 u154 u155 u156 u157 u158 u159 u160 u161 u162 u163 u164 u165 u166 u167 u168 u169 u170 u171 u172 u173 u174 : Value) : (rest 8).wp Try.prog (bodyPost Try.prog Try.f3 (Good w0)) { tmps := #[u0, u1, .bool false, .pointer (some ⟨g, 0, none⟩), .pointer (some ⟨B4, 0, none⟩), u5, u6, u7, .pointer (some ⟨B8, 0, none⟩), u9, u10, u11, u12, u13, u14, u15, u16, u17, u18, u19, u20, u21, u22, u23, u24, u25, u26, u27, u28, u29, u30, u31, u32, u33, u34, u35, u36, u37, u38, u39, u40, u41, u42, u43, u44, u45, u46, u47, u48, u49, u50, u51, u52, u53, u54, u55, u56, u57, u58, u59, u60, u61, u62, u63, u64, u65, u66, u67, u68, u69, u70, u71, u72, u73, u74, u75, u76, u77, u78, u79, u80, u81, u82, u83, u84, u85, u86, u87, u88, u89, u90, u91, u92, u93, u94, u95, u96, u97, u98, u99, u100, u101, u102, u103, u104, u105, u106, u107, u108, u109, u110, u111, u112, u113, u114, u115, u116, u117, u118, u119, u120, u121, u122, u123, u124, u125, u126, u127, u128, u129, u130, u131, u132, u133, u134, u135, u136, u137, u138, u139, u140, u141, u142, u143, u144, u145, u146, u147, u148, u149, u150, u151, u152, u153, u154, u155, u156, u157, u158, u159, u160, u161, u162, u163, u164, u165, u166, u167, u168, u169, u170, u171, u172, u173, u174], defers := [] } w := by
  have e : rest 8 = .seq (firstSeq (rest 8)) (rest 9) := rfl
  rw [e]
  refine wp_seq (part8 w0 w g B4 B8 st due k4 k8 h _ ?_ _ _ _ _ _ _ _ _ _ _ _ _ _ _ _ _ _ _ _ _ _ _ _ _ _ _ _ _ _ _ _ _ _ _ _ _ _ _ _ _ _ _ _ _ _ _ _ _ _ _ _ _ _ _ _ _ _ _ _ _ _ _ _ _ _ _ _ _ _ _ _ _ _ _ _ _ _ _ _ _ _ _ _ _ _ _ _ _ _ _ _ _ _ _ _ _ _ _ _ _ _ _ _ _ _ _ _ _ _ _ _ _ _ _ _ _ _ _ _ _ _ _ _ _ _ _ _ _ _ _ _ _ _ _ _ _ _ _ _ _ _ _ _ _ _ _ _ _ _ _ _ _ _ _ _ _ _ _ _ _ _ _ _ _ _ _ _ _ _ _ _)
  intro u0 u1 u5 u6 u7 u11 u12 u13 u14 u15 u16 u17 u18 u19 u20 u21 u22 u23 u24 u25 u26 u27 u28 u29 u30 u31 u32 u33 u34 u35 u36 u37 u38 u39 u40 u41 u42 u43 u44 u45 u46 u47 u48 u49 u50 u51 u52 u53 u54 u55 u56 u57 u58 u59 u60 u61 u62 u63 u64 u65 u66 u67 u68 u69 u70 u71 u72 u73 u74 u75 u76 u77 u78 u79 u80 u81 u82 u83 u84 u85 u86 u87 u88 u89 u90 u91 u92 u93 u94 u95 u96 u97 u98 u99 u100 u101 u102 u103 u104 u105 u106 u107 u108 u109 u110 u111 u112 u113 u114 u115 u116 u117 u118 u119 u120 u121 u122 u123 u124 u125 u126 u127 u128 u129 u130 u131 u132 u133 u134 u135 u136 u137 u138 u139 u140 u141 u142 u143 u144 u145 u146 u147 u148 u149 u150 u151 u152 u153 u154 u155 u156 u157 u158 u159 u160 u161 u162 u163 u164 u165 u166 u167 u168 u169 u170 u171 u172 u173 u174 B9 w' hB hb b9
  have l4 := (Array.getElem?_eq_some_iff.1 h.b4).1
  have l8 := (Array.getElem?_eq_some_iff.1 h.b8).1
  have r4 : Rep w' (fun z => z ≠ g ∧ z ≠ B9) st k4 := (h.r4.bound.below hb).imp (fun z hz _ => ⟨hz.1, by have := hz.2; omega⟩)
  have r8 : Rep w' (fun z => z ≠ g ∧ z ≠ B9) due k8 := (h.r8.bound.below hb).imp (fun z hz _ => ⟨hz.1, by have := hz.2; omega⟩)
  exact rest9 w0 w' g B4 B8 B9 st due k4 k8 k4 (h.below hb) hf f x hst r4 r8 b9 r4 (by have := h.gl; omega) (by omega) (by omega) _ _ _ _ _ _ _ _ _ _ _ _ _ _ _ _ _ _ _ _ _ _ _ _ _ _ _ _ _ _ _ _ _ _ _ _ _ _ _ _ _ _ _ _ _ _ _ _ _ _ _ _ _ _ _ _ _ _ _ _ _ _ _ _ _ _ _ _ _ _ _ _ _ _ _ _ _ _ _ _ _ _ _ _ _ _ _ _ _ _ _ _ _ _ _ _ _ _ _ _ _ _ _ _ _ _ _ _ _ _ _ _ _ _ _ _ _ _ _ _ _ _ _ _ _ _ _ _ _ _ _ _ _ _ _ _ _ _ _ _ _ _ _ _ _ _ _ _ _ _ _ _ _ _ _ _ _ _ _ _ _ _ _ _ _ _ _ _ _

set_option maxRecDepth 100000 in
set_option maxHeartbeats 1600000 in
theorem part7 (w0 w : World) (g B4 B6 B8 c : Nat) (hc : c < 1000) (hlt : B8 < w.heap.size) (b6 : w.heap[B6]? = some (Hd.obj (⟨2, sName, 0, none, 0, 0⟩ : Hd))) (b8 : w.heap[B8]? = some (Hd.obj (⟨3, zName, 3, none, 0, 0⟩ : Hd))) (h68 : B6 ≠ B8)
    (K : Act → World → Prop)
    (hK : ∀ (k8 : Hd), ∀ u0 u1 u5 u6 u7 u9 u10 u11 u12 u13 u14 u15 u16 u17 u18 u19 u20 u21 u22 u23 u24 u25 u26 u27 u28 u29 u30 u31 u32 u33 u34 u35 u36 u37 u38 u39 u40 u41 u42 u43 u44 u45 u46 u47 u48 u49 u50 u51 u52 u53 u54 u55 u56 u57 u58 u59 u60 u61 u62 u63 u64 u65 u66 u67 u68 u69 u70 u71 u72 u73 u74 u75 u76 u77 u78 u79 u80 u81 u82 u83 u84 u85 u86 u87 u88 u89 u90 u91 u92 u93 u94 u95 u96 u97 u98 u99 u100 u101 u102 u103 u104 u105 u106 u107 u108 u109 u110 u111 u112 u113 u114 u115 u116 u117 u118 u119 u120 u121 u122 u123 u124 u125 u126 u127 u128 u129 u130 u131 u132 u133 u134 u135 u136 u137 u138 u139 u140 u141 u142 u143 u144 u145 u146 u147 u148 u149 u150 u151 u152 u153 u154 u155 u156 u157 u158 u159 u160 u161 u162 u163 u164 u165 u166 u167 u168 u169 u170 u171 u172 u173 u174 : Value, ∀ w', w.grownBy w' (some B8) → w'.heap[B8]? = some k8.obj → Rep w' (fun z => z ≠ B8 ∧ w.heap.size ≤ z) (L.iter .free c .var) k8 → K { tmps := #[u0, u1, .bool false, .pointer (some ⟨g, 0, none⟩), .pointer (some ⟨B4, 0, none⟩), u5, u6, u7, .pointer (some ⟨B8, 0, none⟩), u9, u10, u11, u12, u13, u14, u15, u16, u17, u18, u19, u20, u21, u22, u23, u24, u25, u26, u27, u28, u29, u30, u31, u32, u33, u34, u35, u36, u37, u38, u39, u40, u41, u42, u43, u44, u45, u46, u47, u48, u49, u50, u51, u52, u53, u54, u55, u56, u57, u58, u59, u60, u61, u62, u63, u64, u65, u66, u67, u68, u69, u70, u71, u72, u73, u74, u75, u76, u77, u78, u79, u80, u81, u82, u83, u84, u85, u86, u87, u88, u89, u90, u91, u92, u93, u94, u95, u96, u97, u98, u99, u100, u101, u102, u103, u104, u105, u106, u107, u108, u109, u110, u111, u112, u113, u114, u115, u116, u117, u118, u119, u120, u121, u122, u123, u124, u125, u126, u127, u128, u129, u130, u131, u132, u133, u134, u135, u136, u137, u138, u139, u140, u141, u142, u143, u144, u145, u146, u147, u148, u149, u150, u151, u152, u153, u154, u155, u156, u157, u158, u159, u160, u161, u162, u163, u164, u165, u166, u167, u168, u169, u170, u171, u172, u173, u174], defers := [] } w')
    (u0 u1 u7 u9 u10 u11 u12 u13 u14 u15 u16 u17 u18 u19 u20 u21 u22 u23 u24 u25 u26 u27 u28 u29 u30 u31 u32 u33 u34 u35 u36 u37 u38 u39 u40 u41 u42 u43 u44 u45 u46 u47 u48 u49 u50 u51 u52 u53 u54 u55 u56 u57 u58 u59 u60 u61 u62 u63 u64 u65 u66 u67 u68 u69 u70 u71 u72 u73 u74 u75 u76 u77 u78 u79 u80 u81 u82 u83 u84 u85 u86 u87 u88 u89 u90 u91 u92 u93 u94 u95 u96 u97 u98 u99 u100 u101 u102 u103 u104 u105 u106 u107 u108 u109 u110 u111 u112 u113 u114 u115 u116 u117 u118 u119 u120 u121 u122 u123 u124 u125 u126 u127 u128 u129 u130 u131 u132 u133 u134 u135 u136 u137 u138 u139 u140 u141 u142 u143 u144 u145 u146 u147 u148 u149 u150 u151 u152 u153 u154 u155 u156 u157 u158 u159 u160 u161 u162 u163 u164 u165 u166 u167 u168 u169 u170 u171 u172 u173 u174 : Value) : (firstSeq (rest 7)).wp Try.prog (Exit.then K (bodyPost Try.prog Try.f3 (Good w0))) { tmps := #[u0, u1, .bool false, .pointer (some ⟨g, 0, none⟩), .pointer (some ⟨B4, 0, none⟩), .int .i64 c, .pointer (some ⟨B6, 0, none⟩), u7, .pointer (some ⟨B8, 0, none⟩), u9, u10, u11, u12, u13, u14, u15, u16, u17, u18, u19, u20, u21, u22, u23, u24, u25, u26, u27, u28, u29, u30, u31, u32, u33, u34, u35, u36, u37, u38, u39, u40, u41, u42, u43, u44, u45, u46, u47, u48, u49, u50, u51, u52, u53, u54, u55, u56, u57, u58, u59, u60, u61, u62, u63, u64, u65, u66, u67, u68, u69, u70, u71, u72, u73, u74, u75, u76, u77, u78, u79, u80, u81, u82, u83, u84, u85, u86, u87, u88, u89, u90, u91, u92, u93, u94, u95, u96, u97, u98, u99, u100, u101, u102, u103, u104, u105, u106, u107, u108, u109, u110, u111, u112, u113, u114, u115, u116, u117, u118, u119, u120, u121, u122, u123, u124, u125, u126, u127, u128, u129, u130, u131, u132, u133, u134, u135, u136, u137, u138, u139, u140, u141, u142, u143, u144, u145, u146, u147, u148, u149, u150, u151, u152, u153, u154, u155, u156, u157, u158, u159, u160, u161, u162, u163, u164, u165, u166, u167, u168, u169, u170, u171, u172, u173, u174], defers := [] } w := by
  conv => arg 2; whnf
  have HK := Lib.hid hK
  have HB := Lib.hid (And.intro b6 b8)
  clear hK b6 b8
  go_wp2_with fail
  go_loopw [56] (fun v wr => ∃ (i : Nat) (q : Hd), v = .int .i64 i ∧ i ≤ c ∧ w.grownBy wr (some B8) ∧ wr.heap[B8]? = some q.obj ∧ Rep wr (fun z => z ≠ B8 ∧ w.heap.size ≤ z) (L.iter .free i .var) q) (fun v _ => c - (intOf v).toNat)
  case atStart => exact ⟨0, (⟨3, zName, 3, none, 0, 0⟩ : Hd), rfl, by omega, gb_some ⟨rfl, rfl, rfl, Nat.le_refl _, fun _ _ _ => rfl⟩, HB.out.2, rfl⟩
  case round =>
    obtain ⟨i, q, rfl, hi, hg, hb, hr⟩ := hrel
    have H := Lib.hid (And.intro hg (And.intro hb hr))
    by_cases hin : i < c
    · have p6 := (hg.block B6 (Array.getElem?_eq_some_iff.1 HB.out.1).1 (by simpa using h68)).trans HB.out.1
      obtain ⟨e0, e1, e2, e3, e4, e5, e6, e7, e8⟩ := cells_of_block p6
      obtain ⟨f0, f1, f2, f3, f4, f5, f6, f7, f8⟩ := cells_of_block hb
      have l8 := (Array.getElem?_eq_some_iff.1 hb).1
      clear hg hb hr p6
      go_wp2_with fail
      have ha := alloc_below wr q.obj
      have hr1 := (H.out.2.2.below ha)
      refine (apps1 .free (L.iter .free i .var) _ (fun z => z ≠ B8 ∧ w.heap.size ≤ z) (⟨2, sName, 0, none, 0, 0⟩ : Hd) q wr.heap.size 1 rfl hr1 (at0_of_block (Go.heap_alloc_new wr q.obj))).mono ?_
      rintro e w1 ⟨k1, rfl, r1, hb1⟩
      have h2 := ha.trans (hb1.mono ha.size)
      have q8 := (h2.block B8 l8).trans H.out.2.1
      have hsz : wr.heap.size ≤ w1.heap.size := h2.size
      have H1 := Lib.hid (And.intro h2 (And.intro r1 q8))
      clear h2 r1 hb1 hr1 ha e0 e1 e2 e3 e4 e5 e6 e7 e8 f0 f1 f2 f3 f4 f5 f6 f7 f8
      obtain ⟨e0, e1, e2, e3, e4, e5, e6, e7, e8⟩ := cells_of_block q8
      have fz := free_of_block q8
      have l8' : B8 < w1.heap.size := by omega
      clear q8
      go_wp2_with fail
      go_roundw
      case rel =>
        obtain ⟨h2, r1, q8⟩ := H1.out
        obtain ⟨V, hV, n1, n2, n3⟩ := nineE (.int .i64 k1.op) (.string k1.name) (.int .i64 k1.num) (.int .i64 0) (.string ⟨#[]⟩) (.int .i64 0) (.slice none 0 0) (.slice none 0 0) (.slice k1.A k1.n k1.c) q8
        rw [hV]
        have r2 : Rep w1 (fun z => z ≠ B8 ∧ w.heap.size ≤ z) (L.iter .free (i + 1) .var) k1 := r1.imp (fun z hz _ => hz.elim id (fun hz => by have := H.out.1.size; simp at hz; exact ⟨by omega, by omega⟩))
        exact ⟨i + 1, k1, by go_num, by omega, tr_row (tr_row H.out.1 (gb_some (gb_below h2))) n2, n1, r2.grown n2 (fun z hz e => hz.1 (by simpa using e))⟩
      case measure => simp [intOf]; omega
    · obtain rfl : i = c := by omega
      clear hg hb hr
      go_wp2_with fail
      exact HK.out q _ _ _ _ _ _ _ _ _ _ _ _ _ _ _ _ _ _ _ _ _ _ _ _ _ _ _ _ _ _ _ _ _ _ _ _ _ _ _ _ _ _ _ _ _ _ _ _ _ _ _ _ _ _ _ _ _ _ _ _ _ _ _ _ _ _ _ _ _ _ _ _ _ _ _ _ _ _ _ _ _ _ _ _ _ _ _ _ _ _ _ _ _ _ _ _ _ _ _ _ _ _ _ _ _ _ _ _ _ _ _ _ _ _ _ _ _ _ _ _ _ _ _ _ _ _ _ _ _ _ _ _ _ _ _ _ _ _ _ _ _ _ _ _ _ _ _ _ _ _ _ _ _ _ _ _ _ _ _ _ _ _ _ _ _ _ _ _ _ _ _ _ H.out.1 H.out.2.1 H.out.2.2
end Go.Proofs.Ytogdjjleclbgcaa
