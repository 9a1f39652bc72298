/- The redexes around the term. -/
import Derived.Test.YtogdjjleclbgcaaDue
namespace Go.Proofs.Ytogdjjleclbgcaa
open Go.RowKit

set_option maxRecDepth 100000 in
set_option maxHeartbeats 1600000 in
theorem rest7 (w0 w : World) (g B4 B6 B8 : Nat) (c : Nat) (hc : c < 1000) (st : L) (k4 : Hd) (hb : Below w0.heap.size w0 w) (hg : w0.heap.size ≤ g) (ht : Tile w g) (h4 : B4 ≠ g) (b4 : w.heap[B4]? = some k4.obj) (b6 : w.heap[B6]? = some (Hd.obj (⟨2, sName, 0, none, 0, 0⟩ : Hd))) (b8 : w.heap[B8]? = some (Hd.obj (⟨3, zName, 3, none, 0, 0⟩ : Hd))) (r4 : Rep w (fun z => z ≠ g ∧ z ≠ B8) st k4) (hgB : g < B8) (h48 : B4 ≠ B8) (h68 : B6 ≠ B8) (hf : Facts st (L.iter .free c .var) st 0) (f x : L) (hst : st = .app f x)
    (u0 u1 u7 u9 u10 u11 u12 u13 u14 u15 u16 u17 u18 u19 u20 u21 u22 u23 u24 u25 u26 u27 u28 u29 u30 u31 u32 u33 u34 u35 u36 u37 u38 u39 u40 u41 u42 u43 u44 u45 u46 u47 u48 u49 u50 u51 u52 u53 u54 u55 u56 u57 u58 u59 u60 u61 u62 u63 u64 u65 u66 u67 u68 u69 u70 u71 u72 u73 u74 u75 u76 u77 u78 u79 u80 u81 u82 u83 u84 u85 u86 u87 u88 u89 u90 u91 u92 u93 u94 u95 u96 u97 u98 u99 u100 u101 u102 u103 u104 u105 u106 u107 u108 u109 u110 u111 u112 u113 u114 u115 u116 u117 u118 u119 u120 u121 u122 u123 u124 u125 u126 u127 u128 u129 u130 u131 u132 u133 u134 u135 u136 u137 u138 u139 u140 u141 u142 u143 u144 u145 u146 u147 u148 u149 u150 u151 u152 u153 u154 u155 u156 u157 u158 u159 u160 u161 u162 u163 u164 u165 u166 u167 u168 u169 u170 u171 u172 u173 u174 : Value) : (rest 7).wp Try.prog (bodyPost Try.prog Try.f3 (Good w0)) { tmps := #[u0, u1, .bool false, .pointer (some ⟨g, 0, none⟩), .pointer (some ⟨B4, 0, none⟩), .int .i64 c, .pointer (some ⟨B6, 0, none⟩), u7, .pointer (some ⟨B8, 0, none⟩), u9, u10, u11, u12, u13, u14, u15, u16, u17, u18, u19, u20, u21, u22, u23, u24, u25, u26, u27, u28, u29, u30, u31, u32, u33, u34, u35, u36, u37, u38, u39, u40, u41, u42, u43, u44, u45, u46, u47, u48, u49, u50, u51, u52, u53, u54, u55, u56, u57, u58, u59, u60, u61, u62, u63, u64, u65, u66, u67, u68, u69, u70, u71, u72, u73, u74, u75, u76, u77, u78, u79, u80, u81, u82, u83, u84, u85, u86, u87, u88, u89, u90, u91, u92, u93, u94, u95, u96, u97, u98, u99, u100, u101, u102, u103, u104, u105, u106, u107, u108, u109, u110, u111, u112, u113, u114, u115, u116, u117, u118, u119, u120, u121, u122, u123, u124, u125, u126, u127, u128, u129, u130, u131, u132, u133, u134, u135, u136, u137, u138, u139, u140, u141, u142, u143, u144, u145, u146, u147, u148, u149, u150, u151, u152, u153, u154, u155, u156, u157, u158, u159, u160, u161, u162, u163, u164, u165, u166, u167, u168, u169, u170, u171, u172, u173, u174], defers := [] } w := by
  have e : rest 7 = .seq (firstSeq (rest 7)) (rest 8) := rfl
  rw [e]
  refine wp_seq (part7 w0 w g B4 B6 B8 c hc (Array.getElem?_eq_some_iff.1 b8).1 b6 b8 h68 _ ?_ _ _ _ _ _ _ _ _ _ _ _ _ _ _ _ _ _ _ _ _ _ _ _ _ _ _ _ _ _ _ _ _ _ _ _ _ _ _ _ _ _ _ _ _ _ _ _ _ _ _ _ _ _ _ _ _ _ _ _ _ _ _ _ _ _ _ _ _ _ _ _ _ _ _ _ _ _ _ _ _ _ _ _ _ _ _ _ _ _ _ _ _ _ _ _ _ _ _ _ _ _ _ _ _ _ _ _ _ _ _ _ _ _ _ _ _ _ _ _ _ _ _ _ _ _ _ _ _ _ _ _ _ _ _ _ _ _ _ _ _ _ _ _ _ _ _ _ _ _ _ _ _ _ _ _ _ _ _ _ _ _ _ _ _ _ _ _ _ _)
  intro k8 u0 u1 u5 u6 u7 u9 u10 u11 u12 u13 u14 u15 u16 u17 u18 u19 u20 u21 u22 u23 u24 u25 u26 u27 u28 u29 u30 u31 u32 u33 u34 u35 u36 u37 u38 u39 u40 u41 u42 u43 u44 u45 u46 u47 u48 u49 u50 u51 u52 u53 u54 u55 u56 u57 u58 u59 u60 u61 u62 u63 u64 u65 u66 u67 u68 u69 u70 u71 u72 u73 u74 u75 u76 u77 u78 u79 u80 u81 u82 u83 u84 u85 u86 u87 u88 u89 u90 u91 u92 u93 u94 u95 u96 u97 u98 u99 u100 u101 u102 u103 u104 u105 u106 u107 u108 u109 u110 u111 u112 u113 u114 u115 u116 u117 u118 u119 u120 u121 u122 u123 u124 u125 u126 u127 u128 u129 u130 u131 u132 u133 u134 u135 u136 u137 u138 u139 u140 u141 u142 u143 u144 u145 u146 u147 u148 u149 u150 u151 u152 u153 u154 u155 u156 u157 u158 u159 u160 u161 u162 u163 u164 u165 u166 u167 u168 u169 u170 u171 u172 u173 u174 w' hg' b8' r8'
  have hgl := ht.lt
  refine rest8 w0 w' g B4 B8 st _ k4 k8 ⟨below_gb hb hg' hb.size (by simp; omega), hg, Nat.lt_of_lt_of_le hgl hg'.size, ht.grown hg' (by simpa using hgB), h4, by omega,
    (hg'.block B4 (Array.getElem?_eq_some_iff.1 b4).1 (by simpa using h48)).trans b4, b8', (r4.grown hg' (fun z hz e => hz.2 (by simpa using e))).imp (fun z hz _ => hz.1), r8'.imp (fun z hz _ => by omega)⟩ hf f x hst _ _ _ _ _ _ _ _ _ _ _ _ _ _ _ _ _ _ _ _ _ _ _ _ _ _ _ _ _ _ _ _ _ _ _ _ _ _ _ _ _ _ _ _ _ _ _ _ _ _ _ _ _ _ _ _ _ _ _ _ _ _ _ _ _ _ _ _ _ _ _ _ _ _ _ _ _ _ _ _ _ _ _ _ _ _ _ _ _ _ _ _ _ _ _ _ _ _ _ _ _ _ _ _ _ _ _ _ _ _ _ _ _ _ _ _ _ _ _ _ _ _ _ _ _ _ _ _ _ _ _ _ _ _ _ _ _ _ _ _ _ _ _ _ _ _ _ _ _ _ _ _ _ _ _ _ _ _ _ _ _ _ _ _ _ _ _ _ _ _ _

set_option maxRecDepth 100000 in
set_option maxHeartbeats 1600000 in
theorem part6 (w0 w : World) (g B4 B6 B7 c : Nat) (b7 : w.heap[B7]? = some (Hd.obj (⟨3, zName, 3, none, 0, 0⟩ : Hd)))
    (K : Act → World → Prop)
    (hK : ∀ (B8 : Nat), ∀ u0 u1 u7 u9 u10 u11 u12 u13 u14 u15 u16 u17 u18 u19 u20 u21 u22 u23 u24 u25 u26 u27 u28 u29 u30 u31 u32 u33 u34 u35 u36 u37 u38 u39 u40 u41 u42 u43 u44 u45 u46 u47 u48 u49 u50 u51 u52 u53 u54 u55 u56 u57 u58 u59 u60 u61 u62 u63 u64 u65 u66 u67 u68 u69 u70 u71 u72 u73 u74 u75 u76 u77 u78 u79 u80 u81 u82 u83 u84 u85 u86 u87 u88 u89 u90 u91 u92 u93 u94 u95 u96 u97 u98 u99 u100 u101 u102 u103 u104 u105 u106 u107 u108 u109 u110 u111 u112 u113 u114 u115 u116 u117 u118 u119 u120 u121 u122 u123 u124 u125 u126 u127 u128 u129 u130 u131 u132 u133 u134 u135 u136 u137 u138 u139 u140 u141 u142 u143 u144 u145 u146 u147 u148 u149 u150 u151 u152 u153 u154 u155 u156 u157 u158 u159 u160 u161 u162 u163 u164 u165 u166 u167 u168 u169 u170 u171 u172 u173 u174 : Value, ∀ w', B8 = w.heap.size → Below w.heap.size w w' → w'.heap[B8]? = some (Hd.obj (⟨3, zName, 3, none, 0, 0⟩ : Hd)) → K { tmps := #[u0, u1, .bool false, .pointer (some ⟨g, 0, none⟩), .pointer (some ⟨B4, 0, none⟩), .int .i64 c, .pointer (some ⟨B6, 0, none⟩), u7, .pointer (some ⟨B8, 0, none⟩), u9, u10, u11, u12, u13, u14, u15, u16, u17, u18, u19, u20, u21, u22, u23, u24, u25, u26, u27, u28, u29, u30, u31, u32, u33, u34, u35, u36, u37, u38, u39, u40, u41, u42, u43, u44, u45, u46, u47, u48, u49, u50, u51, u52, u53, u54, u55, u56, u57, u58, u59, u60, u61, u62, u63, u64, u65, u66, u67, u68, u69, u70, u71, u72, u73, u74, u75, u76, u77, u78, u79, u80, u81, u82, u83, u84, u85, u86, u87, u88, u89, u90, u91, u92, u93, u94, u95, u96, u97, u98, u99, u100, u101, u102, u103, u104, u105, u106, u107, u108, u109, u110, u111, u112, u113, u114, u115, u116, u117, u118, u119, u120, u121, u122, u123, u124, u125, u126, u127, u128, u129, u130, u131, u132, u133, u134, u135, u136, u137, u138, u139, u140, u141, u142, u143, u144, u145, u146, u147, u148, u149, u150, u151, u152, u153, u154, u155, u156, u157, u158, u159, u160, u161, u162, u163, u164, u165, u166, u167, u168, u169, u170, u171, u172, u173, u174], defers := [] } w')
    (u0 u1 u8 u9 u10 u11 u12 u13 u14 u15 u16 u17 u18 u19 u20 u21 u22 u23 u24 u25 u26 u27 u28 u29 u30 u31 u32 u33 u34 u35 u36 u37 u38 u39 u40 u41 u42 u43 u44 u45 u46 u47 u48 u49 u50 u51 u52 u53 u54 u55 u56 u57 u58 u59 u60 u61 u62 u63 u64 u65 u66 u67 u68 u69 u70 u71 u72 u73 u74 u75 u76 u77 u78 u79 u80 u81 u82 u83 u84 u85 u86 u87 u88 u89 u90 u91 u92 u93 u94 u95 u96 u97 u98 u99 u100 u101 u102 u103 u104 u105 u106 u107 u108 u109 u110 u111 u112 u113 u114 u115 u116 u117 u118 u119 u120 u121 u122 u123 u124 u125 u126 u127 u128 u129 u130 u131 u132 u133 u134 u135 u136 u137 u138 u139 u140 u141 u142 u143 u144 u145 u146 u147 u148 u149 u150 u151 u152 u153 u154 u155 u156 u157 u158 u159 u160 u161 u162 u163 u164 u165 u166 u167 u168 u169 u170 u171 u172 u173 u174 : Value) : (firstSeq (rest 6)).wp Try.prog (Exit.then K (bodyPost Try.prog Try.f3 (Good w0))) { tmps := #[u0, u1, .bool false, .pointer (some ⟨g, 0, none⟩), .pointer (some ⟨B4, 0, none⟩), .int .i64 c, .pointer (some ⟨B6, 0, none⟩), .pointer (some ⟨B7, 0, none⟩), u8, u9, u10, u11, u12, u13, u14, u15, u16, u17, u18, u19, u20, u21, u22, u23, u24, u25, u26, u27, u28, u29, u30, u31, u32, u33, u34, u35, u36, u37, u38, u39, u40, u41, u42, u43, u44, u45, u46, u47, u48, u49, u50, u51, u52, u53, u54, u55, u56, u57, u58, u59, u60, u61, u62, u63, u64, u65, u66, u67, u68, u69, u70, u71, u72, u73, u74, u75, u76, u77, u78, u79, u80, u81, u82, u83, u84, u85, u86, u87, u88, u89, u90, u91, u92, u93, u94, u95, u96, u97, u98, u99, u100, u101, u102, u103, u104, u105, u106, u107, u108, u109, u110, u111, u112, u113, u114, u115, u116, u117, u118, u119, u120, u121, u122, u123, u124, u125, u126, u127, u128, u129, u130, u131, u132, u133, u134, u135, u136, u137, u138, u139, u140, u141, u142, u143, u144, u145, u146, u147, u148, u149, u150, u151, u152, u153, u154, u155, u156, u157, u158, u159, u160, u161, u162, u163, u164, u165, u166, u167, u168, u169, u170, u171, u172, u173, u174], defers := [] } w := by
  conv => arg 2; whnf
  have HK := Lib.hid hK
  clear hK
  obtain ⟨e0, e1, e2, e3, e4, e5, e6, e7, e8⟩ := cells_of_block b7
  go_wp2_with fail
  exact HK.out _ _ _ _ _ _ _ _ _ _ _ _ _ _ _ _ _ _ _ _ _ _ _ _ _ _ _ _ _ _ _ _ _ _ _ _ _ _ _ _ _ _ _ _ _ _ _ _ _ _ _ _ _ _ _ _ _ _ _ _ _ _ _ _ _ _ _ _ _ _ _ _ _ _ _ _ _ _ _ _ _ _ _ _ _ _ _ _ _ _ _ _ _ _ _ _ _ _ _ _ _ _ _ _ _ _ _ _ _ _ _ _ _ _ _ _ _ _ _ _ _ _ _ _ _ _ _ _ _ _ _ _ _ _ _ _ _ _ _ _ _ _ _ _ _ _ _ _ _ _ _ _ _ _ _ _ _ _ _ _ _ _ _ _ _ _ _ _ _ _ _ rfl (alloc_below w _) (Go.heap_alloc_new w _)
set_option maxRecDepth 100000 in
set_option maxHeartbeats 1600000 in

theorem rest6 (w0 w : World) (g B4 B6 B7 : Nat) (c : Nat) (hc : c < 1000) (st : L) (k4 : Hd) (hb : Below w0.heap.size w0 w) (hg : w0.heap.size ≤ g) (ht : Tile w g) (h4 : B4 ≠ g) (b4 : w.heap[B4]? = some k4.obj) (b6 : w.heap[B6]? = some (Hd.obj (⟨2, sName, 0, none, 0, 0⟩ : Hd))) (b7 : w.heap[B7]? = some (Hd.obj (⟨3, zName, 3, none, 0, 0⟩ : Hd))) (r4 : Rep w (fun z => z ≠ g) st k4) (hf : Facts st (L.iter .free c .var) st 0) (f x : L) (hst : st = .app f x)
    (u0 u1 u8 u9 u10 u11 u12 u13 u14 u15 u16 u17 u18 u19 u20 u21 u22 u23 u24 u25 u26 u27 u28 u29 u30 u31 u32 u33 u34 u35 u36 u37 u38 u39 u40 u41 u42 u43 u44 u45 u46 u47 u48 u49 u50 u51 u52 u53 u54 u55 u56 u57 u58 u59 u60 u61 u62 u63 u64 u65 u66 u67 u68 u69 u70 u71 u72 u73 u74 u75 u76 u77 u78 u79 u80 u81 u82 u83 u84 u85 u86 u87 u88 u89 u90 u91 u92 u93 u94 u95 u96 u97 u98 u99 u100 u101 u102 u103 u104 u105 u106 u107 u108 u109 u110 u111 u112 u113 u114 u115 u116 u117 u118 u119 u120 u121 u122 u123 u124 u125 u126 u127 u128 u129 u130 u131 u132 u133 u134 u135 u136 u137 u138 u139 u140 u141 u142 u143 u144 u145 u146 u147 u148 u149 u150 u151 u152 u153 u154 u155 u156 u157 u158 u159 u160 u161 u162 u163 u164 u165 u166 u167 u168 u169 u170 u171 u172 u173 u174 : Value) : (rest 6).wp Try.prog (bodyPost Try.prog Try.f3 (Good w0)) { tmps := #[u0, u1, .bool false, .pointer (some ⟨g, 0, none⟩), .pointer (some ⟨B4, 0, none⟩), .int .i64 c, .pointer (some ⟨B6, 0, none⟩), .pointer (some ⟨B7, 0, none⟩), u8, u9, u10, u11, u12, u13, u14, u15, u16, u17, u18, u19, u20, u21, u22, u23, u24, u25, u26, u27, u28, u29, u30, u31, u32, u33, u34, u35, u36, u37, u38, u39, u40, u41, u42, u43, u44, u45, u46, u47, u48, u49, u50, u51, u52, u53, u54, u55, u56, u57, u58, u59, u60, u61, u62, u63, u64, u65, u66, u67, u68, u69, u70, u71, u72, u73, u74, u75, u76, u77, u78, u79, u80, u81, u82, u83, u84, u85, u86, u87, u88, u89, u90, u91, u92, u93, u94, u95, u96, u97, u98, u99, u100, u101, u102, u103, u104, u105, u106, u107, u108, u109, u110, u111, u112, u113, u114, u115, u116, u117, u118, u119, u120, u121, u122, u123, u124, u125, u126, u127, u128, u129, u130, u131, u132, u133, u134, u135, u136, u137, u138, u139, u140, u141, u142, u143, u144, u145, u146, u147, u148, u149, u150, u151, u152, u153, u154, u155, u156, u157, u158, u159, u160, u161, u162, u163, u164, u165, u166, u167, u168, u169, u170, u171, u172, u173, u174], defers := [] } w := by
  have e : rest 6 = .seq (firstSeq (rest 6)) (rest 7) := rfl
  rw [e]
  refine wp_seq (part6 w0 w g B4 B6 B7 c b7 _ ?_ _ _ _ _ _ _ _ _ _ _ _ _ _ _ _ _ _ _ _ _ _ _ _ _ _ _ _ _ _ _ _ _ _ _ _ _ _ _ _ _ _ _ _ _ _ _ _ _ _ _ _ _ _ _ _ _ _ _ _ _ _ _ _ _ _ _ _ _ _ _ _ _ _ _ _ _ _ _ _ _ _ _ _ _ _ _ _ _ _ _ _ _ _ _ _ _ _ _ _ _ _ _ _ _ _ _ _ _ _ _ _ _ _ _ _ _ _ _ _ _ _ _ _ _ _ _ _ _ _ _ _ _ _ _ _ _ _ _ _ _ _ _ _ _ _ _ _ _ _ _ _ _ _ _ _ _ _ _ _ _ _ _ _ _ _ _ _ _ _)
  intro B8 u0 u1 u7 u9 u10 u11 u12 u13 u14 u15 u16 u17 u18 u19 u20 u21 u22 u23 u24 u25 u26 u27 u28 u29 u30 u31 u32 u33 u34 u35 u36 u37 u38 u39 u40 u41 u42 u43 u44 u45 u46 u47 u48 u49 u50 u51 u52 u53 u54 u55 u56 u57 u58 u59 u60 u61 u62 u63 u64 u65 u66 u67 u68 u69 u70 u71 u72 u73 u74 u75 u76 u77 u78 u79 u80 u81 u82 u83 u84 u85 u86 u87 u88 u89 u90 u91 u92 u93 u94 u95 u96 u97 u98 u99 u100 u101 u102 u103 u104 u105 u106 u107 u108 u109 u110 u111 u112 u113 u114 u115 u116 u117 u118 u119 u120 u121 u122 u123 u124 u125 u126 u127 u128 u129 u130 u131 u132 u133 u134 u135 u136 u137 u138 u139 u140 u141 u142 u143 u144 u145 u146 u147 u148 u149 u150 u151 u152 u153 u154 u155 u156 u157 u158 u159 u160 u161 u162 u163 u164 u165 u166 u167 u168 u169 u170 u171 u172 u173 u174 w' hB hb' b8'
  have hgl := ht.lt
  have l4 := (Array.getElem?_eq_some_iff.1 b4).1
  have l6 := (Array.getElem?_eq_some_iff.1 b6).1
  exact rest7 w0 w' g B4 B6 B8 c hc st k4 (hb.trans (hb'.mono hb.size)) hg (ht.below hb') h4 ((hb'.block B4 l4).trans b4) ((hb'.block B6 l6).trans b6) b8'
    ((r4.bound.below hb').imp (fun z hz _ => ⟨hz.1, by have := hz.2; omega⟩)) (by omega) (by omega) (by omega) hf f x hst _ _ _ _ _ _ _ _ _ _ _ _ _ _ _ _ _ _ _ _ _ _ _ _ _ _ _ _ _ _ _ _ _ _ _ _ _ _ _ _ _ _ _ _ _ _ _ _ _ _ _ _ _ _ _ _ _ _ _ _ _ _ _ _ _ _ _ _ _ _ _ _ _ _ _ _ _ _ _ _ _ _ _ _ _ _ _ _ _ _ _ _ _ _ _ _ _ _ _ _ _ _ _ _ _ _ _ _ _ _ _ _ _ _ _ _ _ _ _ _ _ _ _ _ _ _ _ _ _ _ _ _ _ _ _ _ _ _ _ _ _ _ _ _ _ _ _ _ _ _ _ _ _ _ _ _ _ _ _ _ _ _ _ _ _ _ _ _ _

set_option maxRecDepth 100000 in
set_option maxHeartbeats 3200000 in
theorem part5 (w0 w : World) (g B4 B6 B7 c : Nat) (t0 : L) (k4 : Hd) (hcl : L.clo 0 t0) (hdp : t0.depth < 1000) (ht : Tile w g) (b4 : w.heap[B4]? = some k4.obj) (b7 : w.heap[B7]? = some (Hd.obj (⟨3, zName, 3, none, 0, 0⟩ : Hd))) (r4 : Rep w (fun z => z ≠ g ∧ z ≠ B4) t0 k4) (hgB : g < B4) (h7g : B7 ≠ g) (h74 : B7 ≠ B4)
    (K : Act → World → Prop)
    (hK : ∀ (j : Nat) (k4 : Hd), ∀ u0 u1 u8 u9 u10 u11 u12 u13 u14 u15 u16 u17 u18 u19 u20 u21 u22 u23 u24 u25 u26 u27 u28 u29 u30 u31 u32 u33 u34 u35 u36 u37 u38 u39 u40 u41 u42 u43 u44 u45 u46 u47 u48 u49 u50 u51 u52 u53 u54 u55 u56 u57 u58 u59 u60 u61 u62 u63 u64 u65 u66 u67 u68 u69 u70 u71 u72 u73 u74 u75 u76 u77 u78 u79 u80 u81 u82 u83 u84 u85 u86 u87 u88 u89 u90 u91 u92 u93 u94 u95 u96 u97 u98 u99 u100 u101 u102 u103 u104 u105 u106 u107 u108 u109 u110 u111 u112 u113 u114 u115 u116 u117 u118 u119 u120 u121 u122 u123 u124 u125 u126 u127 u128 u129 u130 u131 u132 u133 u134 u135 u136 u137 u138 u139 u140 u141 u142 u143 u144 u145 u146 u147 u148 u149 u150 u151 u152 u153 u154 u155 u156 u157 u158 u159 u160 u161 u162 u163 u164 u165 u166 u167 u168 u169 u170 u171 u172 u173 u174 : Value, ∀ w1 w', j ≤ 3 → w.grownBy w1 (some g) → w1.grownBy w' (some B4) → Tile w' g → w'.heap[B4]? = some k4.obj → Rep w' (fun z => z ≠ g ∧ z ≠ B4) (L.wrap j t0) k4 → K { tmps := #[u0, u1, .bool false, .pointer (some ⟨g, 0, none⟩), .pointer (some ⟨B4, 0, none⟩), .int .i64 c, .pointer (some ⟨B6, 0, none⟩), .pointer (some ⟨B7, 0, none⟩), u8, u9, u10, u11, u12, u13, u14, u15, u16, u17, u18, u19, u20, u21, u22, u23, u24, u25, u26, u27, u28, u29, u30, u31, u32, u33, u34, u35, u36, u37, u38, u39, u40, u41, u42, u43, u44, u45, u46, u47, u48, u49, u50, u51, u52, u53, u54, u55, u56, u57, u58, u59, u60, u61, u62, u63, u64, u65, u66, u67, u68, u69, u70, u71, u72, u73, u74, u75, u76, u77, u78, u79, u80, u81, u82, u83, u84, u85, u86, u87, u88, u89, u90, u91, u92, u93, u94, u95, u96, u97, u98, u99, u100, u101, u102, u103, u104, u105, u106, u107, u108, u109, u110, u111, u112, u113, u114, u115, u116, u117, u118, u119, u120, u121, u122, u123, u124, u125, u126, u127, u128, u129, u130, u131, u132, u133, u134, u135, u136, u137, u138, u139, u140, u141, u142, u143, u144, u145, u146, u147, u148, u149, u150, u151, u152, u153, u154, u155, u156, u157, u158, u159, u160, u161, u162, u163, u164, u165, u166, u167, u168, u169, u170, u171, u172, u173, u174], defers := [] } w')
    (u0 u1 u8 u9 u10 u11 u12 u13 u14 u15 u16 u17 u18 u19 u20 u21 u22 u23 u24 u25 u26 u27 u28 u29 u30 u31 u32 u33 u34 u35 u36 u37 u38 u39 u40 u41 u42 u43 u44 u45 u46 u47 u48 u49 u50 u51 u52 u53 u54 u55 u56 u57 u58 u59 u60 u61 u62 u63 u64 u65 u66 u67 u68 u69 u70 u71 u72 u73 u74 u75 u76 u77 u78 u79 u80 u81 u82 u83 u84 u85 u86 u87 u88 u89 u90 u91 u92 u93 u94 u95 u96 u97 u98 u99 u100 u101 u102 u103 u104 u105 u106 u107 u108 u109 u110 u111 u112 u113 u114 u115 u116 u117 u118 u119 u120 u121 u122 u123 u124 u125 u126 u127 u128 u129 u130 u131 u132 u133 u134 u135 u136 u137 u138 u139 u140 u141 u142 u143 u144 u145 u146 u147 u148 u149 u150 u151 u152 u153 u154 u155 u156 u157 u158 u159 u160 u161 u162 u163 u164 u165 u166 u167 u168 u169 u170 u171 u172 u173 u174 : Value) : (firstSeq (rest 5)).wp Try.prog (Exit.then K (bodyPost Try.prog Try.f3 (Good w0))) { tmps := #[u0, u1, .bool false, .pointer (some ⟨g, 0, none⟩), .pointer (some ⟨B4, 0, none⟩), .int .i64 c, .pointer (some ⟨B6, 0, none⟩), .pointer (some ⟨B7, 0, none⟩), u8, u9, u10, u11, u12, u13, u14, u15, u16, u17, u18, u19, u20, u21, u22, u23, u24, u25, u26, u27, u28, u29, u30, u31, u32, u33, u34, u35, u36, u37, u38, u39, u40, u41, u42, u43, u44, u45, u46, u47, u48, u49, u50, u51, u52, u53, u54, u55, u56, u57, u58, u59, u60, u61, u62, u63, u64, u65, u66, u67, u68, u69, u70, u71, u72, u73, u74, u75, u76, u77, u78, u79, u80, u81, u82, u83, u84, u85, u86, u87, u88, u89, u90, u91, u92, u93, u94, u95, u96, u97, u98, u99, u100, u101, u102, u103, u104, u105, u106, u107, u108, u109, u110, u111, u112, u113, u114, u115, u116, u117, u118, u119, u120, u121, u122, u123, u124, u125, u126, u127, u128, u129, u130, u131, u132, u133, u134, u135, u136, u137, u138, u139, u140, u141, u142, u143, u144, u145, u146, u147, u148, u149, u150, u151, u152, u153, u154, u155, u156, u157, u158, u159, u160, u161, u162, u163, u164, u165, u166, u167, u168, u169, u170, u171, u172, u173, u174], defers := [] } w := by
  conv => arg 2; whnf
  have HK := Lib.hid hK
  have HB := Lib.hid (And.intro b4 (And.intro b7 (And.intro r4 ht)))
  have HT := Lib.hid (And.intro hcl hdp)
  clear hK b4 b7 r4 ht hcl hdp
  go_wp2_with fail
  refine (less_nat _ g 4 HB.out.2.2.2 (by omega)).mono ?_
  rintro e w5 ⟨j, rfl, hj, ht5, hg5⟩
  have hj3 : j ≤ 3 := by omega
  have p4 := (hg5.block B4 (Array.getElem?_eq_some_iff.1 HB.out.1).1 (by simp; omega)).trans HB.out.1
  have p7 := (hg5.block B7 (Array.getElem?_eq_some_iff.1 HB.out.2.1).1 (by simpa using h7g)).trans HB.out.2.1
  have r5 := HB.out.2.2.1.grown hg5 (fun z hz e => hz.1 (by simpa using e))
  have H5 := Lib.hid (And.intro hg5 (And.intro ht5 (And.intro p4 (And.intro p7 r5))))
  clear hj hg5 ht5 p4 p7 r5 HB
  go_wp2_with fail
  go_loopw [46] (fun v wr => ∃ (i : Nat) (q : Hd), v = .int .i64 i ∧ i ≤ j ∧ w5.grownBy wr (some B4) ∧ wr.heap[B4]? = some q.obj ∧ Rep wr (fun z => z ≠ g ∧ z ≠ B4) (L.wrap i t0) q) (fun v _ => j - (intOf v).toNat)
  case atStart => exact ⟨0, k4, rfl, by omega, gb_some ⟨rfl, rfl, rfl, Nat.le_refl _, fun _ _ _ => rfl⟩, H5.out.2.2.1, H5.out.2.2.2.2⟩
  case round =>
    obtain ⟨i, q, rfl, hi, hg, hb, hr⟩ := hrel
    have H := Lib.hid (And.intro hg (And.intro hb hr))
    by_cases hin : i < j
    · have p7 := (hg.block B7 (Array.getElem?_eq_some_iff.1 H5.out.2.2.2.1).1 (by simpa using h74)).trans H5.out.2.2.2.1
      have l4 := (Array.getElem?_eq_some_iff.1 hb).1
      have HL : Hid ((L.wrap i t0).most < 1000000 ∧ (L.wrap i t0).depth + 0 < 1000000) := Lib.hid (by
        have h1 := most_clo (L.clo_wrap HT.out.1 i)
        have h2 := L.depth_wrap t0 i
        have := HT.out.2
        exact ⟨by omega, by omega⟩)
      clear hg hb hr
      go_wp2_with fail
      have hS0 : wr.grownBy wr.drew none := gb_drew wr
      refine G_begin (fun w' => wr.grownBy w' none) (by kernel_rfl) ?_
      refine G_take 0 5 rfl (by kernel_rfl) (fun _ _ _ h => h) hS0 (v := ?_) (.inl ⟨by rfl, ?_⟩) ?_
      rotate_left
      · intro w' hw'; obtain ⟨e0, e1, e2, e3, e4, e5, e6, e7, e8⟩ := cells_of_block ((hw'.block B4 (Array.getElem?_eq_some_iff.1 H.out.2.1).1 (by simp)).trans H.out.2.1); go_simp; try with_reducible rfl
      refine G_take 2 5 rfl (by kernel_rfl) (fun _ _ _ h => h) hS0 (v := ?_) (.inl ⟨by rfl, ?_⟩) ?_
      rotate_left
      · intro w' hw'; obtain ⟨e0, e1, e2, e3, e4, e5, e6, e7, e8⟩ := cells_of_block ((hw'.block B7 (Array.getElem?_eq_some_iff.1 p7).1 (by simp)).trans p7); go_simp; try with_reducible rfl
      go_simp
      refine G_two 1 3 rfl rfl (by kernel_rfl) ?_ ?_
      · skip
        intro K1 hK1
        go_simp
        go_at_call 10
        refine (lift_calls (L.wrap i t0) 1 (by omega) 0 HL.out.1 HL.out.2 _ (fun z => z ≠ g ∧ z ≠ B4) q 0 rfl (H.out.2.2.grown hS0 (by simp))).mono ?_
        rintro e w1 ⟨k1, rfl, r1, hb1⟩
        have hS1 : wr.grownBy w1 none := gb_trans hS0 (gb_below hb1)
        refine hK1 _ _ ⟨hS1, ?_⟩
        clear hK1 K1
        refine G_only 3 rfl (by kernel_rfl) ?_
        intro K1 hK1
        go_simp
        have hS2 : wr.grownBy ((w1).alloc (Hd.obj (⟨3, zName, 3, none, 0, 0⟩ : Hd))) none := gb_trans hS1 (gb_alloc _ _)
        have nz := new_at (w1) (Hd.obj (⟨3, zName, 3, none, 0, 0⟩ : Hd)) ((w1).heap.size) rfl
        refine hK1 _ ((w1).alloc (Hd.obj (⟨3, zName, 3, none, 0, 0⟩ : Hd))) ⟨hS2, ?_⟩
        clear hK1 K1
        have r2 := (r1.below (alloc_below w1 (Hd.obj (⟨3, zName, 3, none, 0, 0⟩ : Hd)))).imp (ok' := (fun z => z ≠ g ∧ z ≠ B4)) (fun z hz _ => hz.elim id (fun hz => by simp at hz; exact ⟨by omega, by omega⟩))
        refine G_only 4 rfl (by kernel_rfl) ?_
        intro K1 hK1
        go_simp
        go_at_call 9
        refine (fun1 ((L.wrap i t0).lift 1 0) 1 (by omega) _ (fun z => z ≠ g ∧ z ≠ B4) k1 (r2) .var (⟨3, zName, 3, none, 0, 0⟩ : Hd) (w1.heap.size) 1 rfl (at0_of_block nz)).mono ?_
        rintro e w9 ⟨k9, rfl, r9, hb9⟩
        have hS9 : wr.grownBy w9 none := gb_trans hS2 (gb_below hb9)
        have hsz9 : wr.heap.size ≤ (w1.alloc (Hd.obj (⟨3, zName, 3, none, 0, 0⟩ : Hd))).heap.size := hS2.size
        refine hK1 _ _ ⟨hS9, ?_⟩
        clear hK1 K1
        have q4 := (hS9.block B4 l4 (by simp)).trans H.out.2.1
        have l4' : B4 < w9.heap.size := Nat.lt_of_lt_of_le l4 hS9.size
        refine G_last 5 rfl (by kernel_rfl) (by kernel_rfl) ?_
        intro K1 hK1
        obtain ⟨f0, f1, f2, f3, f4, f5, f6, f7, f8⟩ := cells_of_block q4
        have fz := free_of_block q4
        go_simp
        obtain ⟨V, hV, n1, n2, n3⟩ := nineE (.int .i64 k9.op) (.string k9.name) (.int .i64 k9.num) (.int .i64 0) (.string ⟨#[]⟩) (.int .i64 0) (.slice none 0 0) (.slice none 0 0) (.slice k9.A k9.n k9.c) q4
        rw [hV]
        clear hV f0 f1 f2 f3 f4 f5 f6 f7 f8 fz
        refine hK1 _ _ ?_
        clear hK1 K1
        have r10 : Rep w9 (fun z => z ≠ g ∧ z ≠ B4) (L.wrap (i + 1) t0) k9 := r9.imp (fun z hz _ => hz.elim id (fun hz => by (try simp at hz); (try simp at hsz9); exact ⟨by omega, by omega⟩))
        have HR := Lib.hid (And.intro n1 (And.intro (tr_row (gb_some hS9) n2) (r10.grown n2 (fun z hz e => hz.2 (by simpa using e)))))
        clear n1 n2 r10 r9 q4 hb9
        go_wp2_with fail
        go_roundw
        case rel => exact ⟨i + 1, k9, by go_num, by omega, tr_row H.out.1 HR.out.2.1, HR.out.1, HR.out.2.2⟩
        case measure => simp [intOf]; omega
      · skip
        intro K1 hK1
        go_simp
        have hS1 : wr.grownBy ((wr.drew).alloc (Hd.obj (⟨3, zName, 3, none, 0, 0⟩ : Hd))) none := gb_trans hS0 (gb_alloc _ _)
        have nz := new_at (wr.drew) (Hd.obj (⟨3, zName, 3, none, 0, 0⟩ : Hd)) ((wr.drew).heap.size) rfl
        refine hK1 _ ((wr.drew).alloc (Hd.obj (⟨3, zName, 3, none, 0, 0⟩ : Hd))) ⟨hS1, ?_⟩
        clear hK1 K1
        refine G_only 1 rfl (by kernel_rfl) ?_
        intro K1 hK1
        go_simp
        go_at_call 10
        refine (lift_calls (L.wrap i t0) 1 (by omega) 0 HL.out.1 HL.out.2 _ (fun z => z ≠ g ∧ z ≠ B4) q 0 rfl (H.out.2.2.grown hS1 (by simp))).mono ?_
        rintro e w2 ⟨k1, rfl, r1, hb1⟩
        have hS2 : wr.grownBy w2 none := gb_trans hS1 (gb_below hb1)
        refine hK1 _ _ ⟨hS2, ?_⟩
        clear hK1 K1
        have r2 := r1.imp (ok' := (fun z => z ≠ g ∧ z ≠ B4)) (fun z hz _ => hz.elim id (fun hz => by try simp at hz; exact ⟨by omega, by omega⟩))
        have nz2 := (hb1.block wr.heap.size (by simp)).trans nz
        refine G_only 4 rfl (by kernel_rfl) ?_
        intro K1 hK1
        go_simp
        go_at_call 9
        refine (fun1 ((L.wrap i t0).lift 1 0) 1 (by omega) _ (fun z => z ≠ g ∧ z ≠ B4) k1 (r2) .var (⟨3, zName, 3, none, 0, 0⟩ : Hd) (wr.heap.size) 1 rfl (at0_of_block nz2)).mono ?_
        rintro e w9 ⟨k9, rfl, r9, hb9⟩
        have hS9 : wr.grownBy w9 none := gb_trans hS2 (gb_below hb9)
        have hsz9 : wr.heap.size ≤ (w2).heap.size := hS2.size
        refine hK1 _ _ ⟨hS9, ?_⟩
        clear hK1 K1
        have q4 := (hS9.block B4 l4 (by simp)).trans H.out.2.1
        have l4' : B4 < w9.heap.size := Nat.lt_of_lt_of_le l4 hS9.size
        refine G_last 5 rfl (by kernel_rfl) (by kernel_rfl) ?_
        intro K1 hK1
        obtain ⟨f0, f1, f2, f3, f4, f5, f6, f7, f8⟩ := cells_of_block q4
        have fz := free_of_block q4
        go_simp
        obtain ⟨V, hV, n1, n2, n3⟩ := nineE (.int .i64 k9.op) (.string k9.name) (.int .i64 k9.num) (.int .i64 0) (.string ⟨#[]⟩) (.int .i64 0) (.slice none 0 0) (.slice none 0 0) (.slice k9.A k9.n k9.c) q4
        rw [hV]
        clear hV f0 f1 f2 f3 f4 f5 f6 f7 f8 fz
        refine hK1 _ _ ?_
        clear hK1 K1
        have r10 : Rep w9 (fun z => z ≠ g ∧ z ≠ B4) (L.wrap (i + 1) t0) k9 := r9.imp (fun z hz _ => hz.elim id (fun hz => by (try simp at hz); (try simp at hsz9); exact ⟨by omega, by omega⟩))
        have HR := Lib.hid (And.intro n1 (And.intro (tr_row (gb_some hS9) n2) (r10.grown n2 (fun z hz e => hz.2 (by simpa using e)))))
        clear n1 n2 r10 r9 q4 hb9
        go_wp2_with fail
        go_roundw
        case rel => exact ⟨i + 1, k9, by go_num, by omega, tr_row H.out.1 HR.out.2.1, HR.out.1, HR.out.2.2⟩
        case measure => simp [intOf]; omega
    · obtain rfl : i = j := by omega
      clear hg hb hr
      go_wp2_with fail
      exact HK.out i q _ _ _ _ _ _ _ _ _ _ _ _ _ _ _ _ _ _ _ _ _ _ _ _ _ _ _ _ _ _ _ _ _ _ _ _ _ _ _ _ _ _ _ _ _ _ _ _ _ _ _ _ _ _ _ _ _ _ _ _ _ _ _ _ _ _ _ _ _ _ _ _ _ _ _ _ _ _ _ _ _ _ _ _ _ _ _ _ _ _ _ _ _ _ _ _ _ _ _ _ _ _ _ _ _ _ _ _ _ _ _ _ _ _ _ _ _ _ _ _ _ _ _ _ _ _ _ _ _ _ _ _ _ _ _ _ _ _ _ _ _ _ _ _ _ _ _ _ _ _ _ _ _ _ _ _ _ _ _ _ _ _ _ _ _ _ _ _ _ w5 _ hj3 H5.out.1 H.out.1 (H5.out.2.1.grown H.out.1 (by simpa using hgB)) H.out.2.1 H.out.2.2
end Go.Proofs.Ytogdjjleclbgcaa
