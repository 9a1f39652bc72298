/- The steps that are made by hand. -/
import Derived.Test.YtogdjjleclbgcaaTail
import Derived.Test.YtogdjjleclbgcaaSame
import Derived.Test.YtogdjjleclbgcaaSize
namespace Go.Proofs.Ytogdjjleclbgcaa
open Go.RowKit

set_option maxRecDepth 100000 in
set_option maxHeartbeats 1600000 in
theorem part9 (w0 w : World) (g B4 B8 B9 : Nat) (st due : L) (k4 k8 k9 : Hd) (h : Stand w0 w g B4 B8 st due k4 k8) (hf : Facts st due st 0)
    (r4 : Rep w (fun z => z ≠ g ∧ z ≠ B9) st k4) (r8 : Rep w (fun z => z ≠ g ∧ z ≠ B9) due k8) (b9 : w.heap[B9]? = some k9.obj) (r9 : Rep w (fun z => z ≠ g ∧ z ≠ B9) st k9) (hgB : g < B9) (n94 : B9 ≠ B4) (n98 : B9 ≠ B8)
    (K : Act → World → Prop)
    (hK : ∀ (n : Nat) (u : L) (k9 : Hd), ∀ u0 u1 u5 u6 u7 u11 u12 u13 u14 u15 u16 u17 u18 u19 u20 u21 u22 u23 u24 u25 u26 u27 u28 u29 u30 u31 u32 u33 u34 u35 u36 u37 u38 u39 u40 u41 u42 u43 u44 u45 u46 u47 u48 u49 u50 u51 u52 u53 u54 u55 u56 u57 u58 u59 u60 u61 u62 u63 u64 u65 u66 u67 u68 u69 u70 u71 u72 u73 u74 u75 u76 u77 u78 u79 u80 u81 u82 u83 u84 u85 u86 u87 u88 u89 u90 u91 u92 u93 u94 u95 u96 u97 u98 u99 u100 u101 u102 u103 u104 u105 u106 u107 u108 u109 u110 u111 u112 u113 u114 u115 u116 u117 u118 u119 u120 u121 u122 u123 u124 u125 u126 u127 u128 u129 u130 u131 u132 u133 u134 u135 u136 u137 u138 u139 u140 u141 u142 u143 u144 u145 u146 u147 u148 u149 u150 u151 u152 u153 u154 u155 u156 u157 u158 u159 u160 u161 u162 u163 u164 u165 u166 u167 u168 u169 u170 u171 u172 u173 u174 : Value, ∀ w', n ≤ 400 → Stand w0 w' g B4 B8 st due k4 k8 → Facts st due u n → w'.heap[B9]? = some k9.obj → Rep w' (fun z => z ≠ g) u k9 → K { tmps := #[u0, u1, .bool false, .pointer (some ⟨g, 0, none⟩), .pointer (some ⟨B4, 0, none⟩), u5, u6, u7, .pointer (some ⟨B8, 0, none⟩), .pointer (some ⟨B9, 0, none⟩), .int .i64 n, u11, u12, u13, u14, u15, u16, u17, u18, u19, u20, u21, u22, u23, u24, u25, u26, u27, u28, u29, u30, u31, u32, u33, u34, u35, u36, u37, u38, u39, u40, u41, u42, u43, u44, u45, u46, u47, u48, u49, u50, u51, u52, u53, u54, u55, u56, u57, u58, u59, u60, u61, u62, u63, u64, u65, u66, u67, u68, u69, u70, u71, u72, u73, u74, u75, u76, u77, u78, u79, u80, u81, u82, u83, u84, u85, u86, u87, u88, u89, u90, u91, u92, u93, u94, u95, u96, u97, u98, u99, u100, u101, u102, u103, u104, u105, u106, u107, u108, u109, u110, u111, u112, u113, u114, u115, u116, u117, u118, u119, u120, u121, u122, u123, u124, u125, u126, u127, u128, u129, u130, u131, u132, u133, u134, u135, u136, u137, u138, u139, u140, u141, u142, u143, u144, u145, u146, u147, u148, u149, u150, u151, u152, u153, u154, u155, u156, u157, u158, u159, u160, u161, u162, u163, u164, u165, u166, u167, u168, u169, u170, u171, u172, u173, u174], defers := [] } w')
    (u0 u1 u5 u6 u7 u11 u12 u13 u14 u15 u16 u17 u18 u19 u20 u21 u22 u23 u24 u25 u26 u27 u28 u29 u30 u31 u32 u33 u34 u35 u36 u37 u38 u39 u40 u41 u42 u43 u44 u45 u46 u47 u48 u49 u50 u51 u52 u53 u54 u55 u56 u57 u58 u59 u60 u61 u62 u63 u64 u65 u66 u67 u68 u69 u70 u71 u72 u73 u74 u75 u76 u77 u78 u79 u80 u81 u82 u83 u84 u85 u86 u87 u88 u89 u90 u91 u92 u93 u94 u95 u96 u97 u98 u99 u100 u101 u102 u103 u104 u105 u106 u107 u108 u109 u110 u111 u112 u113 u114 u115 u116 u117 u118 u119 u120 u121 u122 u123 u124 u125 u126 u127 u128 u129 u130 u131 u132 u133 u134 u135 u136 u137 u138 u139 u140 u141 u142 u143 u144 u145 u146 u147 u148 u149 u150 u151 u152 u153 u154 u155 u156 u157 u158 u159 u160 u161 u162 u163 u164 u165 u166 u167 u168 u169 u170 u171 u172 u173 u174 : Value) : (firstSeq (rest 9)).wp Try.prog (Exit.then K (bodyPost Try.prog Try.f3 (Good w0))) { tmps := #[u0, u1, .bool false, .pointer (some ⟨g, 0, none⟩), .pointer (some ⟨B4, 0, none⟩), u5, u6, u7, .pointer (some ⟨B8, 0, none⟩), .pointer (some ⟨B9, 0, none⟩), .int .i64 0, u11, u12, u13, u14, u15, u16, u17, u18, u19, u20, u21, u22, u23, u24, u25, u26, u27, u28, u29, u30, u31, u32, u33, u34, u35, u36, u37, u38, u39, u40, u41, u42, u43, u44, u45, u46, u47, u48, u49, u50, u51, u52, u53, u54, u55, u56, u57, u58, u59, u60, u61, u62, u63, u64, u65, u66, u67, u68, u69, u70, u71, u72, u73, u74, u75, u76, u77, u78, u79, u80, u81, u82, u83, u84, u85, u86, u87, u88, u89, u90, u91, u92, u93, u94, u95, u96, u97, u98, u99, u100, u101, u102, u103, u104, u105, u106, u107, u108, u109, u110, u111, u112, u113, u114, u115, u116, u117, u118, u119, u120, u121, u122, u123, u124, u125, u126, u127, u128, u129, u130, u131, u132, u133, u134, u135, u136, u137, u138, u139, u140, u141, u142, u143, u144, u145, u146, u147, u148, u149, u150, u151, u152, u153, u154, u155, u156, u157, u158, u159, u160, u161, u162, u163, u164, u165, u166, u167, u168, u169, u170, u171, u172, u173, u174], defers := [] } w := by
  conv => arg 2; whnf
  have HK : Hid (∀ (n : Nat) (u : L) (q : Hd) (wr wz : World), ∀ u0 u1 u5 u6 u7 u11 u12 u13 u14 u15 u16 u17 u18 u19 u20 u21 u22 u23 u24 u25 u26 u27 u28 u29 u30 u31 u32 u33 u34 u35 u36 u37 u38 u39 u40 u41 u42 u43 u44 u45 u46 u47 u48 u49 u50 u51 u52 u53 u54 u55 u56 u57 u58 u59 u60 u61 u62 u63 u64 u65 u66 u67 u68 u69 u70 u71 u72 u73 u74 u75 u76 u77 u78 u79 u80 u81 u82 u83 u84 u85 u86 u87 u88 u89 u90 u91 u92 u93 u94 u95 u96 u97 u98 u99 u100 u101 u102 u103 u104 u105 u106 u107 u108 u109 u110 u111 u112 u113 u114 u115 u116 u117 u118 u119 u120 u121 u122 u123 u124 u125 u126 u127 u128 u129 u130 u131 u132 u133 u134 u135 u136 u137 u138 u139 u140 u141 u142 u143 u144 u145 u146 u147 u148 u149 u150 u151 u152 u153 u154 u155 u156 u157 u158 u159 u160 u161 u162 u163 u164 u165 u166 u167 u168 u169 u170 u171 u172 u173 u174 : Value, n ≤ 400 → Facts st due u n → w.grownBy wr (some B9) → wr.heap[B9]? = some q.obj → Rep wr (fun z => z ≠ g ∧ z ≠ B9) u q → Below wr.heap.size wr wz → K { tmps := #[u0, u1, .bool false, .pointer (some ⟨g, 0, none⟩), .pointer (some ⟨B4, 0, none⟩), u5, u6, u7, .pointer (some ⟨B8, 0, none⟩), .pointer (some ⟨B9, 0, none⟩), .int .i64 n, u11, u12, u13, u14, u15, u16, u17, u18, u19, u20, u21, u22, u23, u24, u25, u26, u27, u28, u29, u30, u31, u32, u33, u34, u35, u36, u37, u38, u39, u40, u41, u42, u43, u44, u45, u46, u47, u48, u49, u50, u51, u52, u53, u54, u55, u56, u57, u58, u59, u60, u61, u62, u63, u64, u65, u66, u67, u68, u69, u70, u71, u72, u73, u74, u75, u76, u77, u78, u79, u80, u81, u82, u83, u84, u85, u86, u87, u88, u89, u90, u91, u92, u93, u94, u95, u96, u97, u98, u99, u100, u101, u102, u103, u104, u105, u106, u107, u108, u109, u110, u111, u112, u113, u114, u115, u116, u117, u118, u119, u120, u121, u122, u123, u124, u125, u126, u127, u128, u129, u130, u131, u132, u133, u134, u135, u136, u137, u138, u139, u140, u141, u142, u143, u144, u145, u146, u147, u148, u149, u150, u151, u152, u153, u154, u155, u156, u157, u158, u159, u160, u161, u162, u163, u164, u165, u166, u167, u168, u169, u170, u171, u172, u173, u174], defers := [] } wz) := Lib.hid (by
    intro n u q wr wz u0 u1 u5 u6 u7 u11 u12 u13 u14 u15 u16 u17 u18 u19 u20 u21 u22 u23 u24 u25 u26 u27 u28 u29 u30 u31 u32 u33 u34 u35 u36 u37 u38 u39 u40 u41 u42 u43 u44 u45 u46 u47 u48 u49 u50 u51 u52 u53 u54 u55 u56 u57 u58 u59 u60 u61 u62 u63 u64 u65 u66 u67 u68 u69 u70 u71 u72 u73 u74 u75 u76 u77 u78 u79 u80 u81 u82 u83 u84 u85 u86 u87 u88 u89 u90 u91 u92 u93 u94 u95 u96 u97 u98 u99 u100 u101 u102 u103 u104 u105 u106 u107 u108 u109 u110 u111 u112 u113 u114 u115 u116 u117 u118 u119 u120 u121 u122 u123 u124 u125 u126 u127 u128 u129 u130 u131 u132 u133 u134 u135 u136 u137 u138 u139 u140 u141 u142 u143 u144 u145 u146 u147 u148 u149 u150 u151 u152 u153 u154 u155 u156 u157 u158 u159 u160 u161 u162 u163 u164 u165 u166 u167 u168 u169 u170 u171 u172 u173 u174 hn hfa hg hb hr hz
    have n4 : some B4 ≠ some B9 := by simpa using n94.symm
    have n8 : some B8 ≠ some B9 := by simpa using n98.symm
    have hS : Stand w0 wr g B4 B8 st due k4 k8 :=
      ⟨below_gb h.hb hg h.hb.size (by have := h.hg; simp; omega), h.hg, Nat.lt_of_lt_of_le h.gl hg.size, h.tile.grown hg (by simpa using hgB), h.n4, h.n8,
        (hg.block B4 (Array.getElem?_eq_some_iff.1 h.b4).1 n4).trans h.b4, (hg.block B8 (Array.getElem?_eq_some_iff.1 h.b8).1 n8).trans h.b8,
        (r4.grown hg (fun z hz e => hz.2 (by simpa using e))).imp (fun z hz _ => hz.1), (r8.grown hg (fun z hz e => hz.2 (by simpa using e))).imp (fun z hz _ => hz.1)⟩
    exact hK n u q u0 u1 u5 u6 u7 u11 u12 u13 u14 u15 u16 u17 u18 u19 u20 u21 u22 u23 u24 u25 u26 u27 u28 u29 u30 u31 u32 u33 u34 u35 u36 u37 u38 u39 u40 u41 u42 u43 u44 u45 u46 u47 u48 u49 u50 u51 u52 u53 u54 u55 u56 u57 u58 u59 u60 u61 u62 u63 u64 u65 u66 u67 u68 u69 u70 u71 u72 u73 u74 u75 u76 u77 u78 u79 u80 u81 u82 u83 u84 u85 u86 u87 u88 u89 u90 u91 u92 u93 u94 u95 u96 u97 u98 u99 u100 u101 u102 u103 u104 u105 u106 u107 u108 u109 u110 u111 u112 u113 u114 u115 u116 u117 u118 u119 u120 u121 u122 u123 u124 u125 u126 u127 u128 u129 u130 u131 u132 u133 u134 u135 u136 u137 u138 u139 u140 u141 u142 u143 u144 u145 u146 u147 u148 u149 u150 u151 u152 u153 u154 u155 u156 u157 u158 u159 u160 u161 u162 u163 u164 u165 u166 u167 u168 u169 u170 u171 u172 u173 u174 wz hn (hS.below hz) hfa ((hz.block B9 (Array.getElem?_eq_some_iff.1 hb).1).trans hb) ((hr.imp (fun z hz _ => hz.1)).below hz))
  have HS := Lib.hid (And.intro hf (And.intro b9 r9))
  clear hK h hf r4 r8 b9 r9
  go_wp2_with fail
  go_loopw [10, 64] (fun v10 v64 wr => ∃ (n i : Nat) (u : L) (q : Hd), v10 = .int .i64 n ∧ v64 = .int .i64 i ∧ n ≤ i ∧ i ≤ 400 ∧ Facts st due u n ∧ w.grownBy wr (some B9) ∧ wr.heap[B9]? = some q.obj ∧ Rep wr (fun z => z ≠ g ∧ z ≠ B9) u q) (fun _ v64 _ => 400 - (intOf v64).toNat)
  case atStart =>
    exact ⟨0, 0, st, k9, rfl, rfl, Nat.le_refl _, by omega, HS.out.1, gb_some ⟨rfl, rfl, rfl, Nat.le_refl _, fun _ _ _ => rfl⟩, HS.out.2.1, HS.out.2.2⟩
  case round =>
    clear HS
    obtain ⟨n, i, u, q, rfl, rfl, hni, hi, hfa, hg, hb, hr⟩ := hrel
    have H := Lib.hid (And.intro hfa (And.intro hg (And.intro hb hr)))
    by_cases hlt : i < 400
    · obtain ⟨e0, e1, e2, e3, e4, e5, e6, e7, e8⟩ := cells_of_block hb
      have hms : u.most < 1000000 := by have := most_clo hfa.one.1; have := hfa.one.2.1; omega
      have hdp : u.depth < 1000000 := by have := hfa.one.2.1; omega
      have hsz : u.size < 100000000 := by have := hfa.one.2.2; omega
      have l9 := (Array.getElem?_eq_some_iff.1 hb).1
      clear hfa hg hb hr
      cases hu : u.step with
      | none =>
        have HT := Lib.hid (step_same u hms hdp hu wr _ q H.out.2.2.2)
        have HU := Lib.hid (And.intro hdp hsz)
        clear hu hms hdp hsz
        go_wp2_with fail
        refine HT.out.mono ?_
        rintro e w1 ⟨rfl, hb1⟩
        have ha := alloc_below w1 q.obj
        have h2 := hb1.trans (ha.mono hb1.size)
        have HB := Lib.hid (And.intro h2 (H.out.2.2.2.below h2))
        clear hb1 ha h2 e0 e1 e2 e3 e4 e5 e6 e7 e8
        go_wp2_with fail
        refine (size_calls u HU.out.2 (by have := HU.out.1; omega) _ _ q HB.out.2).mono ?_
        rintro e w2 ⟨rfl, hb2⟩
        have HB2 := Lib.hid (HB.out.1.trans (hb2.mono HB.out.1.size))
        clear hb2
        go_wp2_with fail
        exact HK.out n u q wr _ _ _ _ _ _ _ _ _ _ _ _ _ _ _ _ _ _ _ _ _ _ _ _ _ _ _ _ _ _ _ _ _ _ _ _ _ _ _ _ _ _ _ _ _ _ _ _ _ _ _ _ _ _ _ _ _ _ _ _ _ _ _ _ _ _ _ _ _ _ _ _ _ _ _ _ _ _ _ _ _ _ _ _ _ _ _ _ _ _ _ _ _ _ _ _ _ _ _ _ _ _ _ _ _ _ _ _ _ _ _ _ _ _ _ _ _ _ _ _ _ _ _ _ _ _ _ _ _ _ _ _ _ _ _ _ _ _ _ _ _ _ _ _ _ _ _ _ _ _ _ _ _ _ _ _ _ _ _ _ _ _ _ _ _ _ _ _ _ _ (by omega) H.out.1 H.out.2.1 H.out.2.2.1 H.out.2.2.2 HB2.out
      | some v =>
        have HT : Hid (Calls Try.prog 11 #[q.val] wr (Yes wr (fun z => z ≠ g ∧ z ≠ B9) v)) := Lib.hid ((step_calls u hms hdp wr _ q H.out.2.2.2).mono fun e w' h => by simpa [Steps, hu] using h)
        have hv := H.out.1.next_small hu
        have HU := Lib.hid (And.intro hv hu)
        clear hu hms hdp hsz hv
        by_cases hbig : (3000 : Int) < v.size
        · go_wp2_with fail
          refine HT.out.mono ?_
          rintro e w1 ⟨k1, rfl, hr1, hb1⟩
          have ha := alloc_below w1 k1.obj
          have h2 := hb1.trans (ha.mono hb1.size)
          have HB := Lib.hid (And.intro h2 (hr1.below ha))
          clear hb1 ha h2 hr1 e0 e1 e2 e3 e4 e5 e6 e7 e8
          go_wp2_with fail
          refine (size_calls v HU.out.1.2.2 (by have := HU.out.1.1; omega) _ _ k1 HB.out.2).mono ?_
          rintro e w2 ⟨rfl, hb2⟩
          have HB2 := Lib.hid (HB.out.1.trans (hb2.mono HB.out.1.size))
          clear hb2
          go_wp2_with fail
          exact HK.out n u q wr _ _ _ _ _ _ _ _ _ _ _ _ _ _ _ _ _ _ _ _ _ _ _ _ _ _ _ _ _ _ _ _ _ _ _ _ _ _ _ _ _ _ _ _ _ _ _ _ _ _ _ _ _ _ _ _ _ _ _ _ _ _ _ _ _ _ _ _ _ _ _ _ _ _ _ _ _ _ _ _ _ _ _ _ _ _ _ _ _ _ _ _ _ _ _ _ _ _ _ _ _ _ _ _ _ _ _ _ _ _ _ _ _ _ _ _ _ _ _ _ _ _ _ _ _ _ _ _ _ _ _ _ _ _ _ _ _ _ _ _ _ _ _ _ _ _ _ _ _ _ _ _ _ _ _ _ _ _ _ _ _ _ _ _ _ _ _ _ _ _ (by omega) H.out.1 H.out.2.1 H.out.2.2.1 H.out.2.2.2 HB2.out
        · have hle : (v.size : Int) ≤ 3000 := by omega
          go_wp2_with fail
          refine HT.out.mono ?_
          rintro e w1 ⟨k1, rfl, hr1, hb1⟩
          have ha := alloc_below w1 k1.obj
          have h2 := hb1.trans (ha.mono hb1.size)
          have HB := Lib.hid (And.intro h2 (And.intro (hr1.below ha) (Go.heap_alloc_new w1 k1.obj)))
          clear hb1 ha h2 hr1 e0 e1 e2 e3 e4 e5 e6 e7 e8
          go_wp2_with fail
          refine (size_calls v HU.out.1.2.2 (by have := HU.out.1.1; omega) _ _ k1 HB.out.2.1).mono ?_
          rintro e w2 ⟨rfl, hb2⟩
          have q1 := (hb2.block w1.heap.size (by simp)).trans HB.out.2.2
          have h2 := HB.out.1.trans (hb2.mono HB.out.1.size)
          have q9 := (h2.block B9 l9).trans H.out.2.2.1
          have l9' := (Array.getElem?_eq_some_iff.1 q9).1
          have l1' := (Array.getElem?_eq_some_iff.1 q1).1
          have HB2 := Lib.hid (And.intro h2 (And.intro q9 (HB.out.2.1.below hb2)))
          clear hb2 h2
          obtain ⟨e0, e1, e2, e3, e4, e5, e6, e7, e8⟩ := cells_of_block q1
          obtain ⟨f0, f1, f2, f3, f4, f5, f6, f7, f8⟩ := cells_of_block q9
          have fz := free_of_block q9
          clear q1 q9
          go_wp2_with fail
          go_roundw
          case rel =>
            obtain ⟨h2, q9, r2⟩ := HB2.out
            obtain ⟨V, hV, n1, n2, n3⟩ := nineE (.int .i64 k1.op) (.string k1.name) (.int .i64 k1.num) (.int .i64 0) (.string ⟨#[]⟩) (.int .i64 0) (.slice none 0 0) (.slice none 0 0) (.slice k1.A k1.n k1.c) q9
            rw [hV]
            have r3 : Rep w2 (fun z => z ≠ g ∧ z ≠ B9) v k1 := r2.imp (fun z hz _ => hz.elim id (fun hz => by have : B9 < wr.heap.size := l9; exact ⟨by omega, by omega⟩))
            refine ⟨n + 1, i + 1, v, k1, by go_num, by go_num, by omega, by omega, H.out.1.next HU.out.2 (by omega), tr_row (tr_row H.out.2.1 (gb_some (gb_below h2))) n2, n1, r3.grown n2 (fun z hz e => hz.2 (by simpa using e))⟩
          case measure => simp [intOf]; omega
    · obtain rfl : i = 400 := by omega
      clear hfa hg hb hr
      go_wp2_with fail
      exact HK.out n u q wr _ _ _ _ _ _ _ _ _ _ _ _ _ _ _ _ _ _ _ _ _ _ _ _ _ _ _ _ _ _ _ _ _ _ _ _ _ _ _ _ _ _ _ _ _ _ _ _ _ _ _ _ _ _ _ _ _ _ _ _ _ _ _ _ _ _ _ _ _ _ _ _ _ _ _ _ _ _ _ _ _ _ _ _ _ _ _ _ _ _ _ _ _ _ _ _ _ _ _ _ _ _ _ _ _ _ _ _ _ _ _ _ _ _ _ _ _ _ _ _ _ _ _ _ _ _ _ _ _ _ _ _ _ _ _ _ _ _ _ _ _ _ _ _ _ _ _ _ _ _ _ _ _ _ _ _ _ _ _ _ _ _ _ _ _ _ _ _ _ _ (by omega) H.out.1 H.out.2.1 H.out.2.2.1 H.out.2.2.2 (Below.refl _ _)
set_option maxRecDepth 100000 in
set_option maxHeartbeats 1600000 in

theorem rest9 (w0 w : World) (g B4 B8 B9 : Nat) (st due : L) (k4 k8 k9 : Hd) (h : Stand w0 w g B4 B8 st due k4 k8) (hf : Facts st due st 0) (f x : L) (hst : st = .app f x)
    (r4 : Rep w (fun z => z ≠ g ∧ z ≠ B9) st k4) (r8 : Rep w (fun z => z ≠ g ∧ z ≠ B9) due k8) (b9 : w.heap[B9]? = some k9.obj) (r9 : Rep w (fun z => z ≠ g ∧ z ≠ B9) st k9) (hgB : g < B9) (n94 : B9 ≠ B4) (n98 : B9 ≠ B8)
    (u0 u1 u5 u6 u7 u11 u12 u13 u14 u15 u16 u17 u18 u19 u20 u21 u22 u23 u24 u25 u26 u27 u28 u29 u30 u31 u32 u33 u34 u35 u36 u37 u38 u39 u40 u41 u42 u43 u44 u45 u46 u47 u48 u49 u50 u51 u52 u53 u54 u55 u56 u57 u58 u59 u60 u61 u62 u63 u64 u65 u66 u67 u68 u69 u70 u71 u72 u73 u74 u75 u76 u77 u78 u79 u80 u81 u82 u83 u84 u85 u86 u87 u88 u89 u90 u91 u92 u93 u94 u95 u96 u97 u98 u99 u100 u101 u102 u103 u104 u105 u106 u107 u108 u109 u110 u111 u112 u113 u114 u115 u116 u117 u118 u119 u120 u121 u122 u123 u124 u125 u126 u127 u128 u129 u130 u131 u132 u133 u134 u135 u136 u137 u138 u139 u140 u141 u142 u143 u144 u145 u146 u147 u148 u149 u150 u151 u152 u153 u154 u155 u156 u157 u158 u159 u160 u161 u162 u163 u164 u165 u166 u167 u168 u169 u170 u171 u172 u173 u174 : Value) : (rest 9).wp Try.prog (bodyPost Try.prog Try.f3 (Good w0)) { tmps := #[u0, u1, .bool false, .pointer (some ⟨g, 0, none⟩), .pointer (some ⟨B4, 0, none⟩), u5, u6, u7, .pointer (some ⟨B8, 0, none⟩), .pointer (some ⟨B9, 0, none⟩), .int .i64 0, u11, u12, u13, u14, u15, u16, u17, u18, u19, u20, u21, u22, u23, u24, u25, u26, u27, u28, u29, u30, u31, u32, u33, u34, u35, u36, u37, u38, u39, u40, u41, u42, u43, u44, u45, u46, u47, u48, u49, u50, u51, u52, u53, u54, u55, u56, u57, u58, u59, u60, u61, u62, u63, u64, u65, u66, u67, u68, u69, u70, u71, u72, u73, u74, u75, u76, u77, u78, u79, u80, u81, u82, u83, u84, u85, u86, u87, u88, u89, u90, u91, u92, u93, u94, u95, u96, u97, u98, u99, u100, u101, u102, u103, u104, u105, u106, u107, u108, u109, u110, u111, u112, u113, u114, u115, u116, u117, u118, u119, u120, u121, u122, u123, u124, u125, u126, u127, u128, u129, u130, u131, u132, u133, u134, u135, u136, u137, u138, u139, u140, u141, u142, u143, u144, u145, u146, u147, u148, u149, u150, u151, u152, u153, u154, u155, u156, u157, u158, u159, u160, u161, u162, u163, u164, u165, u166, u167, u168, u169, u170, u171, u172, u173, u174], defers := [] } w := by
  have e : rest 9 = .seq (firstSeq (rest 9)) (rest 10) := rfl
  rw [e]
  refine wp_seq (part9 w0 w g B4 B8 B9 st due k4 k8 k9 h hf r4 r8 b9 r9 hgB n94 n98 _ ?_ _ _ _ _ _ _ _ _ _ _ _ _ _ _ _ _ _ _ _ _ _ _ _ _ _ _ _ _ _ _ _ _ _ _ _ _ _ _ _ _ _ _ _ _ _ _ _ _ _ _ _ _ _ _ _ _ _ _ _ _ _ _ _ _ _ _ _ _ _ _ _ _ _ _ _ _ _ _ _ _ _ _ _ _ _ _ _ _ _ _ _ _ _ _ _ _ _ _ _ _ _ _ _ _ _ _ _ _ _ _ _ _ _ _ _ _ _ _ _ _ _ _ _ _ _ _ _ _ _ _ _ _ _ _ _ _ _ _ _ _ _ _ _ _ _ _ _ _ _ _ _ _ _ _ _ _ _ _ _ _ _ _ _ _ _ _ _ _ _)
  intro n u k9' u0 u1 u5 u6 u7 u11 u12 u13 u14 u15 u16 u17 u18 u19 u20 u21 u22 u23 u24 u25 u26 u27 u28 u29 u30 u31 u32 u33 u34 u35 u36 u37 u38 u39 u40 u41 u42 u43 u44 u45 u46 u47 u48 u49 u50 u51 u52 u53 u54 u55 u56 u57 u58 u59 u60 u61 u62 u63 u64 u65 u66 u67 u68 u69 u70 u71 u72 u73 u74 u75 u76 u77 u78 u79 u80 u81 u82 u83 u84 u85 u86 u87 u88 u89 u90 u91 u92 u93 u94 u95 u96 u97 u98 u99 u100 u101 u102 u103 u104 u105 u106 u107 u108 u109 u110 u111 u112 u113 u114 u115 u116 u117 u118 u119 u120 u121 u122 u123 u124 u125 u126 u127 u128 u129 u130 u131 u132 u133 u134 u135 u136 u137 u138 u139 u140 u141 u142 u143 u144 u145 u146 u147 u148 u149 u150 u151 u152 u153 u154 u155 u156 u157 u158 u159 u160 u161 u162 u163 u164 u165 u166 u167 u168 u169 u170 u171 u172 u173 u174 w' hn h' hf' b9' r9'
  cases hu : u.step with
  | none => exact rest10 w0 w' g B4 B8 n (by omega) st due u k4 k8 h' hf' hu B9 k9' b9' r9' f x hst _ _ _ _ _ _ _ _ _ _ _ _ _ _ _ _ _ _ _ _ _ _ _ _ _ _ _ _ _ _ _ _ _ _ _ _ _ _ _ _ _ _ _ _ _ _ _ _ _ _ _ _ _ _ _ _ _ _ _ _ _ _ _ _ _ _ _ _ _ _ _ _ _ _ _ _ _ _ _ _ _ _ _ _ _ _ _ _ _ _ _ _ _ _ _ _ _ _ _ _ _ _ _ _ _ _ _ _ _ _ _ _ _ _ _ _ _ _ _ _ _ _ _ _ _ _ _ _ _ _ _ _ _ _ _ _ _ _ _ _ _ _ _ _ _ _ _ _ _ _ _ _ _ _ _ _ _ _ _ _ _ _ _ _ _ _ _ _ _
  | some v => exact rest10_more w0 w' g B4 B8 n (by omega) st due u k4 k8 h' hf' v hu B9 k9' b9' r9' _ _ _ _ _ _ _ _ _ _ _ _ _ _ _ _ _ _ _ _ _ _ _ _ _ _ _ _ _ _ _ _ _ _ _ _ _ _ _ _ _ _ _ _ _ _ _ _ _ _ _ _ _ _ _ _ _ _ _ _ _ _ _ _ _ _ _ _ _ _ _ _ _ _ _ _ _ _ _ _ _ _ _ _ _ _ _ _ _ _ _ _ _ _ _ _ _ _ _ _ _ _ _ _ _ _ _ _ _ _ _ _ _ _ _ _ _ _ _ _ _ _ _ _ _ _ _ _ _ _ _ _ _ _ _ _ _ _ _ _ _ _ _ _ _ _ _ _ _ _ _ _ _ _ _ _ _ _ _ _ _ _ _ _ _ _ _ _ _

end Go.Proofs.Ytogdjjleclbgcaa
