/- The region that draws a fuel that is not enough. -/
import Derived.Test.YtogdjjleclbgcaaLast
import Derived.Test.YtogdjjleclbgcaaRegs2
import Derived.Test.YtogdjjleclbgcaaCount
namespace Go.Proofs.Ytogdjjleclbgcaa
open Go.RowKit

def findRegion (n : Nat) : Code → Option Code
  | .region i ops d => if i = n then some (.region i ops d) else none
  | .seq a b => match findRegion n a with
    | some c => some c
    | none => findRegion n b
  | .block _ c => findRegion n c
  | .loop c => findRegion n c
  | .scope c => findRegion n c
  | .cond _ a b => match findRegion n a with
    | some c => some c
    | none => findRegion n b
  | _ => none
noncomputable def region (n : Nat) : Code := ((Try.f3.body.bind (findRegion n)).getD .skip)

set_option maxRecDepth 100000 in
set_option maxHeartbeats 3200000 in
theorem region39 (w0 w : World) (g B4 B8 B23 : Nat) (n : Nat) (hn : 0 < n) (hn' : n < 100000) (st due u : L) (k4 k8 : Hd) (h : Stand w0 w g B4 B8 st due k4 k8) (hf : Facts st due u n)
    (K : Act → World → Prop) (Q : Exit → Act → World → Prop) (hQ : ∀ c (a : Act) d v w, Q (.panic c) (a.put d v) w → Q (.panic c) a w)
    (hK : ∀ u0 u1 u5 u6 u7 u9 u11 u12 u13 u14 u15 u16 u17 u18 u19 u20 u21 u22 u25 u27 u28 u29 u30 u31 u32 u33 u34 u35 u36 u37 u38 u39 u40 u41 u42 u43 u44 u45 u46 u47 u48 u49 u50 u51 u52 u53 u54 u55 u56 u57 u58 u59 u60 u61 u62 u63 u64 u65 u66 u67 u68 u69 u70 u71 u72 u73 u74 u75 u76 u77 u78 u79 u80 u81 u82 u83 u84 u85 u86 u87 u88 u89 u90 u91 u92 u93 u94 u95 u96 u97 u98 u99 u100 u101 u102 u103 u104 u105 u106 u107 u108 u109 u110 u111 u112 u113 u114 u115 u116 u117 u118 u119 u120 u121 u122 u123 u124 u125 u126 u127 u128 u129 u130 u131 u132 u133 u134 u135 u136 u137 u138 u139 u140 u141 u142 u143 u144 u145 u146 u147 u148 u149 u150 u151 u152 u153 u154 u155 u156 u157 u158 u159 u160 u161 u162 u163 u164 u165 u166 u167 u168 u169 u170 u171 u172 u173 u174 : Value, ∀ w', Stand w0 w' g B4 B8 st due k4 k8 → w.grownBy w' (some g) → K { tmps := #[u0, u1, .bool false, .pointer (some ⟨g, 0, none⟩), .pointer (some ⟨B4, 0, none⟩), u5, u6, u7, .pointer (some ⟨B8, 0, none⟩), u9, .int .i64 n, u11, u12, u13, u14, u15, u16, u17, u18, u19, u20, u21, u22, .pointer (some ⟨B23, 0, none⟩), .int .i64 0, u25, .int .i64 8, u27, u28, u29, u30, u31, u32, u33, u34, u35, u36, u37, u38, u39, u40, u41, u42, u43, u44, u45, u46, u47, u48, u49, u50, u51, u52, u53, u54, u55, u56, u57, u58, u59, u60, u61, u62, u63, u64, u65, u66, u67, u68, u69, u70, u71, u72, u73, u74, u75, u76, u77, u78, u79, u80, u81, u82, u83, u84, u85, u86, u87, u88, u89, u90, u91, u92, u93, u94, u95, u96, u97, u98, u99, u100, u101, u102, u103, u104, u105, u106, u107, u108, u109, u110, u111, u112, u113, u114, u115, u116, u117, u118, u119, u120, u121, u122, u123, u124, u125, u126, u127, u128, u129, u130, u131, u132, u133, u134, u135, u136, u137, u138, u139, u140, u141, u142, u143, u144, u145, u146, u147, u148, u149, u150, u151, u152, u153, u154, u155, u156, u157, u158, u159, u160, u161, u162, u163, u164, u165, u166, u167, u168, u169, u170, u171, u172, u173, u174], defers := [] } w')
    (u0 u1 u5 u6 u7 u9 u11 u12 u13 u14 u15 u16 u17 u18 u19 u20 u21 u22 u25 u26 u27 u28 u29 u30 u31 u32 u33 u34 u35 u36 u37 u38 u39 u40 u41 u42 u43 u44 u45 u46 u47 u48 u49 u50 u51 u52 u53 u54 u55 u56 u57 u58 u59 u60 u61 u62 u63 u64 u65 u66 u67 u68 u69 u70 u71 u72 u73 u74 u75 u76 u77 u78 u79 u80 u81 u82 u83 u84 u85 u86 u87 u88 u89 u90 u91 u92 u93 u94 u95 u96 u97 u98 u99 u100 u101 u102 u103 u104 u105 u106 u107 u108 u109 u110 u111 u112 u113 u114 u115 u116 u117 u118 u119 u120 u121 u122 u123 u124 u125 u126 u127 u128 u129 u130 u131 u132 u133 u134 u135 u136 u137 u138 u139 u140 u141 u142 u143 u144 u145 u146 u147 u148 u149 u150 u151 u152 u153 u154 u155 u156 u157 u158 u159 u160 u161 u162 u163 u164 u165 u166 u167 u168 u169 u170 u171 u172 u173 u174 : Value) : (region 39).wp Try.prog (Exit.then K Q) { tmps := #[u0, u1, .bool false, .pointer (some ⟨g, 0, none⟩), .pointer (some ⟨B4, 0, none⟩), u5, u6, u7, .pointer (some ⟨B8, 0, none⟩), u9, .int .i64 n, u11, u12, u13, u14, u15, u16, u17, u18, u19, u20, u21, u22, .pointer (some ⟨B23, 0, none⟩), .int .i64 0, u25, u26, u27, u28, u29, u30, u31, u32, u33, u34, u35, u36, u37, u38, u39, u40, u41, u42, u43, u44, u45, u46, u47, u48, u49, u50, u51, u52, u53, u54, u55, u56, u57, u58, u59, u60, u61, u62, u63, u64, u65, u66, u67, u68, u69, u70, u71, u72, u73, u74, u75, u76, u77, u78, u79, u80, u81, u82, u83, u84, u85, u86, u87, u88, u89, u90, u91, u92, u93, u94, u95, u96, u97, u98, u99, u100, u101, u102, u103, u104, u105, u106, u107, u108, u109, u110, u111, u112, u113, u114, u115, u116, u117, u118, u119, u120, u121, u122, u123, u124, u125, u126, u127, u128, u129, u130, u131, u132, u133, u134, u135, u136, u137, u138, u139, u140, u141, u142, u143, u144, u145, u146, u147, u148, u149, u150, u151, u152, u153, u154, u155, u156, u157, u158, u159, u160, u161, u162, u163, u164, u165, u166, u167, u168, u169, u170, u171, u172, u173, u174], defers := [] } w := by
  conv => arg 2; whnf
  have HK := Lib.hid hK
  clear hK
  have HS := Lib.hid h
  have HF := Lib.hid hf
  have hT0 : Tile w.drew g := h.tile.grown (gb_drew w) (by simp)
  have hG0 : w.grownBy w.drew (some g) := gb_some (gb_drew w)
  have hgl := h.gl
  clear h hf
  have hw1 : IntKind.i64.wrap ((n : Int) - 1) = (n : Int) - 1 := wrap_small _ (by omega) (by omega)
  refine G_begin (fun w' => w.grownBy w' (some g)) (by kernel_rfl) ?_
  refine G_take 0 13 rfl (by kernel_rfl) (fun c a w h => hQ c a _ _ w h) hG0 (v := ?_) (.inl ⟨by rfl, ?_⟩) ?_
  rotate_left
  · intro w' hw'; obtain ⟨e0, e1, e2, e3, e4, e5, e6, e7, e8⟩ := cells_of_block ((hw'.block B4 (Array.getElem?_eq_some_iff.1 HS.out.b4).1 (by simpa using HS.out.n4)).trans HS.out.b4); go_simp; try with_reducible rfl
  refine G_take 1 13 rfl (by kernel_rfl) (fun c a w h => hQ c a _ _ w h) hG0 (v := ?_) (.inl ⟨by rfl, ?_⟩) ?_
  rotate_left
  · intro w' hw'; go_simp; try with_reducible rfl
  refine G_take 2 13 rfl (by kernel_rfl) (fun c a w h => hQ c a _ _ w h) hG0 (v := ?_) (.inl ⟨by rfl, ?_⟩) ?_
  rotate_left
  · intro w' hw'; go_simp; try with_reducible rfl
  refine G_take 3 13 rfl (by kernel_rfl) (fun c a w h => hQ c a _ _ w h) hG0 (v := ?_) (.inl ⟨by rfl, ?_⟩) ?_
  rotate_left
  · intro w' hw'; go_simp; try with_reducible rfl
  refine G_take 4 13 rfl (by kernel_rfl) (fun c a w h => hQ c a _ _ w h) hG0 (v := ?_) (.inl ⟨by rfl, ?_⟩) ?_
  rotate_left
  · intro w' hw'; go_simp; try with_reducible rfl
  go_simp
  refine G_two 5 11 rfl rfl (by kernel_rfl) ?_ ?_
  · skip
    intro K1 hK1
    go_simp
    go_at_call 8
    refine (less_nat _ g n hT0 (by omega)).mono ?_
    rintro e v1 ⟨r, rfl, hr, hT1, hg1⟩
    have hG1 : w.grownBy v1 (some g) := tr_row hG0 hg1
    obtain ⟨m, hm, hmn⟩ : ∃ m : Nat, (n : Int) - 1 - r = m ∧ m < n := ⟨n - 1 - r, by omega, by omega⟩
    have hw3 : IntKind.i64.wrap (m : Int) = m := wrap_small _ (by omega) (by omega)
    refine hK1 _ _ ⟨hG1, ?_⟩
    clear hK1 K1
    refine G_take 6 13 rfl (by kernel_rfl) (fun c a w h => hQ c a _ _ w h) hG1 (v := ?_) (.inl ⟨by rfl, ?_⟩) ?_
    rotate_left
    · intro w' hw'; go_simp; try with_reducible rfl
    go_simp
    refine G_two 7 11 rfl rfl (by kernel_rfl) ?_ ?_
    · skip
      intro K1 hK1
      go_simp
      with_reducible refine (norm_calls st m (HF.out.fine (by omega)) (by omega) _ _ k4 (HS.out.later hG1 hT1).r4).mono ?_
      rw [norm_less HF.out.reach m (by omega)]
      rintro e v2 ⟨rfl, hb2⟩
      have hT2 := hT1.below hb2
      have hG2 : w.grownBy v2 (some g) := tr_row hG1 (gb_some (gb_below hb2))
      refine hK1 _ _ ⟨hG2, ?_⟩
      clear hK1 K1
      refine G_take 8 13 rfl (by kernel_rfl) (fun c a w h => hQ c a _ _ w h) hG2 (v := ?_) (.inl ⟨by rfl, ?_⟩) ?_
      rotate_left
      · intro w' hw'; go_simp; try with_reducible rfl
      refine G_take 9 13 rfl (by kernel_rfl) (fun c a w h => hQ c a _ _ w h) hG2 (v := ?_) (.inl ⟨by rfl, ?_⟩) ?_
      rotate_left
      · intro w' hw'; go_simp; try with_reducible rfl
      refine G_take 10 13 rfl (by kernel_rfl) (fun c a w h => hQ c a _ _ w h) hG2 (v := ?_) (.inl ⟨by rfl, ?_⟩) ?_
      rotate_left
      · intro w' hw'; go_simp; try with_reducible rfl
      go_simp
      refine G_only 11 rfl (by kernel_rfl) ?_
      intro K1 hK1
      go_simp
      have pz3 := new_at (v2) (Hd.obj ⟨0, ⟨#[]⟩, 0, none, 0, 0⟩) (v2.heap.size) rfl
      have hz3 : g < v2.heap.size := (Tile.lt hT2)
      have hs3 : w.heap.size ≤ v2.heap.size := hG2.size
      have hT3 := hT2.below (alloc_below (v2) (Hd.obj ⟨0, ⟨#[]⟩, 0, none, 0, 0⟩))
      have hG3 : w.grownBy ((v2).alloc (Hd.obj ⟨0, ⟨#[]⟩, 0, none, 0, 0⟩)) (some g) := tr_row hG2 (gb_some (gb_alloc _ _))
      have hy3 : v2.heap.size < ((v2).alloc (Hd.obj ⟨0, ⟨#[]⟩, 0, none, 0, 0⟩)).heap.size := by simp
      refine hK1 _ ((v2).alloc (Hd.obj ⟨0, ⟨#[]⟩, 0, none, 0, 0⟩)) ⟨hG3, ?_⟩
      clear hK1 K1
      generalize hY : World.alloc (v2) (Hd.obj ⟨0, ⟨#[]⟩, 0, none, 0, 0⟩) = Y at *
      clear hY
      refine G_only 12 rfl (by kernel_rfl) ?_
      intro K1 hK1
      obtain ⟨f0, f1, f2, f3, f4, f5, f6, f7, f8⟩ := cells_of_block pz3
      have fz := free_of_block pz3
      go_simp
      obtain ⟨V, hV, n1, n2, n3⟩ := nineE (.int .i64 0) (.string ⟨#[]⟩) (.int .i64 0) (.int .i64 0) (.string ⟨#[]⟩) (.int .i64 0) (.slice none 0 0) (.slice none 0 0) (.slice none 0 0) pz3
      rw [hV]
      have hT4 := hT3.grown n2 (by simp; omega)
      have hG4 : w.grownBy V (some g) := own_row hG3 n2 (by omega)
      clear hV f0 f1 f2 f3 f4 f5 f6 f7 f8 fz
      refine hK1 _ _ ⟨hG4, ?_⟩
      clear hK1 K1
      refine G_last 13 rfl (by kernel_rfl) (by kernel_rfl) ?_
      intro K1 hK1
      go_simp
      refine hK1 _ _ ?_
      exact HK.out _ _ _ _ _ _ _ _ _ _ _ _ _ _ _ _ _ _ _ _ _ _ _ _ _ _ _ _ _ _ _ _ _ _ _ _ _ _ _ _ _ _ _ _ _ _ _ _ _ _ _ _ _ _ _ _ _ _ _ _ _ _ _ _ _ _ _ _ _ _ _ _ _ _ _ _ _ _ _ _ _ _ _ _ _ _ _ _ _ _ _ _ _ _ _ _ _ _ _ _ _ _ _ _ _ _ _ _ _ _ _ _ _ _ _ _ _ _ _ _ _ _ _ _ _ _ _ _ _ _ _ _ _ _ _ _ _ _ _ _ _ _ _ _ _ _ _ _ _ _ _ _ _ _ _ _ _ _ _ _ _ _ _ _ _ _ _ _ (HS.out.later hG4 hT4) hG4
    · skip
      intro K1 hK1
      go_simp
      have pz2 := new_at (v1) (Hd.obj ⟨0, ⟨#[]⟩, 0, none, 0, 0⟩) (v1.heap.size) rfl
      have hz2 : g < v1.heap.size := (Tile.lt hT1)
      have hs2 : w.heap.size ≤ v1.heap.size := hG1.size
      have hT2 := hT1.below (alloc_below (v1) (Hd.obj ⟨0, ⟨#[]⟩, 0, none, 0, 0⟩))
      have hG2 : w.grownBy ((v1).alloc (Hd.obj ⟨0, ⟨#[]⟩, 0, none, 0, 0⟩)) (some g) := tr_row hG1 (gb_some (gb_alloc _ _))
      have hy2 : v1.heap.size < ((v1).alloc (Hd.obj ⟨0, ⟨#[]⟩, 0, none, 0, 0⟩)).heap.size := by simp
      refine hK1 _ ((v1).alloc (Hd.obj ⟨0, ⟨#[]⟩, 0, none, 0, 0⟩)) ⟨hG2, ?_⟩
      clear hK1 K1
      generalize hY : World.alloc (v1) (Hd.obj ⟨0, ⟨#[]⟩, 0, none, 0, 0⟩) = Y at *
      clear hY
      refine G_only 7 rfl (by kernel_rfl) ?_
      intro K1 hK1
      go_simp
      with_reducible refine (norm_calls st m (HF.out.fine (by omega)) (by omega) _ _ k4 (HS.out.later hG2 hT2).r4).mono ?_
      rw [norm_less HF.out.reach m (by omega)]
      rintro e v3 ⟨rfl, hb3⟩
      have hT3 := hT2.below hb3
      have hG3 : w.grownBy v3 (some g) := tr_row hG2 (gb_some (gb_below hb3))
      have pz3 := (hb3.block _ (Array.getElem?_eq_some_iff.1 pz2).1).trans pz2
      refine hK1 _ _ ⟨hG3, ?_⟩
      clear hK1 K1
      refine G_take 8 13 rfl (by kernel_rfl) (fun c a w h => hQ c a _ _ w h) hG3 (v := ?_) (.inl ⟨by rfl, ?_⟩) ?_
      rotate_left
      · intro w' hw'; go_simp; try with_reducible rfl
      refine G_take 9 13 rfl (by kernel_rfl) (fun c a w h => hQ c a _ _ w h) hG3 (v := ?_) (.inl ⟨by rfl, ?_⟩) ?_
      rotate_left
      · intro w' hw'; go_simp; try with_reducible rfl
      refine G_take 10 13 rfl (by kernel_rfl) (fun c a w h => hQ c a _ _ w h) hG3 (v := ?_) (.inl ⟨by rfl, ?_⟩) ?_
      rotate_left
      · intro w' hw'; go_simp; try with_reducible rfl
      go_simp
      refine G_only 12 rfl (by kernel_rfl) ?_
      intro K1 hK1
      obtain ⟨f0, f1, f2, f3, f4, f5, f6, f7, f8⟩ := cells_of_block pz3
      have fz := free_of_block pz3
      go_simp
      obtain ⟨V, hV, n1, n2, n3⟩ := nineE (.int .i64 0) (.string ⟨#[]⟩) (.int .i64 0) (.int .i64 0) (.string ⟨#[]⟩) (.int .i64 0) (.slice none 0 0) (.slice none 0 0) (.slice none 0 0) pz3
      rw [hV]
      have hT4 := hT3.grown n2 (by simp; omega)
      have hG4 : w.grownBy V (some g) := own_row hG3 n2 (by omega)
      clear hV f0 f1 f2 f3 f4 f5 f6 f7 f8 fz
      refine hK1 _ _ ⟨hG4, ?_⟩
      clear hK1 K1
      refine G_last 13 rfl (by kernel_rfl) (by kernel_rfl) ?_
      intro K1 hK1
      go_simp
      refine hK1 _ _ ?_
      exact HK.out _ _ _ _ _ _ _ _ _ _ _ _ _ _ _ _ _ _ _ _ _ _ _ _ _ _ _ _ _ _ _ _ _ _ _ _ _ _ _ _ _ _ _ _ _ _ _ _ _ _ _ _ _ _ _ _ _ _ _ _ _ _ _ _ _ _ _ _ _ _ _ _ _ _ _ _ _ _ _ _ _ _ _ _ _ _ _ _ _ _ _ _ _ _ _ _ _ _ _ _ _ _ _ _ _ _ _ _ _ _ _ _ _ _ _ _ _ _ _ _ _ _ _ _ _ _ _ _ _ _ _ _ _ _ _ _ _ _ _ _ _ _ _ _ _ _ _ _ _ _ _ _ _ _ _ _ _ _ _ _ _ _ _ _ _ _ _ _ (HS.out.later hG4 hT4) hG4
  · skip
    intro K1 hK1
    go_simp
    have pz1 := new_at (w.drew) (Hd.obj ⟨0, ⟨#[]⟩, 0, none, 0, 0⟩) (w.heap.size) rfl
    have hz1 : g < w.heap.size := (Tile.lt hT0)
    have hs1 : w.heap.size ≤ w.heap.size := hG0.size
    have hT1 := hT0.below (alloc_below (w.drew) (Hd.obj ⟨0, ⟨#[]⟩, 0, none, 0, 0⟩))
    have hG1 : w.grownBy ((w.drew).alloc (Hd.obj ⟨0, ⟨#[]⟩, 0, none, 0, 0⟩)) (some g) := tr_row hG0 (gb_some (gb_alloc _ _))
    have hy1 : w.heap.size < ((w.drew).alloc (Hd.obj ⟨0, ⟨#[]⟩, 0, none, 0, 0⟩)).heap.size := by simp
    refine hK1 _ ((w.drew).alloc (Hd.obj ⟨0, ⟨#[]⟩, 0, none, 0, 0⟩)) ⟨hG1, ?_⟩
    clear hK1 K1
    generalize hY : World.alloc (w.drew) (Hd.obj ⟨0, ⟨#[]⟩, 0, none, 0, 0⟩) = Y at *
    clear hY
    refine G_only 5 rfl (by kernel_rfl) ?_
    intro K1 hK1
    go_simp
    go_at_call 8
    refine (less_nat _ g n hT1 (by omega)).mono ?_
    rintro e v2 ⟨r, rfl, hr, hT2, hg2⟩
    have hG2 : w.grownBy v2 (some g) := tr_row hG1 hg2
    obtain ⟨m, hm, hmn⟩ : ∃ m : Nat, (n : Int) - 1 - r = m ∧ m < n := ⟨n - 1 - r, by omega, by omega⟩
    have hw3 : IntKind.i64.wrap (m : Int) = m := wrap_small _ (by omega) (by omega)
    have pz2 := (hg2.block _ (Array.getElem?_eq_some_iff.1 pz1).1 (by simp; omega)).trans pz1
    refine hK1 _ _ ⟨hG2, ?_⟩
    clear hK1 K1
    refine G_take 6 13 rfl (by kernel_rfl) (fun c a w h => hQ c a _ _ w h) hG2 (v := ?_) (.inl ⟨by rfl, ?_⟩) ?_
    rotate_left
    · intro w' hw'; go_simp; try with_reducible rfl
    go_simp
    refine G_only 7 rfl (by kernel_rfl) ?_
    intro K1 hK1
    go_simp
    with_reducible refine (norm_calls st m (HF.out.fine (by omega)) (by omega) _ _ k4 (HS.out.later hG2 hT2).r4).mono ?_
    rw [norm_less HF.out.reach m (by omega)]
    rintro e v3 ⟨rfl, hb3⟩
    have hT3 := hT2.below hb3
    have hG3 : w.grownBy v3 (some g) := tr_row hG2 (gb_some (gb_below hb3))
    have pz3 := (hb3.block _ (Array.getElem?_eq_some_iff.1 pz2).1).trans pz2
    refine hK1 _ _ ⟨hG3, ?_⟩
    clear hK1 K1
    refine G_take 8 13 rfl (by kernel_rfl) (fun c a w h => hQ c a _ _ w h) hG3 (v := ?_) (.inl ⟨by rfl, ?_⟩) ?_
    rotate_left
    · intro w' hw'; go_simp; try with_reducible rfl
    refine G_take 9 13 rfl (by kernel_rfl) (fun c a w h => hQ c a _ _ w h) hG3 (v := ?_) (.inl ⟨by rfl, ?_⟩) ?_
    rotate_left
    · intro w' hw'; go_simp; try with_reducible rfl
    refine G_take 10 13 rfl (by kernel_rfl) (fun c a w h => hQ c a _ _ w h) hG3 (v := ?_) (.inl ⟨by rfl, ?_⟩) ?_
    rotate_left
    · intro w' hw'; go_simp; try with_reducible rfl
    go_simp
    refine G_only 12 rfl (by kernel_rfl) ?_
    intro K1 hK1
    obtain ⟨f0, f1, f2, f3, f4, f5, f6, f7, f8⟩ := cells_of_block pz3
    have fz := free_of_block pz3
    go_simp
    obtain ⟨V, hV, n1, n2, n3⟩ := nineE (.int .i64 0) (.string ⟨#[]⟩) (.int .i64 0) (.int .i64 0) (.string ⟨#[]⟩) (.int .i64 0) (.slice none 0 0) (.slice none 0 0) (.slice none 0 0) pz3
    rw [hV]
    have hT4 := hT3.grown n2 (by simp; omega)
    have hG4 : w.grownBy V (some g) := own_row hG3 n2 (by omega)
    clear hV f0 f1 f2 f3 f4 f5 f6 f7 f8 fz
    refine hK1 _ _ ⟨hG4, ?_⟩
    clear hK1 K1
    refine G_last 13 rfl (by kernel_rfl) (by kernel_rfl) ?_
    intro K1 hK1
    go_simp
    refine hK1 _ _ ?_
    exact HK.out _ _ _ _ _ _ _ _ _ _ _ _ _ _ _ _ _ _ _ _ _ _ _ _ _ _ _ _ _ _ _ _ _ _ _ _ _ _ _ _ _ _ _ _ _ _ _ _ _ _ _ _ _ _ _ _ _ _ _ _ _ _ _ _ _ _ _ _ _ _ _ _ _ _ _ _ _ _ _ _ _ _ _ _ _ _ _ _ _ _ _ _ _ _ _ _ _ _ _ _ _ _ _ _ _ _ _ _ _ _ _ _ _ _ _ _ _ _ _ _ _ _ _ _ _ _ _ _ _ _ _ _ _ _ _ _ _ _ _ _ _ _ _ _ _ _ _ _ _ _ _ _ _ _ _ _ _ _ _ _ _ _ _ _ _ _ _ _ (HS.out.later hG4 hT4) hG4

end Go.Proofs.Ytogdjjleclbgcaa
