/- The law's last statements. -/
import Derived.Test.YtogdjjleclbgcaaLaw
import Derived.Test.YtogdjjleclbgcaaEqual
import Derived.Test.YtogdjjleclbgcaaOf
namespace Go.Proofs.Ytogdjjleclbgcaa
open Go.RowKit

/-- What stands while the answers are compared: the tile, the term and its normal form. -/
structure Stand (w0 w : World) (g B4 B8 : Nat) (st due : L) (k4 k8 : Hd) : Prop where
  hb : Below w0.heap.size w0 w
  hg : w0.heap.size ≤ g
  gl : g < w.heap.size
  tile : Tile w g
  n4 : B4 ≠ g
  n8 : B8 ≠ g
  b4 : w.heap[B4]? = some k4.obj
  b8 : w.heap[B8]? = some k8.obj
  r4 : Rep w (fun z => z ≠ g) st k4
  r8 : Rep w (fun z => z ≠ g) due k8

theorem Stand.later {w0 w w' : World} {g B4 B8 : Nat} {st due : L} {k4 k8 : Hd} (h : Stand w0 w g B4 B8 st due k4 k8) (hg : w.grownBy w' (some g)) (ht : Tile w' g) : Stand w0 w' g B4 B8 st due k4 k8 :=
  ⟨below_gb h.hb hg h.hb.size (by simp; exact h.hg), h.hg, Nat.lt_of_lt_of_le h.gl hg.size, ht, h.n4, h.n8,
    (hg.block B4 (Array.getElem?_eq_some_iff.1 h.b4).1 (by simpa using h.n4)).trans h.b4, (hg.block B8 (Array.getElem?_eq_some_iff.1 h.b8).1 (by simpa using h.n8)).trans h.b8,
    h.r4.grown hg (fun z hz e => hz (by simpa using e)), h.r8.grown hg (fun z hz e => hz (by simpa using e))⟩
theorem Stand.below {w0 w w' : World} {g B4 B8 : Nat} {st due : L} {k4 k8 : Hd} (h : Stand w0 w g B4 B8 st due k4 k8) (hb : Below w.heap.size w w') : Stand w0 w' g B4 B8 st due k4 k8 :=
  h.later (gb_some (gb_below hb)) (h.tile.below hb)

def dropSeq : Nat → Code → Code
  | 0, c => c
  | n + 1, .seq _ b => dropSeq n b
  | _ + 1, c => c
noncomputable def rest (n : Nat) : Code := dropSeq n (Try.f3.body.getD .skip)
def firstSeq : Code → Code
  | .seq a _ => a
  | c => c
/-- How the law ends. -/
def Good (w0 : World) (e : Ending) (w' : World) : Prop := e = .returned (.bool true) ∧ Below w0.heap.size w0 w'

set_option maxRecDepth 100000 in
set_option maxHeartbeats 1600000 in
theorem rest18 (w0 w : World) (g B4 B8 B23 : Nat) (n : Nat) (st due : L) (k4 k8 k23 : Hd) (h : Stand w0 w g B4 B8 st due k4 k8) (hd : due.step = none) (hs : due.small) (b23 : w.heap[B23]? = some k23.obj) (n23 : B23 ≠ g) (r23 : Rep w (fun z => z ≠ g) due k23)
    (u0 u1 u5 u6 u7 u9 u11 u12 u13 u14 u15 u16 u17 u18 u19 u20 u21 u22 u25 u26 u27 u28 u29 u30 u31 u32 u33 u34 u35 u36 u37 u38 u39 u40 u41 u42 u43 u44 u45 u46 u47 u48 u49 u50 u51 u52 u53 u54 u55 u56 u57 u58 u59 u60 u61 u62 u63 u64 u65 u66 u67 u68 u69 u70 u71 u72 u73 u74 u75 u76 u77 u78 u79 u80 u81 u82 u83 u84 u85 u86 u87 u88 u89 u90 u91 u92 u93 u94 u95 u96 u97 u98 u99 u100 u101 u102 u103 u104 u105 u106 u107 u108 u109 u110 u111 u112 u113 u114 u115 u116 u117 u118 u119 u120 u121 u122 u123 u124 u125 u126 u127 u128 u129 u130 u131 u132 u133 u134 u135 u136 u137 u138 u139 u140 u141 u142 u143 u144 u145 u146 u147 u148 u149 u150 u151 u152 u153 u154 u155 u156 u157 u158 u159 u160 u161 u162 u163 u164 u165 u166 u167 u168 u169 u170 u171 u172 u173 u174 : Value) : (rest 18).wp Try.prog (bodyPost Try.prog Try.f3 (Good w0)) { tmps := #[u0, u1, .bool false, .pointer (some ⟨g, 0, none⟩), .pointer (some ⟨B4, 0, none⟩), u5, u6, u7, .pointer (some ⟨B8, 0, none⟩), u9, .int .i64 n, u11, u12, u13, u14, u15, u16, u17, u18, u19, u20, u21, u22, .pointer (some ⟨B23, 0, none⟩), .int .i64 0, u25, u26, u27, u28, u29, u30, u31, u32, u33, u34, u35, u36, u37, u38, u39, u40, u41, u42, u43, u44, u45, u46, u47, u48, u49, u50, u51, u52, u53, u54, u55, u56, u57, u58, u59, u60, u61, u62, u63, u64, u65, u66, u67, u68, u69, u70, u71, u72, u73, u74, u75, u76, u77, u78, u79, u80, u81, u82, u83, u84, u85, u86, u87, u88, u89, u90, u91, u92, u93, u94, u95, u96, u97, u98, u99, u100, u101, u102, u103, u104, u105, u106, u107, u108, u109, u110, u111, u112, u113, u114, u115, u116, u117, u118, u119, u120, u121, u122, u123, u124, u125, u126, u127, u128, u129, u130, u131, u132, u133, u134, u135, u136, u137, u138, u139, u140, u141, u142, u143, u144, u145, u146, u147, u148, u149, u150, u151, u152, u153, u154, u155, u156, u157, u158, u159, u160, u161, u162, u163, u164, u165, u166, u167, u168, u169, u170, u171, u172, u173, u174], defers := [] } w := by
  conv => arg 2; whnf
  obtain ⟨e0, e1, e2, e3, e4, e5, e6, e7, e8⟩ := cells_of_block b23
  have H := Lib.hid (And.intro h (And.intro hd (And.intro hs (And.intro b23 r23))))
  clear h hd hs b23 r23
  have HN : Hid (Calls Try.prog 13 #[k23.val, .int .i64 0] w (Normed w (fun z => z ≠ g) (some due))) := Lib.hid (by
    have := norm_calls due 0 H.out.2.2.1 (by omega) w _ k23 H.out.2.2.2.2
    rw [norm_stop H.out.2.1] at this
    exact this)
  go_wp2_with fail
  refine HN.out.mono ?_
  clear e0 e1 e2 e3 e4 e5 e6 e7 e8
  rintro e w1 ⟨k1, rfl, r1, hb1⟩
  have h1 := H.out.1.below hb1
  have l8 : B8 < w1.heap.size := (Array.getElem?_eq_some_iff.1 h1.b8).1
  obtain ⟨e0, e1, e2, e3, e4, e5, e6, e7, e8⟩ := cells_of_block h1.b8
  have H1 := Lib.hid (And.intro h1 r1)
  clear h1 r1 hb1
  go_wp2_with fail
  have ha := alloc_below w1 k1.obj
  have h2 := H1.out.1.below ha
  refine (equal_calls due due _ _ _ k1 k8 (H1.out.2.below ha) h2.r8).mono ?_
  rintro e w2 ⟨rfl, hb2⟩
  have HB := Lib.hid (h2.below hb2).hb
  clear h2 hb2 ha e0 e1 e2 e3 e4 e5 e6 e7 e8
  have hdd : decide (due = due) = true := by simp
  go_wp2
  go_ret
  exact ⟨rfl, HB.out⟩

end Go.Proofs.Ytogdjjleclbgcaa
