-- Written by ext.py, a program of this session.
import Derived.Test.YtkalcljgcigdgaaGS0
import Derived.Test.YtkalcljgcigdgaaGS8
namespace Go.Proofs.Ytkalcljgcigdgaa.GS
open Go.RowKit Go.Proofs.YtkalcljgcigdgaaW.PrintWords Go.Proofs.YtkalcljgcigdgaaW.PrintLast Go.Proofs.YtkalcljgcigdgaaW.PrintMore
attribute [local go_sem] max2_int min2_int max_two min_two max_three min_three max_four min_four cellIs_set   -- for this text's walks alone
set_option linter.unusedVariables false
set_option linter.unusedSimpArgs false
/-! ### sentence_spans: function 74 -/
mutual
def sentence_spans.l0 : Nat → List Int → List (List Int) → List (S128) → Int → Int → Int → Option ((List (List Int)))
 | 0,_,_,_,_,_,_=>none
 | k + 1,x1,x6,x25,x26,x27,x135000=>if x27 < x26 then (if 0 ≤ x27 then (if x27 < (x25.length : Int) then (if 0 ≤ x135000 then (if (x135000 : Int).toNat ≤ 70368744177664 then ((some (List.replicate (x135000 : Int).toNat 0 : List Int)).bind fun y140=>(if ((rd_T128 x25 x27).f0) = 2 then (sentence_spans.l1 k x1 x6 x27 y140 x25 x26 x27 (y140.length : Int) 0 x135000) else (if ((rd_T128 x25 x27).f0) = 3 then (sentence_spans.l2 k x1 x6 x27 y140 x25 x26 x27 x1 (x1.length : Int) 0 x135000 ((rd_T128 x25 x27).f0) ((rd_T128 x25 x27).f1) ((rd_T128 x25 x27).f2)) else (if ((rd_T128 x25 x27).f0) = 4 then (if 0 ≤ ((rd_T128 x25 x27).f1) then (if ((rd_T128 x25 x27).f1) < (x6.length : Int) then (if 0 ≤ ((rd_T128 x25 x27).f2) then (if ((rd_T128 x25 x27).f2) < (x6.length : Int) then ((sentence_spans_1.f k (rd_L4 x6 ((rd_T128 x25 x27).f1)) (rd_L4 x6 ((rd_T128 x25 x27).f2)) x135000).bind fun t150=>(if x27 < (x6.length : Int) then (sentence_spans.l0 k x1 (x6.set (x27 : Int).toNat t150) x25 x26 (wrap64 (x27 + 1)) x135000) else (none))) else (none)) else (none)) else (none)) else (none)) else (if ((rd_T128 x25 x27).f0) = 5 then (sentence_spans.l3 k x1 x6 x27 y140 x25 x26 x27 (y140.length : Int) 0 x135000 ((rd_T128 x25 x27).f0) ((rd_T128 x25 x27).f1) ((rd_T128 x25 x27).f2)) else (if ((rd_T128 x25 x27).f0) = 6 then (sentence_spans.l4 k x1 x6 x27 y140 x25 x26 x27 (y140.length : Int) 0 x135000 ((rd_T128 x25 x27).f0) ((rd_T128 x25 x27).f1) ((rd_T128 x25 x27).f2)) else (if x27 < (x6.length : Int) then (sentence_spans.l0 k x1 (x6.set (x27 : Int).toNat y140) x25 x26 (wrap64 (x27 + 1)) x135000) else (none)))))))) else (none)) else (none)) else (none)) else (none)) else (some x6)
def sentence_spans.l1 : Nat → List Int → List (List Int) → Int → List Int → List (S128) → Int → Int → Int → Int → Int → Option ((List (List Int)))
 | 0,_,_,_,_,_,_,_,_,_,_=>none
 | k + 1,x1,x6,x8,x10,x25,x26,x27,x39,x40,x135000=>if x40 < x39 then (if 0 ≤ x40 then (if x40 < (x10.length : Int) then (sentence_spans.l1 k x1 x6 x8 (x10.set (x40 : Int).toNat (shl .u32 1 x40)) x25 x26 x27 x39 (wrap64 (x40 + 1)) x135000) else (none)) else (none)) else (if 0 ≤ x8 then (if x8 < (x6.length : Int) then (sentence_spans.l0 k x1 (x6.set (x8 : Int).toNat x10) x25 x26 (wrap64 (x27 + 1)) x135000) else (none)) else (none))
def sentence_spans.l2 : Nat → List Int → List (List Int) → Int → List Int → List (S128) → Int → Int → List Int → Int → Int → Int → Int → Int → Int → Option ((List (List Int)))
 | 0,_,_,_,_,_,_,_,_,_,_,_,_,_,_=>none
 | k + 1,x1,x6,x8,x10,x25,x26,x27,x51,x52,x53,x135000,x140000,x140001,x140002=>if x53 < x52 then (if 0 ≤ x53 then (if x53 < (x51.length : Int) then (if (rd x51 x53) = x140001 then (if 0 ≤ (wrap64 (x53 + 1)) then (if x53 < (x10.length : Int) then (sentence_spans.l2 k x1 x6 x8 (x10.set (x53 : Int).toNat (shl .u32 1 (wrap64 (x53 + 1)))) x25 x26 x27 x51 x52 (wrap64 (x53 + 1)) x135000 x140000 x140001 x140002) else (none)) else (none)) else (sentence_spans.l2 k x1 x6 x8 x10 x25 x26 x27 x51 x52 (wrap64 (x53 + 1)) x135000 x140000 x140001 x140002)) else (none)) else (none)) else (if 0 ≤ x8 then (if x8 < (x6.length : Int) then (sentence_spans.l0 k x1 (x6.set (x8 : Int).toNat x10) x25 x26 (wrap64 (x27 + 1)) x135000) else (none)) else (none))
def sentence_spans.l3 : Nat → List Int → List (List Int) → Int → List Int → List (S128) → Int → Int → Int → Int → Int → Int → Int → Int → Option ((List (List Int)))
 | 0,_,_,_,_,_,_,_,_,_,_,_,_,_=>none
 | k + 1,x1,x6,x8,x10,x25,x26,x27,x86,x87,x135000,x140000,x140001,x140002=>if x87 < x86 then (if 0 ≤ x140001 then (if x140001 < (x6.length : Int) then (if 0 ≤ x87 then (if x87 < ((rd_L4 x6 x140001).length : Int) then (if 0 ≤ x140002 then (if x140002 < (x6.length : Int) then (if x87 < ((rd_L4 x6 x140002).length : Int) then (if x87 < (x10.length : Int) then (sentence_spans.l3 k x1 x6 x8 (x10.set (x87 : Int).toNat (Go.bits .or .u32 (rd (rd_L4 x6 x140001) x87) (rd (rd_L4 x6 x140002) x87))) x25 x26 x27 x86 (wrap64 (x87 + 1)) x135000 x140000 x140001 x140002) else (none)) else (none)) else (none)) else (none)) else (none)) else (none)) else (none)) else (none)) else (if 0 ≤ x8 then (if x8 < (x6.length : Int) then (sentence_spans.l0 k x1 (x6.set (x8 : Int).toNat x10) x25 x26 (wrap64 (x27 + 1)) x135000) else (none)) else (none))
def sentence_spans.l4 : Nat → List Int → List (List Int) → Int → List Int → List (S128) → Int → Int → Int → Int → Int → Int → Int → Int → Option ((List (List Int)))
 | 0,_,_,_,_,_,_,_,_,_,_,_,_,_=>none
 | k + 1,x1,x6,x8,x10,x25,x26,x27,x114,x115,x135000,x140000,x140001,x140002=>if x115 < x114 then (if 0 ≤ x115 then (if x115 < (x10.length : Int) then (sentence_spans.l4 k x1 x6 x8 (x10.set (x115 : Int).toNat (shl .u32 1 x115)) x25 x26 x27 x114 (wrap64 (x115 + 1)) x135000 x140000 x140001 x140002) else (none)) else (none)) else (sentence_spans.l5 k x1 x6 x8 x10 x25 x26 x27 x135000 0 x135000 x140000 x140001 x140002)
def sentence_spans.l5 : Nat → List Int → List (List Int) → Int → List Int → List (S128) → Int → Int → Int → Int → Int → Int → Int → Int → Option ((List (List Int)))
 | 0,_,_,_,_,_,_,_,_,_,_,_,_,_=>none
 | k + 1,x1,x6,x8,x10,x25,x26,x27,x124,x125,x135000,x140000,x140001,x140002=>if x125 < x124 then (if 0 ≤ x140001 then (if x140001 < (x6.length : Int) then ((sentence_spans_1.f k x10 (rd_L4 x6 x140001) x135000).bind fun t163=>(sentence_spans.l6 k x1 x6 x8 x10 t163 x25 x26 x27 x124 x125 (x10.length : Int) 0 x135000 x140000 x140001 x140002)) else (none)) else (none)) else (if 0 ≤ x8 then (if x8 < (x6.length : Int) then (sentence_spans.l0 k x1 (x6.set (x8 : Int).toNat x10) x25 x26 (wrap64 (x27 + 1)) x135000) else (none)) else (none))
def sentence_spans.l6 : Nat → List Int → List (List Int) → Int → List Int → List Int → List (S128) → Int → Int → Int → Int → Int → Int → Int → Int → Int → Int → Option ((List (List Int)))
 | 0,_,_,_,_,_,_,_,_,_,_,_,_,_,_,_,_=>none
 | k + 1,x1,x6,x8,x10,x16,x25,x26,x27,x124,x125,x136,x137,x135000,x140000,x140001,x140002=>if x137 < x136 then (if 0 ≤ x137 then (if x137 < (x10.length : Int) then (if x137 < (x16.length : Int) then (sentence_spans.l6 k x1 x6 x8 (x10.set (x137 : Int).toNat (Go.bits .or .u32 (rd x10 x137) (rd x16 x137))) x16 x25 x26 x27 x124 x125 x136 (wrap64 (x137 + 1)) x135000 x140000 x140001 x140002) else (none)) else (none)) else (none)) else (sentence_spans.l5 k x1 x6 x8 x10 x25 x26 x27 x124 (wrap64 (x125 + 1)) x135000 x140000 x140001 x140002)
end
def sentence_spans.f (k : Nat) (l0 : List (S128)) (l1 : List Int) : Option ((List (List Int))):=if 0 ≤ (l0.length : Int) then (if ((l0.length : Int) : Int).toNat ≤ 11728124029610 then (sentence_spans.l0 k l1 (List.replicate ((l0.length : Int) : Int).toNat []) l0 (l0.length : Int) 0 (wrap64 ((l1.length : Int) + 1))) else (none)) else (none)
theorem sentence_spans.mono_l : ∀ k,(∀ y0 y1 y2 y3 y4 y5,LeO (sentence_spans.l0 k y0 y1 y2 y3 y4 y5) (sentence_spans.l0 (k + 1) y0 y1 y2 y3 y4 y5)) ∧ (∀ y0 y1 y2 y3 y4 y5 y6 y7 y8 y9,LeO (sentence_spans.l1 k y0 y1 y2 y3 y4 y5 y6 y7 y8 y9) (sentence_spans.l1 (k + 1) y0 y1 y2 y3 y4 y5 y6 y7 y8 y9)) ∧ (∀ y0 y1 y2 y3 y4 y5 y6 y7 y8 y9 y10 y11 y12 y13,LeO (sentence_spans.l2 k y0 y1 y2 y3 y4 y5 y6 y7 y8 y9 y10 y11 y12 y13) (sentence_spans.l2 (k + 1) y0 y1 y2 y3 y4 y5 y6 y7 y8 y9 y10 y11 y12 y13)) ∧ (∀ y0 y1 y2 y3 y4 y5 y6 y7 y8 y9 y10 y11 y12,LeO (sentence_spans.l3 k y0 y1 y2 y3 y4 y5 y6 y7 y8 y9 y10 y11 y12) (sentence_spans.l3 (k + 1) y0 y1 y2 y3 y4 y5 y6 y7 y8 y9 y10 y11 y12)) ∧ (∀ y0 y1 y2 y3 y4 y5 y6 y7 y8 y9 y10 y11 y12,LeO (sentence_spans.l4 k y0 y1 y2 y3 y4 y5 y6 y7 y8 y9 y10 y11 y12) (sentence_spans.l4 (k + 1) y0 y1 y2 y3 y4 y5 y6 y7 y8 y9 y10 y11 y12)) ∧ (∀ y0 y1 y2 y3 y4 y5 y6 y7 y8 y9 y10 y11 y12,LeO (sentence_spans.l5 k y0 y1 y2 y3 y4 y5 y6 y7 y8 y9 y10 y11 y12) (sentence_spans.l5 (k + 1) y0 y1 y2 y3 y4 y5 y6 y7 y8 y9 y10 y11 y12)) ∧ (∀ y0 y1 y2 y3 y4 y5 y6 y7 y8 y9 y10 y11 y12 y13 y14 y15,LeO (sentence_spans.l6 k y0 y1 y2 y3 y4 y5 y6 y7 y8 y9 y10 y11 y12 y13 y14 y15) (sentence_spans.l6 (k + 1) y0 y1 y2 y3 y4 y5 y6 y7 y8 y9 y10 y11 y12 y13 y14 y15))
 | 0=>⟨fun _ _ _ _ _ _ r h=>by simp [sentence_spans.l0] at h,fun _ _ _ _ _ _ _ _ _ _ r h=>by simp [sentence_spans.l1] at h,fun _ _ _ _ _ _ _ _ _ _ _ _ _ _ r h=>by simp [sentence_spans.l2] at h,fun _ _ _ _ _ _ _ _ _ _ _ _ _ r h=>by simp [sentence_spans.l3] at h,fun _ _ _ _ _ _ _ _ _ _ _ _ _ r h=>by simp [sentence_spans.l4] at h,fun _ _ _ _ _ _ _ _ _ _ _ _ _ r h=>by simp [sentence_spans.l5] at h,fun _ _ _ _ _ _ _ _ _ _ _ _ _ _ _ _ r h=>by simp [sentence_spans.l6] at h⟩
 | k + 1=>by
  obtain ⟨ih0,ih1,ih2,ih3,ih4,ih5,ih6⟩:=sentence_spans.mono_l k
  refine ⟨?_,?_,?_,?_,?_,?_,?_⟩
  ·intro y0 y1 y2 y3 y4 y5
   unfold sentence_spans.l0
   repeat' first
   | (with_reducible exact ih0 _ _ _ _ _ _)
   | (with_reducible exact ih1 _ _ _ _ _ _ _ _ _ _)
   | (with_reducible exact ih2 _ _ _ _ _ _ _ _ _ _ _ _ _ _)
   | (with_reducible exact ih3 _ _ _ _ _ _ _ _ _ _ _ _ _)
   | (with_reducible exact ih4 _ _ _ _ _ _ _ _ _ _ _ _ _)
   | (with_reducible exact ih5 _ _ _ _ _ _ _ _ _ _ _ _ _)
   | (with_reducible exact ih6 _ _ _ _ _ _ _ _ _ _ _ _ _ _ _ _)
   | (with_reducible exact sentence_spans_1.mono _ _ _ _)
   | (with_reducible exact LeO.refl _)
   | (with_reducible exact LeO.none _)
   | (with_reducible refine LeO.ite ?_ ?_)
   | (with_reducible refine LeO.bind ?_ (fun _=>?_))
   | exact ih0 _ _ _ _ _ _
   | exact ih1 _ _ _ _ _ _ _ _ _ _
   | exact ih2 _ _ _ _ _ _ _ _ _ _ _ _ _ _
   | exact ih3 _ _ _ _ _ _ _ _ _ _ _ _ _
   | exact ih4 _ _ _ _ _ _ _ _ _ _ _ _ _
   | exact ih5 _ _ _ _ _ _ _ _ _ _ _ _ _
   | exact ih6 _ _ _ _ _ _ _ _ _ _ _ _ _ _ _ _
   | exact sentence_spans_1.mono _ _ _ _
   | exact LeO.none _
   | refine LeO.ite ?_ ?_
   | refine LeO.bind ?_ (fun _=>?_)
  ·intro y0 y1 y2 y3 y4 y5 y6 y7 y8 y9
   unfold sentence_spans.l1
   repeat' first
   | (with_reducible exact ih0 _ _ _ _ _ _)
   | (with_reducible exact ih1 _ _ _ _ _ _ _ _ _ _)
   | (with_reducible exact ih2 _ _ _ _ _ _ _ _ _ _ _ _ _ _)
   | (with_reducible exact ih3 _ _ _ _ _ _ _ _ _ _ _ _ _)
   | (with_reducible exact ih4 _ _ _ _ _ _ _ _ _ _ _ _ _)
   | (with_reducible exact ih5 _ _ _ _ _ _ _ _ _ _ _ _ _)
   | (with_reducible exact ih6 _ _ _ _ _ _ _ _ _ _ _ _ _ _ _ _)
   | (with_reducible exact sentence_spans_1.mono _ _ _ _)
   | (with_reducible exact LeO.refl _)
   | (with_reducible exact LeO.none _)
   | (with_reducible refine LeO.ite ?_ ?_)
   | (with_reducible refine LeO.bind ?_ (fun _=>?_))
   | exact ih0 _ _ _ _ _ _
   | exact ih1 _ _ _ _ _ _ _ _ _ _
   | exact ih2 _ _ _ _ _ _ _ _ _ _ _ _ _ _
   | exact ih3 _ _ _ _ _ _ _ _ _ _ _ _ _
   | exact ih4 _ _ _ _ _ _ _ _ _ _ _ _ _
   | exact ih5 _ _ _ _ _ _ _ _ _ _ _ _ _
   | exact ih6 _ _ _ _ _ _ _ _ _ _ _ _ _ _ _ _
   | exact sentence_spans_1.mono _ _ _ _
   | exact LeO.none _
   | refine LeO.ite ?_ ?_
   | refine LeO.bind ?_ (fun _=>?_)
  ·intro y0 y1 y2 y3 y4 y5 y6 y7 y8 y9 y10 y11 y12 y13
   unfold sentence_spans.l2
   repeat' first
   | (with_reducible exact ih0 _ _ _ _ _ _)
   | (with_reducible exact ih1 _ _ _ _ _ _ _ _ _ _)
   | (with_reducible exact ih2 _ _ _ _ _ _ _ _ _ _ _ _ _ _)
   | (with_reducible exact ih3 _ _ _ _ _ _ _ _ _ _ _ _ _)
   | (with_reducible exact ih4 _ _ _ _ _ _ _ _ _ _ _ _ _)
   | (with_reducible exact ih5 _ _ _ _ _ _ _ _ _ _ _ _ _)
   | (with_reducible exact ih6 _ _ _ _ _ _ _ _ _ _ _ _ _ _ _ _)
   | (with_reducible exact sentence_spans_1.mono _ _ _ _)
   | (with_reducible exact LeO.refl _)
   | (with_reducible exact LeO.none _)
   | (with_reducible refine LeO.ite ?_ ?_)
   | (with_reducible refine LeO.bind ?_ (fun _=>?_))
   | exact ih0 _ _ _ _ _ _
   | exact ih1 _ _ _ _ _ _ _ _ _ _
   | exact ih2 _ _ _ _ _ _ _ _ _ _ _ _ _ _
   | exact ih3 _ _ _ _ _ _ _ _ _ _ _ _ _
   | exact ih4 _ _ _ _ _ _ _ _ _ _ _ _ _
   | exact ih5 _ _ _ _ _ _ _ _ _ _ _ _ _
   | exact ih6 _ _ _ _ _ _ _ _ _ _ _ _ _ _ _ _
   | exact sentence_spans_1.mono _ _ _ _
   | exact LeO.none _
   | refine LeO.ite ?_ ?_
   | refine LeO.bind ?_ (fun _=>?_)
  ·intro y0 y1 y2 y3 y4 y5 y6 y7 y8 y9 y10 y11 y12
   unfold sentence_spans.l3
   repeat' first
   | (with_reducible exact ih0 _ _ _ _ _ _)
   | (with_reducible exact ih1 _ _ _ _ _ _ _ _ _ _)
   | (with_reducible exact ih2 _ _ _ _ _ _ _ _ _ _ _ _ _ _)
   | (with_reducible exact ih3 _ _ _ _ _ _ _ _ _ _ _ _ _)
   | (with_reducible exact ih4 _ _ _ _ _ _ _ _ _ _ _ _ _)
   | (with_reducible exact ih5 _ _ _ _ _ _ _ _ _ _ _ _ _)
   | (with_reducible exact ih6 _ _ _ _ _ _ _ _ _ _ _ _ _ _ _ _)
   | (with_reducible exact sentence_spans_1.mono _ _ _ _)
   | (with_reducible exact LeO.refl _)
   | (with_reducible exact LeO.none _)
   | (with_reducible refine LeO.ite ?_ ?_)
   | (with_reducible refine LeO.bind ?_ (fun _=>?_))
   | exact ih0 _ _ _ _ _ _
   | exact ih1 _ _ _ _ _ _ _ _ _ _
   | exact ih2 _ _ _ _ _ _ _ _ _ _ _ _ _ _
   | exact ih3 _ _ _ _ _ _ _ _ _ _ _ _ _
   | exact ih4 _ _ _ _ _ _ _ _ _ _ _ _ _
   | exact ih5 _ _ _ _ _ _ _ _ _ _ _ _ _
   | exact ih6 _ _ _ _ _ _ _ _ _ _ _ _ _ _ _ _
   | exact sentence_spans_1.mono _ _ _ _
   | exact LeO.none _
   | refine LeO.ite ?_ ?_
   | refine LeO.bind ?_ (fun _=>?_)
  ·intro y0 y1 y2 y3 y4 y5 y6 y7 y8 y9 y10 y11 y12
   unfold sentence_spans.l4
   repeat' first
   | (with_reducible exact ih0 _ _ _ _ _ _)
   | (with_reducible exact ih1 _ _ _ _ _ _ _ _ _ _)
   | (with_reducible exact ih2 _ _ _ _ _ _ _ _ _ _ _ _ _ _)
   | (with_reducible exact ih3 _ _ _ _ _ _ _ _ _ _ _ _ _)
   | (with_reducible exact ih4 _ _ _ _ _ _ _ _ _ _ _ _ _)
   | (with_reducible exact ih5 _ _ _ _ _ _ _ _ _ _ _ _ _)
   | (with_reducible exact ih6 _ _ _ _ _ _ _ _ _ _ _ _ _ _ _ _)
   | (with_reducible exact sentence_spans_1.mono _ _ _ _)
   | (with_reducible exact LeO.refl _)
   | (with_reducible exact LeO.none _)
   | (with_reducible refine LeO.ite ?_ ?_)
   | (with_reducible refine LeO.bind ?_ (fun _=>?_))
   | exact ih0 _ _ _ _ _ _
   | exact ih1 _ _ _ _ _ _ _ _ _ _
   | exact ih2 _ _ _ _ _ _ _ _ _ _ _ _ _ _
   | exact ih3 _ _ _ _ _ _ _ _ _ _ _ _ _
   | exact ih4 _ _ _ _ _ _ _ _ _ _ _ _ _
   | exact ih5 _ _ _ _ _ _ _ _ _ _ _ _ _
   | exact ih6 _ _ _ _ _ _ _ _ _ _ _ _ _ _ _ _
   | exact sentence_spans_1.mono _ _ _ _
   | exact LeO.none _
   | refine LeO.ite ?_ ?_
   | refine LeO.bind ?_ (fun _=>?_)
  ·intro y0 y1 y2 y3 y4 y5 y6 y7 y8 y9 y10 y11 y12
   unfold sentence_spans.l5
   repeat' first
   | (with_reducible exact ih0 _ _ _ _ _ _)
   | (with_reducible exact ih1 _ _ _ _ _ _ _ _ _ _)
   | (with_reducible exact ih2 _ _ _ _ _ _ _ _ _ _ _ _ _ _)
   | (with_reducible exact ih3 _ _ _ _ _ _ _ _ _ _ _ _ _)
   | (with_reducible exact ih4 _ _ _ _ _ _ _ _ _ _ _ _ _)
   | (with_reducible exact ih5 _ _ _ _ _ _ _ _ _ _ _ _ _)
   | (with_reducible exact ih6 _ _ _ _ _ _ _ _ _ _ _ _ _ _ _ _)
   | (with_reducible exact sentence_spans_1.mono _ _ _ _)
   | (with_reducible exact LeO.refl _)
   | (with_reducible exact LeO.none _)
   | (with_reducible refine LeO.ite ?_ ?_)
   | (with_reducible refine LeO.bind ?_ (fun _=>?_))
   | exact ih0 _ _ _ _ _ _
   | exact ih1 _ _ _ _ _ _ _ _ _ _
   | exact ih2 _ _ _ _ _ _ _ _ _ _ _ _ _ _
   | exact ih3 _ _ _ _ _ _ _ _ _ _ _ _ _
   | exact ih4 _ _ _ _ _ _ _ _ _ _ _ _ _
   | exact ih5 _ _ _ _ _ _ _ _ _ _ _ _ _
   | exact ih6 _ _ _ _ _ _ _ _ _ _ _ _ _ _ _ _
   | exact sentence_spans_1.mono _ _ _ _
   | exact LeO.none _
   | refine LeO.ite ?_ ?_
   | refine LeO.bind ?_ (fun _=>?_)
  ·intro y0 y1 y2 y3 y4 y5 y6 y7 y8 y9 y10 y11 y12 y13 y14 y15
   unfold sentence_spans.l6
   repeat' first
   | (with_reducible exact ih0 _ _ _ _ _ _)
   | (with_reducible exact ih1 _ _ _ _ _ _ _ _ _ _)
   | (with_reducible exact ih2 _ _ _ _ _ _ _ _ _ _ _ _ _ _)
   | (with_reducible exact ih3 _ _ _ _ _ _ _ _ _ _ _ _ _)
   | (with_reducible exact ih4 _ _ _ _ _ _ _ _ _ _ _ _ _)
   | (with_reducible exact ih5 _ _ _ _ _ _ _ _ _ _ _ _ _)
   | (with_reducible exact ih6 _ _ _ _ _ _ _ _ _ _ _ _ _ _ _ _)
   | (with_reducible exact sentence_spans_1.mono _ _ _ _)
   | (with_reducible exact LeO.refl _)
   | (with_reducible exact LeO.none _)
   | (with_reducible refine LeO.ite ?_ ?_)
   | (with_reducible refine LeO.bind ?_ (fun _=>?_))
   | exact ih0 _ _ _ _ _ _
   | exact ih1 _ _ _ _ _ _ _ _ _ _
   | exact ih2 _ _ _ _ _ _ _ _ _ _ _ _ _ _
   | exact ih3 _ _ _ _ _ _ _ _ _ _ _ _ _
   | exact ih4 _ _ _ _ _ _ _ _ _ _ _ _ _
   | exact ih5 _ _ _ _ _ _ _ _ _ _ _ _ _
   | exact ih6 _ _ _ _ _ _ _ _ _ _ _ _ _ _ _ _
   | exact sentence_spans_1.mono _ _ _ _
   | exact LeO.none _
   | refine LeO.ite ?_ ?_
   | refine LeO.bind ?_ (fun _=>?_)
theorem sentence_spans.mono : ∀ a0 a1 k,LeO (sentence_spans.f k a0 a1) (sentence_spans.f (k + 1) a0 a1):=by
 intro a0 a1 k
 obtain ⟨ih0,ih1,ih2,ih3,ih4,ih5,ih6⟩:=sentence_spans.mono_l k
 unfold sentence_spans.f
 repeat' first
   | (with_reducible exact ih0 _ _ _ _ _ _)
   | (with_reducible exact ih1 _ _ _ _ _ _ _ _ _ _)
   | (with_reducible exact ih2 _ _ _ _ _ _ _ _ _ _ _ _ _ _)
   | (with_reducible exact ih3 _ _ _ _ _ _ _ _ _ _ _ _ _)
   | (with_reducible exact ih4 _ _ _ _ _ _ _ _ _ _ _ _ _)
   | (with_reducible exact ih5 _ _ _ _ _ _ _ _ _ _ _ _ _)
   | (with_reducible exact ih6 _ _ _ _ _ _ _ _ _ _ _ _ _ _ _ _)
   | (with_reducible exact sentence_spans_1.mono _ _ _ _)
   | (with_reducible exact LeO.refl _)
   | (with_reducible exact LeO.none _)
   | (with_reducible refine LeO.ite ?_ ?_)
   | (with_reducible refine LeO.bind ?_ (fun _=>?_))
   | exact ih0 _ _ _ _ _ _
   | exact ih1 _ _ _ _ _ _ _ _ _ _
   | exact ih2 _ _ _ _ _ _ _ _ _ _ _ _ _ _
   | exact ih3 _ _ _ _ _ _ _ _ _ _ _ _ _
   | exact ih4 _ _ _ _ _ _ _ _ _ _ _ _ _
   | exact ih5 _ _ _ _ _ _ _ _ _ _ _ _ _
   | exact ih6 _ _ _ _ _ _ _ _ _ _ _ _ _ _ _ _
   | exact sentence_spans_1.mono _ _ _ _
   | exact LeO.none _
   | refine LeO.ite ?_ ?_
   | refine LeO.bind ?_ (fun _=>?_)
def sentence_spans.T23 : Bool × List (List Nat × List Nat):=(true,[([],[]),([],[]),([],[]),([2],[2]),([1,3],[1,3]),([4],[4]),([],[]),([],[]),([7],[7]),([6,8],[6,8]),([9],[9]),([0,5,10],[0,5,10]),([11,11,0,1,2,3,4,5,6,7,8,9,10,11],[11])])
def sentence_spans.B23 : List Nat:=[0,0,0,4,14,30,0,0,128,448,960,2047,4095]
theorem sentence_spans.tab23 : rtab .any (opsOf Try.f74 23) = sentence_spans.T23:=by kernel_rfl
theorem sentence_spans.bits23 : waitsOk sentence_spans.T23.2 sentence_spans.B23 = true:=by kernel_rfl
def sentence_spans.T28 : Bool × List (List Nat × List Nat):=(true,[([],[]),([],[]),([],[]),([],[]),([3],[3]),([2,4],[2,4]),([5],[5]),([],[]),([6,7],[6,7]),([8],[8]),([],[]),([],[]),([11],[11]),([10,12],[10,12]),([13],[13]),([],[]),([14,15],[14,15]),([16],[16]),([9,17],[9,17]),([0,1,0,1,2,3,4,5,6,7,8,9,10,11,12,13,14,15,16,17,18],[0,1]),([19,18,0,1,2,3,4,5,6,7,8,9,10,11,12,13,14,15,16,17,18],[18,19])])
def sentence_spans.B28 : List Nat:=[0,0,0,0,8,28,60,0,252,508,0,0,2048,7168,15360,0,64512,130048,262140,524287,1048575]
theorem sentence_spans.tab28 : rtab .any (opsOf Try.f74 28) = sentence_spans.T28:=by kernel_rfl
theorem sentence_spans.bits28 : waitsOk sentence_spans.T28.2 sentence_spans.B28 = true:=by kernel_rfl
def sentence_spans.T42 : Bool × List (List Nat × List Nat):=(true,[([],[]),([],[]),([0,1],[0,1]),([2],[2]),([],[]),([],[]),([4,5],[4,5]),([6],[6]),([3,7],[3,7]),([0,1,0,1,2,3,4,5,6,7,8],[0,1]),([9,8,0,1,2,3,4,5,6,7,8],[8,9])])
def sentence_spans.B42 : List Nat:=[0,0,3,7,0,0,48,112,255,511,1023]
theorem sentence_spans.tab42 : rtab .any (opsOf Try.f74 42) = sentence_spans.T42:=by kernel_rfl
theorem sentence_spans.bits42 : waitsOk sentence_spans.T42.2 sentence_spans.B42 = true:=by kernel_rfl
set_option maxHeartbeats 8000000 in
set_option maxRecDepth 100000 in
theorem sentence_spans.calls (k : Nat) (A0 : Option Addr) (c0 : Nat) (l0 : List (S128)) (A1 : Option Addr) (c1 : Nat) (l1 : List Int) (r : List (List Int)) (w : World) (hr0 : Kd.C k128 w A0 l0.length l0) (hc0 : l0.length ≤ c0) (hr1 : Kd.C (Kd.int .i64) w A1 l1.length l1) (hc1 : l1.length ≤ c1) (h : sentence_spans.f k l0 l1 = some r) :
  Calls Try.prog 74 #[.slice A0 l0.length c0,.slice A1 l1.length c1] w fun e w'=>∃ v0_ : Value,e = .returned (v0_) ∧ Kd.S (Kd.slice 33 (Kd.int .u32)) 133 w' w.heap.size (fun _=>True) v0_ r ∧ Below w.heap.size w w':=by
 have hu128:=Try.underlying128
 have HR0:=Aside0.mk hr0
 have HC0:=Aside0.mk hc0
 clear hr0 hc0
 have HR1:=Aside0.mk hr1
 have HC1:=Aside0.mk hc1
 clear hr1 hc1
 have HB:=Aside0.mk (Below.refl w.heap.size w)
 have H : (if 0 ≤ (l0.length : Int) then (if ((l0.length : Int) : Int).toNat ≤ 11728124029610 then (sentence_spans.l0 k l1 (List.replicate ((l0.length : Int) : Int).toNat []) l0 (l0.length : Int) 0 (wrap64 ((l1.length : Int) + 1))) else (none)) else (none)) = some r:=h
 clear h
 by_cases c3 : 0 ≤ (l0.length : Int)
 ·rw [if_pos c3] at H
  have c3b0:=eq_true c3
  have c3b1 : decide (0 ≤ (l0.length : Int)) = true:=decide_eq_true c3
  clear c3
  by_cases c4 : ((l0.length : Int) : Int).toNat ≤ 11728124029610
  ·rw [if_pos c4] at H
   have c4b0:=eq_true c4
   have c4b1 : decide (((l0.length : Int) : Int).toNat ≤ 11728124029610) = true:=decide_eq_true c4
   clear c4
   obtain ⟨y135,hy135⟩ : ∃ y_ : List (List Int),y_ = (List.replicate ((l0.length : Int) : Int).toNat []):=⟨_,rfl⟩
   replace H : (sentence_spans.l0 k l1 y135 l0 (l0.length : Int) 0 (wrap64 ((l1.length : Int) + 1))) = some r:=by first|(rw [hy135];with_reducible exact H)|(have H2_:=(Option.bind_some _ _).symm.trans H;rw [hy135];with_reducible exact H2_)|(have H2_:=(Option.bind_some _ _).symm.trans H;with_reducible exact H2_)|with_reducible exact H|(rw [hy135];exact H)|exact H
   have Ny135:=Aside0.mk hy135
   clear hy135
   have H':=Aside0.mk H
   clear H
   go_enter Try.func74,Try.ntmps74
   go_wp2_with (first|((with_reducible refine gate_dst (N:=5) rfl ?_);refine box_event ?hg (N:=5) ?hd (cs:=#[.int .i64 0]) (t:=3) ?hr ?_;(case hd=>rfl);(case hg=>rfl);(case hr=>first|(go_simp;done)|(go_simp;rfl));intro gb134 hg w5 hbox hb;have n0_:=Aside0.mk (below_step (by repeat (first|(with_reducible first|exact HB.out|apply below_alloc|apply pw_below_drewN|apply below_drew1)|exact HB.out)) hb);have n1_:=Aside0.mk (hbox);have n2_:=Aside0.mk ((by rw [hg];exact (below_size (by repeat (first|(with_reducible first|exact HB.out|apply below_alloc|apply pw_below_drewN|apply below_drew1)|exact HB.out))) : w.heap.size ≤ gb134));have n3_:=Aside0.mk ((by rw [hg];exact (below_size (by repeat (first|(with_reducible first|exact HB.out|apply below_alloc|apply pw_below_drewN|apply below_drew1)|exact HB.out))) : w.heap.size ≤ gb134));clear HB;have HB:=n0_;have BK134:=n1_;have GW134:=n2_;have GE134:=n3_;clear n0_ n1_ n2_ n3_;clear hb hbox hg;have hcz6_0 : w5.cell? ⟨gb134,0,none⟩ = some (.int .i64 0):=(blk_cell BK134.out 0).trans rfl;have hfz6_0:=blk_frozen BK134.out 0)|((with_reducible refine gate_dst (N:=23) rfl ?_);refine Kd.S_make (Kd.slice 33 (Kd.int .u32)) _ 133 rfl (N:=23) rfl 134 _ _ rfl (l0.length : Int) rfl rfl Try.underlying134 (.slice none 0 0) 24 info133 rfl (by decide) (by omega) [] (ok:=fun _=>True) (okp:=fun _=>True) ⟨_,rfl,Kd.R_nil _ _ _ _ _⟩ (fun _ hk=>hk) trivial (of_decide_eq_true (by first|(with_reducible assumption)|assumption)) (Nat.le_trans (Nat.mul_le_mul_right _ (of_decide_eq_true (by first|(with_reducible assumption)|assumption) : (l0.length : Int).toNat ≤ 11728124029610)) (by omega)) (Below.refl _ _) (Nat.le_refl _) ?_;intro v136 w7 ho8 hb hg_ hnew_;clear hg_ hnew_;(first|rw [← Ny135.out] at ho8|(simp only [Int.reduceToNat] at ho8;rw [← Ny135.out] at ho8));have n0_:=Aside0.mk (Kd.S_lower ho8 (below_size (by repeat (first|(with_reducible first|exact HB.out|apply below_alloc|apply pw_below_drewN|apply below_drew1|refine below_set ?_ GE134.out)|exact HB.out))));have n1_:=Aside0.mk (blk_below (g:=gb134) (o:=.cells #[.int .i64 (wrap64 ((l1.length : Int) + 1))] 3 (0,0)) (by (with_reducible repeat (first|refine blk_drewN ?_ _|refine blk_drew ?_|refine blk_alloc ?_ _));refine blk_put (cs:=#[.int .i64 0]) ?_ 0 _ rfl;(with_reducible repeat (first|refine blk_drewN ?_ _|refine blk_drew ?_|refine blk_alloc ?_ _));exact BK134.out) hb);have n2_:=Aside0.mk (below_step (by repeat (first|(with_reducible first|exact HB.out|apply below_alloc|apply pw_below_drewN|apply below_drew1|refine below_set ?_ GE134.out)|exact HB.out)) hb);clear BK134;clear HB;have HO137:=n0_;have BK134:=n1_;have HB:=n2_;clear n0_ n1_ n2_;clear hb ho8))
   go_loopg [27] k (fun kq v27 w'=>∃ (x6_1 : List (List Int)) (x27_1 : Int),v27 = .int .i64 x27_1 ∧ Aside0 (sentence_spans.l0 kq l1 x6_1 l0 (l0.length : Int) x27_1 (wrap64 ((l1.length : Int) + 1)) = some r) ∧ Aside0 (kq ≤ k) ∧ Aside0 (Kd.S (Kd.slice 33 (Kd.int .u32)) 133 w' w.heap.size (fun _=>True) v136 x6_1) ∧ Aside0 (w'.heap[gb134]? = some (.cells #[.int .i64 (wrap64 ((l1.length : Int) + 1))] 3 (0,0))) ∧ Aside0 (Below w.heap.size w w'))
   case atStart=>exact ⟨(y135),(0),(by first|rfl|(simp;done)|(simp [*];done)),H',⟨Nat.le_refl _⟩,⟨by (with_reducible repeat (first|apply Kd.S_alloc|apply Kd.S_drewN|apply Kd.S_drew));exact HO137.out⟩,⟨by (with_reducible repeat (first|refine blk_drewN ?_ _|refine blk_drew ?_|refine blk_alloc ?_ _));exact BK134.out⟩,⟨by repeat (first|(with_reducible first|exact HB.out|apply below_alloc|apply pw_below_drewN|apply below_drew1|refine below_set ?_ GE134.out)|exact HB.out)⟩⟩
   case round =>
    clear H'
    try clear c1
    try clear p2
    try clear c3
    try clear c3b0
    try clear c3b1
    try clear c4
    try clear c4b0
    try clear c4b1
    try clear p6
    try clear c7
    try clear hcz6_0
    try clear hfz6_0
    obtain ⟨x6_1,x27_1,rfl,HA,HK1,HO_6,BK134,HB⟩:=hrel
    cases gk with
    | zero=>exact absurd HA.out (by simp [sentence_spans.l0])
    | succ k1 =>
     have H:=HA.out
     clear HA
     simp only [sentence_spans.l0] at H
     by_cases c9 : x27_1 < (l0.length : Int)
     ·rw [if_pos c9] at H
      have c9b0 : decide (x27_1 < (l0.length : Int)) = true:=decide_eq_true c9
      clear c9
      by_cases c10 : 0 ≤ x27_1
      ·rw [if_pos c10] at H
       have c10b0 : decide (0 ≤ x27_1) = true:=decide_eq_true c10
       clear c10
       by_cases c11 : x27_1 < (l0.length : Int)
       ·rw [if_pos c11] at H
        have c11b0 : decide (x27_1 < (l0.length : Int)) = true:=decide_eq_true c11
        clear c11
        obtain ⟨ji12,hji12⟩ : ∃ j_ : Int,(wrap64 ((l1.length : Int) + 1)) = j_:=⟨_,rfl⟩
        replace H : (if 0 ≤ (ji12) then (if ((ji12) : Int).toNat ≤ 70368744177664 then ((some (List.replicate ((ji12) : Int).toNat 0 : List Int)).bind fun y140=>(if ((rd_T128 l0 x27_1).f0) = 2 then (sentence_spans.l1 k1 l1 x6_1 x27_1 y140 l0 (l0.length : Int) x27_1 (y140.length : Int) 0 (ji12)) else (if ((rd_T128 l0 x27_1).f0) = 3 then (sentence_spans.l2 k1 l1 x6_1 x27_1 y140 l0 (l0.length : Int) x27_1 l1 (l1.length : Int) 0 (ji12) ((rd_T128 l0 x27_1).f0) ((rd_T128 l0 x27_1).f1) ((rd_T128 l0 x27_1).f2)) else (if ((rd_T128 l0 x27_1).f0) = 4 then (if 0 ≤ ((rd_T128 l0 x27_1).f1) then (if ((rd_T128 l0 x27_1).f1) < (x6_1.length : Int) then (if 0 ≤ ((rd_T128 l0 x27_1).f2) then (if ((rd_T128 l0 x27_1).f2) < (x6_1.length : Int) then ((sentence_spans_1.f k1 (rd_L4 x6_1 ((rd_T128 l0 x27_1).f1)) (rd_L4 x6_1 ((rd_T128 l0 x27_1).f2)) (ji12)).bind fun t150=>(if x27_1 < (x6_1.length : Int) then (sentence_spans.l0 k1 l1 (x6_1.set (x27_1 : Int).toNat t150) l0 (l0.length : Int) (wrap64 (x27_1 + 1)) (ji12)) else (none))) else (none)) else (none)) else (none)) else (none)) else (if ((rd_T128 l0 x27_1).f0) = 5 then (sentence_spans.l3 k1 l1 x6_1 x27_1 y140 l0 (l0.length : Int) x27_1 (y140.length : Int) 0 (ji12) ((rd_T128 l0 x27_1).f0) ((rd_T128 l0 x27_1).f1) ((rd_T128 l0 x27_1).f2)) else (if ((rd_T128 l0 x27_1).f0) = 6 then (sentence_spans.l4 k1 l1 x6_1 x27_1 y140 l0 (l0.length : Int) x27_1 (y140.length : Int) 0 (ji12) ((rd_T128 l0 x27_1).f0) ((rd_T128 l0 x27_1).f1) ((rd_T128 l0 x27_1).f2)) else (if x27_1 < (x6_1.length : Int) then (sentence_spans.l0 k1 l1 (x6_1.set (x27_1 : Int).toNat y140) l0 (l0.length : Int) (wrap64 (x27_1 + 1)) (ji12)) else (none)))))))) else (none)) else (none)) = some r:=by first|(rw [hji12] at H;exact H)|(simp only [hji12] at H ⊢;exact H)
        (try rw [hji12] at BK134)
        have hji12w : (IntKind.i64.wrap ((l1.length : Int) + 1)) = ji12:=(i64_w _).trans hji12
        by_cases c13 : 0 ≤ (ji12)
        ·rw [if_pos c13] at H
         have c13b0:=eq_true c13
         have c13b1 : decide (0 ≤ (ji12)) = true:=decide_eq_true c13
         clear c13
         by_cases c14 : ((ji12) : Int).toNat ≤ 70368744177664
         ·rw [if_pos c14] at H
          have c14b0:=eq_true c14
          have c14b1 : decide (((ji12) : Int).toNat ≤ 70368744177664) = true:=decide_eq_true c14
          clear c14
          obtain ⟨y140,hy140⟩ : ∃ y_ : List Int,y_ = (List.replicate ((ji12) : Int).toNat 0):=⟨_,rfl⟩
          replace H : (if ((rd_T128 l0 x27_1).f0) = 2 then (sentence_spans.l1 k1 l1 x6_1 x27_1 y140 l0 (l0.length : Int) x27_1 (y140.length : Int) 0 (ji12)) else (if ((rd_T128 l0 x27_1).f0) = 3 then (sentence_spans.l2 k1 l1 x6_1 x27_1 y140 l0 (l0.length : Int) x27_1 l1 (l1.length : Int) 0 (ji12) ((rd_T128 l0 x27_1).f0) ((rd_T128 l0 x27_1).f1) ((rd_T128 l0 x27_1).f2)) else (if ((rd_T128 l0 x27_1).f0) = 4 then (if 0 ≤ ((rd_T128 l0 x27_1).f1) then (if ((rd_T128 l0 x27_1).f1) < (x6_1.length : Int) then (if 0 ≤ ((rd_T128 l0 x27_1).f2) then (if ((rd_T128 l0 x27_1).f2) < (x6_1.length : Int) then ((sentence_spans_1.f k1 (rd_L4 x6_1 ((rd_T128 l0 x27_1).f1)) (rd_L4 x6_1 ((rd_T128 l0 x27_1).f2)) (ji12)).bind fun t150=>(if x27_1 < (x6_1.length : Int) then (sentence_spans.l0 k1 l1 (x6_1.set (x27_1 : Int).toNat t150) l0 (l0.length : Int) (wrap64 (x27_1 + 1)) (ji12)) else (none))) else (none)) else (none)) else (none)) else (none)) else (if ((rd_T128 l0 x27_1).f0) = 5 then (sentence_spans.l3 k1 l1 x6_1 x27_1 y140 l0 (l0.length : Int) x27_1 (y140.length : Int) 0 (ji12) ((rd_T128 l0 x27_1).f0) ((rd_T128 l0 x27_1).f1) ((rd_T128 l0 x27_1).f2)) else (if ((rd_T128 l0 x27_1).f0) = 6 then (sentence_spans.l4 k1 l1 x6_1 x27_1 y140 l0 (l0.length : Int) x27_1 (y140.length : Int) 0 (ji12) ((rd_T128 l0 x27_1).f0) ((rd_T128 l0 x27_1).f1) ((rd_T128 l0 x27_1).f2)) else (if x27_1 < (x6_1.length : Int) then (sentence_spans.l0 k1 l1 (x6_1.set (x27_1 : Int).toNat y140) l0 (l0.length : Int) (wrap64 (x27_1 + 1)) (ji12)) else (none))))))) = some r:=by first|(rw [hy140];with_reducible exact H)|(have H2_:=(Option.bind_some _ _).symm.trans H;rw [hy140];with_reducible exact H2_)|(have H2_:=(Option.bind_some _ _).symm.trans H;with_reducible exact H2_)|with_reducible exact H|(rw [hy140];exact H)|exact H
          have Ny140:=Aside0.mk hy140
          clear hy140
          by_cases c15 : ((rd_T128 l0 x27_1).f0) = 2
          ·rw [if_pos c15] at H
           have c15b0 : (((rd_T128 l0 x27_1).f0) == 2) = true:=beq_iff_eq.mpr c15
           have c15b1 : (((rd_T128 l0 x27_1).f0) != 2) = false:=bne_eq_false_iff_eq.mpr c15
           clear c15
           have H':=Aside0.mk H
           clear H
           have p138 : 0 ≤ (x27_1 : Int):=of_decide_eq_true (by first|(with_reducible assumption)|assumption)
           have q138 : x27_1 < (l0.length : Int):=of_decide_eq_true (by first|(with_reducible assumption)|assumption)
           obtain ⟨ad138,e138,hx138_0,hx138_1,hx138_2⟩:=at_T128 HR0.out x27_1 p138 q138
           cases e138
           replace hx138_0:=(HB.out.cell (World.block_lt_of_cell? w _ hx138_0)).trans hx138_0
           replace hx138_1:=(HB.out.cell (World.block_lt_of_cell? w _ hx138_1)).trans hx138_1
           replace hx138_2:=(HB.out.cell (World.block_lt_of_cell? w _ hx138_2)).trans hx138_2
           replace p138:=eq_true p138
           replace q138:=eq_true q138
           go_wp2_with (first|((with_reducible refine gate_dst (N:=9) rfl ?_);refine box_event ?hg (N:=9) ?hd (cs:=#[.int .i64 0,.int .i64 0,.int .i64 0]) (t:=128) ?hr ?_;(case hd=>rfl);(case hg=>rfl);(case hr=>first|(go_simp;done)|(go_simp;rfl));intro gb139 hg w16 hbox hb;have n0_:=Aside0.mk (Kd.S_below (by (with_reducible repeat (first|apply Kd.S_alloc|apply Kd.S_drewN|apply Kd.S_drew));exact HO_6.out) hb);have n1_:=Aside0.mk (blk_below (g:=gb134) (o:=.cells #[.int .i64 (ji12)] 3 (0,0)) (by (with_reducible repeat (first|refine blk_drewN ?_ _|refine blk_drew ?_|refine blk_alloc ?_ _));exact BK134.out) hb);have n2_:=Aside0.mk (below_step (by repeat (first|(with_reducible first|exact HB.out|apply below_alloc|apply pw_below_drewN|apply below_drew1|refine below_set ?_ GE134.out)|exact HB.out)) hb);have n3_:=Aside0.mk (hbox);have n4_:=Aside0.mk ((by rw [hg];exact (below_size (by repeat (first|(with_reducible first|exact HB.out|apply below_alloc|apply pw_below_drewN|apply below_drew1|refine below_set ?_ GE134.out)|exact HB.out))) : w.heap.size ≤ gb139));have n5_:=Aside0.mk ((by rw [hg];exact (below_size (by repeat (first|(with_reducible first|exact HB.out|apply below_alloc|apply pw_below_drewN|apply below_drew1|refine below_set ?_ GE134.out)|exact HB.out))) : w.heap.size ≤ gb139));have n6_:=Aside0.mk ((by rw [hg];exact Nat.ne_of_lt (blk_lt (g:=gb134) (o:=.cells #[.int .i64 (ji12)] 3 (0,0)) (by (with_reducible repeat (first|refine blk_drewN ?_ _|refine blk_drew ?_|refine blk_alloc ?_ _));exact BK134.out)) : gb134 ≠ gb139));have n7_:=Aside0.mk ((by rw [hg];exact Nat.ne_of_gt (blk_lt (g:=gb134) (o:=.cells #[.int .i64 (ji12)] 3 (0,0)) (by (with_reducible repeat (first|refine blk_drewN ?_ _|refine blk_drew ?_|refine blk_alloc ?_ _));exact BK134.out)) : gb139 ≠ gb134));clear HO_6;clear BK134;clear HB;have HO_6:=n0_;have BK134:=n1_;have HB:=n2_;have BK139:=n3_;have GW139:=n4_;have GE139:=n5_;have NB134_139:=n6_;have NB139_134:=n7_;clear n0_ n1_ n2_ n3_ n4_ n5_ n6_ n7_;clear hb hbox hg;have hnb17:=NB139_134.out;have hnc17:=NB134_139.out;have hcz18_0 : w16.cell? ⟨gb139,0,none⟩ = some (.int .i64 0):=(blk_cell BK139.out 0).trans rfl;have hcz18_1 : w16.cell? ⟨gb139,1,none⟩ = some (.int .i64 0):=(blk_cell BK139.out 1).trans rfl;have hcz18_2 : w16.cell? ⟨gb139,2,none⟩ = some (.int .i64 0):=(blk_cell BK139.out 2).trans rfl;have hfz18_0:=blk_frozen BK139.out 0;have hfz18_1:=blk_frozen BK139.out 1;have hfz18_2:=blk_frozen BK139.out 2;have hcz19_0 : w16.cell? ⟨gb134,0,none⟩ = some (.int .i64 (ji12)):=(blk_cell BK134.out 0).trans rfl;have hfz19_0:=blk_frozen BK134.out 0)|((with_reducible refine gate_dst (N:=33) rfl ?_);refine Kd.R_make (Kd.int .u32) _ 33 rfl (N:=33) rfl 133 _ _ rfl (ji12) rfl rfl Try.underlying133 (.int .u32 0) 4 info33 rfl (by decide) (by omega) 0 (ok:=fun _=>True) (okp:=fun _=>True) rfl (fun _ hk=>hk) trivial (of_decide_eq_true (by first|(with_reducible assumption)|assumption)) (Nat.le_trans (Nat.mul_le_mul_right _ (of_decide_eq_true (by first|(with_reducible assumption)|assumption) : (ji12).toNat ≤ 70368744177664)) (by omega)) (Below.refl _ _) (Nat.le_refl _) ?_;intro v141 w20 ho21 hb hg_ hnew_;clear hg_ hnew_;(first|rw [← Ny140.out] at ho21|(simp only [Int.reduceToNat] at ho21;rw [← Ny140.out] at ho21));have n0_:=Aside0.mk (Kd.S_elder' (by (with_reducible repeat (first|apply Kd.S_alloc|apply Kd.S_drewN|apply Kd.S_drew));exact (Kd.S_mono (Kd.S_far (p:=⟨gb139,2,none⟩) (Kd.S_far (p:=⟨gb139,1,none⟩) (Kd.S_far (p:=⟨gb139,0,none⟩) (Kd.S_types HO_6.out BK139.out (by decide)) (fun _ hk=>hk.2) (.int .i64 ((rd_T128 l0 x27_1).f0))) (fun _ hk=>hk.2) (.int .i64 ((rd_T128 l0 x27_1).f1))) (fun _ hk=>hk.2) (.int .i64 ((rd_T128 l0 x27_1).f2))) (fun _ h_=>h_.1))) (Kd.R_base ho21) hb);have n1_:=Aside0.mk (Kd.R_lower ho21 (below_size (by repeat (first|(with_reducible first|exact HB.out|apply below_alloc|apply pw_below_drewN|apply below_drew1|refine below_set ?_ GE134.out|refine below_set ?_ GE139.out)|exact HB.out))));have n2_:=Aside0.mk (blk_below (g:=gb134) (o:=.cells #[.int .i64 (ji12)] 3 (0,0)) (by (with_reducible repeat (first|refine blk_drewN ?_ _|refine blk_drew ?_|refine blk_alloc ?_ _));refine blk_far ?_ NB134_139.out _;(with_reducible repeat (first|refine blk_drewN ?_ _|refine blk_drew ?_|refine blk_alloc ?_ _));refine blk_far ?_ NB134_139.out _;(with_reducible repeat (first|refine blk_drewN ?_ _|refine blk_drew ?_|refine blk_alloc ?_ _));refine blk_far ?_ NB134_139.out _;(with_reducible repeat (first|refine blk_drewN ?_ _|refine blk_drew ?_|refine blk_alloc ?_ _));exact BK134.out) hb);have n3_:=Aside0.mk (blk_below (g:=gb139) (o:=.cells #[.int .i64 ((rd_T128 l0 x27_1).f0),.int .i64 ((rd_T128 l0 x27_1).f1),.int .i64 ((rd_T128 l0 x27_1).f2)] 128 (0,0)) (by (with_reducible repeat (first|refine blk_drewN ?_ _|refine blk_drew ?_|refine blk_alloc ?_ _));refine blk_put (cs:=#[.int .i64 ((rd_T128 l0 x27_1).f0),.int .i64 ((rd_T128 l0 x27_1).f1),.int .i64 0]) ?_ 2 _ rfl;(with_reducible repeat (first|refine blk_drewN ?_ _|refine blk_drew ?_|refine blk_alloc ?_ _));refine blk_put (cs:=#[.int .i64 ((rd_T128 l0 x27_1).f0),.int .i64 0,.int .i64 0]) ?_ 1 _ rfl;(with_reducible repeat (first|refine blk_drewN ?_ _|refine blk_drew ?_|refine blk_alloc ?_ _));refine blk_put (cs:=#[.int .i64 0,.int .i64 0,.int .i64 0]) ?_ 0 _ rfl;(with_reducible repeat (first|refine blk_drewN ?_ _|refine blk_drew ?_|refine blk_alloc ?_ _));exact BK139.out) hb);have n4_:=Aside0.mk (below_step (by repeat (first|(with_reducible first|exact HB.out|apply below_alloc|apply pw_below_drewN|apply below_drew1|refine below_set ?_ GE134.out|refine below_set ?_ GE139.out)|exact HB.out)) hb);clear HO_6;clear BK134;clear BK139;clear HB;have HO_6:=n0_;have HO142:=n1_;have BK134:=n2_;have BK139:=n3_;have HB:=n4_;clear n0_ n1_ n2_ n3_ n4_;clear hb ho21;have hcz22_0 : w20.cell? ⟨gb139,0,none⟩ = some (.int .i64 ((rd_T128 l0 x27_1).f0)):=(blk_cell BK139.out 0).trans rfl;have hcz22_1 : w20.cell? ⟨gb139,1,none⟩ = some (.int .i64 ((rd_T128 l0 x27_1).f1)):=(blk_cell BK139.out 1).trans rfl;have hcz22_2 : w20.cell? ⟨gb139,2,none⟩ = some (.int .i64 ((rd_T128 l0 x27_1).f2)):=(blk_cell BK139.out 2).trans rfl;have hfz22_0:=blk_frozen BK139.out 0;have hfz22_1:=blk_frozen BK139.out 1;have hfz22_2:=blk_frozen BK139.out 2;obtain ⟨Ao23,co23,eo23⟩:=Kd.R_slice HO142.out;subst eo23))
           go_loopg [40] k1 (fun kq v40 w'=>∃ (x10_2 : List Int) (x40_2 : Int),v40 = .int .i64 x40_2 ∧ Aside0 (sentence_spans.l1 kq l1 x6_1 x27_1 x10_2 l0 (l0.length : Int) x27_1 (y140.length : Int) x40_2 (ji12) = some r) ∧ Aside0 (kq ≤ k1) ∧ Aside0 (Kd.S (Kd.slice 33 (Kd.int .u32)) 133 w' w.heap.size (fun k_=>some k_ ≠ ((.slice Ao23 y140.length co23) : Value).ownBlock) v136 x6_1) ∧ Aside0 (Kd.R (Kd.int .u32) 33 w' w.heap.size (fun _=>True) (.slice Ao23 y140.length co23) x10_2) ∧ Aside0 (w'.heap[gb134]? = some (.cells #[.int .i64 (ji12)] 3 (0,0))) ∧ Aside0 (w'.heap[gb139]? = some (.cells #[.int .i64 ((rd_T128 l0 x27_1).f0),.int .i64 ((rd_T128 l0 x27_1).f1),.int .i64 ((rd_T128 l0 x27_1).f2)] 128 (0,0))) ∧ Aside0 (Below w.heap.size w w'))
           case atStart=>exact ⟨(y140),(0),(by first|rfl|(simp;done)|(simp [*];done)),H',⟨Nat.le_refl _⟩,⟨by (with_reducible repeat (first|apply Kd.S_alloc|apply Kd.S_drewN|apply Kd.S_drew));exact Kd.S_mono HO_6.out (fun _ hk=>hk.2)⟩,⟨by (with_reducible repeat (first|apply Kd.R_alloc|apply Kd.R_drewN|apply Kd.R_drew));exact HO142.out⟩,⟨by (with_reducible repeat (first|refine blk_drewN ?_ _|refine blk_drew ?_|refine blk_alloc ?_ _));exact BK134.out⟩,⟨by (with_reducible repeat (first|refine blk_drewN ?_ _|refine blk_drew ?_|refine blk_alloc ?_ _));exact BK139.out⟩,⟨by repeat (first|(with_reducible first|exact HB.out|apply below_alloc|apply pw_below_drewN|apply below_drew1|refine below_set ?_ GE134.out|refine below_set ?_ GE139.out)|exact HB.out)⟩⟩
           case round =>
            clear H'
            try clear c1
            try clear p1
            try clear q1
            try clear hx1
            try clear p2
            try clear c3
            try clear c3b0
            try clear c3b1
            try clear c4
            try clear c4b0
            try clear c4b1
            try clear p6
            try clear c7
            try clear c9
            try clear c9b0
            try clear c10
            try clear c10b0
            try clear c11
            try clear c11b0
            try clear c13
            try clear c13b0
            try clear c13b1
            try clear p13
            try clear q13
            try clear hx13
            try clear c14
            try clear c14b0
            try clear c14b1
            try clear c15
            try clear c15b0
            try clear c15b1
            try clear c17
            try clear hcz18_0
            try clear hcz18_1
            try clear hcz18_2
            try clear hcz19_0
            try clear hcz22_0
            try clear hcz22_1
            try clear hcz22_2
            try clear hcz6_0
            try clear hfz18_0
            try clear hfz18_1
            try clear hfz18_2
            try clear hfz19_0
            try clear hfz22_0
            try clear hfz22_1
            try clear hfz22_2
            try clear hfz6_0
            try clear hx138_0
            try clear hx138_1
            try clear hx138_2
            try clear p138
            try clear p2
            try clear p6
            try clear q138
            obtain ⟨x10_2,x40_2,rfl,HA,HK2,HO_6,HO_10,BK134,BK139,HB⟩:=hrel
            have hl10_2:=(Kd.R_reads' HO_10.out).1
            rw [hl10_2] at HO_10
            (try simp only [hl10_2])
            (try simp only [hl10_2] at BK134)
            (try simp only [hl10_2] at BK139)
            (try simp only [hl10_2] at HO_6)
            cases gk with
            | zero=>exact absurd HA.out (by simp [sentence_spans.l1])
            | succ k2 =>
             have H:=HA.out
             clear HA
             simp only [sentence_spans.l1] at H
             by_cases c24 : x40_2 < (y140.length : Int)
             ·rw [if_pos c24] at H
              have c24b0 : decide (x40_2 < (y140.length : Int)) = true:=decide_eq_true c24
              (try (have c24b0h:=c24b0;simp only [hl10_2] at c24b0h))
              clear c24
              by_cases c25 : 0 ≤ x40_2
              ·rw [if_pos c25] at H
               have c25b0:=eq_true c25
               have c25b1 : decide (0 ≤ x40_2) = true:=decide_eq_true c25
               clear c25
               obtain ⟨ji26,hji26⟩ : ∃ j_ : Int,(shl .u32 1 x40_2) = j_:=⟨_,rfl⟩
               replace H : (if x40_2 < (x10_2.length : Int) then (sentence_spans.l1 k2 l1 x6_1 x27_1 (x10_2.set (x40_2 : Int).toNat (ji26)) l0 (l0.length : Int) x27_1 (y140.length : Int) (wrap64 (x40_2 + 1)) (ji12)) else (none)) = some r:=by first|(rw [hji26] at H;exact H)|(simp only [hji26] at H ⊢;exact H)
               have hji26_ : (IntKind.u32.wrap (1 * 2 ^ min x40_2.toNat 32)) = ji26:=hji26
               have hji26z : x40_2 ≤ 32 → (IntKind.u32.wrap (1 * 2 ^ x40_2.toNat)) = ji26:=shl_small hji26
               have hji26u : (IntKind.u32.wrap (2 ^ min x40_2.toNat 32)) = ji26:=by have h_:=hji26_;rw [Int.one_mul] at h_;exact h_
               have hji26v : x40_2 ≤ 32 → (IntKind.u32.wrap (2 ^ x40_2.toNat)) = ji26:=fun hle_=>by have h_:=hji26z hle_;rw [Int.one_mul] at h_;exact h_
               by_cases c27 : x40_2 < (x10_2.length : Int)
               ·rw [if_pos c27] at H
                have c27b0 : decide (x40_2 < (x10_2.length : Int)) = true:=decide_eq_true c27
                (try (have c27b0h:=c27b0;simp only [hl10_2] at c27b0h))
                clear c27
                obtain ⟨y143,hy143⟩ : ∃ y_ : List Int,y_ = (x10_2.set (x40_2 : Int).toNat (ji26)):=⟨_,rfl⟩
                replace H : (sentence_spans.l1 k2 l1 x6_1 x27_1 y143 l0 (l0.length : Int) x27_1 (y140.length : Int) (wrap64 (x40_2 + 1)) (ji12)) = some r:=by first|(rw [hy143];with_reducible exact H)|(have H2_:=(Option.bind_some _ _).symm.trans H;rw [hy143];with_reducible exact H2_)|(have H2_:=(Option.bind_some _ _).symm.trans H;with_reducible exact H2_)|with_reducible exact H|(rw [hy143];exact H)|exact H
                have Ny143:=Aside0.mk hy143
                clear hy143
                have H':=Aside0.mk H
                clear H
                have p28 : 0 ≤ (x40_2 : Int):=of_decide_eq_true (by first|(with_reducible assumption)|assumption)
                have q28 : (x40_2 : Int) < ((x10_2.length : Int) : Int):=of_decide_eq_true (by first|(with_reducible assumption)|assumption)
                obtain ⟨go28,co28,eo28,gb28,gl28,cl28,HG28⟩:=Kd.R_form HO_10.out (by omega)
                (first|cases eo28|(injection eo28 with ea_ en_ ec_;(first|subst ea_|(injection ea_ with ea_;subst ea_));subst ec_;clear en_))
                have GB28:=Aside0.mk gb28
                have GG28:=Aside0.mk HG28
                clear gb28 gl28 HG28
                obtain ⟨hx28_0,hf28_0⟩:=Kd.R_celln 0 HO_10.out (x40_2 : Int) p28 q28
                replace p28:=eq_true p28
                replace q28:=eq_true q28
                have HP29:=Kd.R_putg HO_10.out (x40_2 : Int) ji26
                go_wp2_with (first|((with_reducible refine gate_store (t:=33) (p:=47) rfl ?_);refine store_event (t:=33) (p:=47) (v:=?vo_w30) (w1:=(wr.setCell ⟨go28,(x40_2 : Int).toNat,none⟩ (.int .u32 ji26))) ?hg ?ho ?hn ?hr ?_;(case ho=>rfl);(case hg=>rfl);(case hn=>rfl);(case hr=>first|(go_simp;done)|(go_simp;rfl));intro w30 hw;have hg : wr.grownBy w30 (some go28):=(by rw [hw];exact HP29.2);have hp_ : Kd.R (Kd.int .u32) 33 w30 w.heap.size (fun _=>True) (.slice (some ⟨go28,0,none⟩) x10_2.length co23) y143:=(by rw [hw,Ny143.out];exact HP29.1);clear HP29;have n0_:=Aside0.mk (Kd.S_after (v:=(.slice (some ⟨go28,0,none⟩) x10_2.length co23)) (v1:=(.slice (some ⟨go28,0,none⟩) x10_2.length co23)) (ok:=(fun _=>True)) (by (with_reducible repeat (first|apply Kd.S_alloc|apply Kd.S_drewN|apply Kd.S_drew));exact Kd.S_mono HO_6.out (fun _ hk=>⟨trivial,hk⟩)) hg (.inl rfl));have n1_:=Aside0.mk (hp_);have n2_:=Aside0.mk (blk_grown (g:=gb134) (o:=.cells #[.int .i64 (ji12)] 3 (0,0)) (by (with_reducible repeat (first|refine blk_drewN ?_ _|refine blk_drew ?_|refine blk_alloc ?_ _));exact BK134.out) hg (Kd.R_ne HO_10.out BK134.out (by decide)));have n3_:=Aside0.mk (blk_grown (g:=gb139) (o:=.cells #[.int .i64 ((rd_T128 l0 x27_1).f0),.int .i64 ((rd_T128 l0 x27_1).f1),.int .i64 ((rd_T128 l0 x27_1).f2)] 128 (0,0)) (by (with_reducible repeat (first|refine blk_drewN ?_ _|refine blk_drew ?_|refine blk_alloc ?_ _));exact BK139.out) hg (Kd.R_ne HO_10.out BK139.out (by decide)));have n4_:=Aside0.mk ((by rw [hw];exact below_set (HB.out) GB28.out : Below w.heap.size w w30));clear HO_6;clear HO_10;clear BK134;clear BK139;clear HB;have HO_6:=n0_;have HO_10:=n1_;have BK134:=n2_;have BK139:=n3_;have HB:=n4_;clear n0_ n1_ n2_ n3_ n4_;clear hg hw hp_))
                (try simp only [← hl10_2])
                first|go_roundg k2|((simp only [← hji12,← hji26]);go_roundg k2)
                case measure=>have:=HK1.out;have:=HK2.out;omega
                case rel=>exact ⟨(y143),(wrap64 (x40_2 + 1)),(by first|rfl|(simp;done)|(simp [*];done)),(by first|exact H'|((simp only [hji12,hji26]);exact H')|(have h_:=H'.out;simp only [← hji12,← hji26] at h_ ⊢;exact ⟨h_⟩)),⟨by have:=HK1.out;have:=HK2.out;omega⟩,⟨by (try simp only [hl10_2]);(with_reducible repeat (first|apply Kd.S_alloc|apply Kd.S_drewN|apply Kd.S_drew));exact Kd.S_mono HO_6.out (fun _ hk=>hk.2)⟩,⟨by (try simp only [hl10_2]);(with_reducible repeat (first|apply Kd.R_alloc|apply Kd.R_drewN|apply Kd.R_drew));exact HO_10.out⟩,⟨by (try simp only [hl10_2]);(with_reducible repeat (first|refine blk_drewN ?_ _|refine blk_drew ?_|refine blk_alloc ?_ _));(first|exact BK134.out|(have h_:=BK134.out;simp only [← hji12,← hji26] at h_;exact h_))⟩,⟨by (try simp only [hl10_2]);(with_reducible repeat (first|refine blk_drewN ?_ _|refine blk_drew ?_|refine blk_alloc ?_ _));(first|exact BK139.out|(have h_:=BK139.out;simp only [← hji12,← hji26] at h_;exact h_))⟩,⟨by repeat (first|(with_reducible first|exact HB.out|apply below_alloc|apply pw_below_drewN|apply below_drew1|refine below_set ?_ GE134.out|refine below_set ?_ GE139.out)|exact HB.out)⟩⟩
               ·rw [if_neg c27] at H
                exact absurd H (by simp)
              ·rw [if_neg c25] at H
               exact absurd H (by simp)
             ·rw [if_neg c24] at H
              have c24b0 : decide (x40_2 < (y140.length : Int)) = false:=decide_eq_false c24
              (try (have c24b0h:=c24b0;simp only [hl10_2] at c24b0h))
              clear c24
              by_cases c31 : 0 ≤ x27_1
              ·rw [if_pos c31] at H
               have c31b0 : decide (0 ≤ x27_1) = true:=decide_eq_true c31
               clear c31
               by_cases c32 : x27_1 < (x6_1.length : Int)
               ·rw [if_pos c32] at H
                have c32b0 : decide (x27_1 < (x6_1.length : Int)) = true:=decide_eq_true c32
                (try (have c32b0h:=c32b0;simp only [hl10_2] at c32b0h))
                clear c32
                obtain ⟨y144,hy144⟩ : ∃ y_ : List (List Int),y_ = (x6_1.set (x27_1 : Int).toNat x10_2):=⟨_,rfl⟩
                replace H : (sentence_spans.l0 k2 l1 y144 l0 (l0.length : Int) (wrap64 (x27_1 + 1)) (ji12)) = some r:=by first|(rw [hy144];with_reducible exact H)|(have H2_:=(Option.bind_some _ _).symm.trans H;rw [hy144];with_reducible exact H2_)|(have H2_:=(Option.bind_some _ _).symm.trans H;with_reducible exact H2_)|with_reducible exact H|(rw [hy144];exact H)|exact H
                have Ny144:=Aside0.mk hy144
                clear hy144
                have H':=Aside0.mk H
                clear H
                have p33 : 0 ≤ (x27_1 : Int):=of_decide_eq_true (by first|(with_reducible assumption)|assumption)
                have q33 : (x27_1 : Int) < ((x6_1.length : Int) : Int):=of_decide_eq_true (by first|(with_reducible assumption)|assumption)
                obtain ⟨go33,co33,eo33,gb33,gl33,cl33,HG33⟩:=Kd.S_form HO_6.out (by omega)
                (first|cases eo33|(injection eo33 with ea_ en_ ec_;(first|subst ea_|(injection ea_ with ea_;subst ea_));subst ec_;clear en_))
                have GB33:=Aside0.mk gb33
                have GG33:=Aside0.mk HG33
                clear gb33 gl33 HG33
                obtain ⟨_,ce33,hcl33,hM33,hcc33,hfr33,_,_⟩:=Kd.S_elem HO_6.out [] (x27_1 : Int) p33 q33
                obtain ⟨ve33_0,rfl,ge33_0⟩:=id hM33
                have hx33_0:=hcc33 0 _ rfl
                have hf33_0:=hfr33 0
                (try simp only [show ((Kd.slice 33 (Kd.int .u32))).sz = 1 from rfl,Nat.mul_one,Nat.add_zero] at hx33_0)
                (try simp only [show ((Kd.slice 33 (Kd.int .u32))).sz = 1 from rfl,Nat.mul_one,Nat.add_zero] at hf33_0)
                clear hcl33 hcc33 hfr33 hM33
                replace p33:=eq_true p33
                replace q33:=eq_true q33
                have HX34:=Aside0.mk (show Kd.S (Kd.slice 33 (Kd.int .u32)) 133 wr w.heap.size (fun k_=>((fun _=>True)) k_ ∧ ¬ ((fun k_=>some k_ = (.slice Ao23 x10_2.length co23 : Value).ownBlock)) k_) (.slice (some ⟨go33,0,none⟩) x6_1.length co33) x6_1 from (by (with_reducible repeat (first|apply Kd.S_alloc|apply Kd.S_drewN|apply Kd.S_drew));exact Kd.S_mono HO_6.out (fun k_ hk=>⟨trivial,fun e_=>hk e_⟩)))
                obtain ⟨oki34,ce34,hcl34,hM34,hcc34,hfr34,hoki34,hH34⟩:=Kd.S_elem HX34.out [] (x27_1 : Int) (of_decide_eq_true (by first|(with_reducible assumption)|assumption)) (by have h_ : (x27_1 : Int) < ((x6_1.length : Int) : Int):=of_decide_eq_true (by first|(with_reducible assumption)|assumption);first|exact h_|(have e_:=(Kd.S_reads' HO_6.out).1;omega)|simpa using h_)
                obtain ⟨ve34_0,rfl,ge34_0⟩:=id hM34
                have HP34:=Kd.S_seg hH34 (of_decide_eq_true (by first|(with_reducible assumption)|assumption)) (by have h_ : (x27_1 : Int) < ((x6_1.length : Int) : Int):=of_decide_eq_true (by first|(with_reducible assumption)|assumption);first|exact h_|(have e_:=(Kd.S_reads' HO_6.out).1;omega)|simpa using h_) (seg:=[.slice Ao23 x10_2.length co23]) (j:=0) (show 1 ≤ 1 from by decide) (x':=x10_2) (Kd.M_row (Kd.R_mono (Kd.R_tight rfl (Kd.R_mono (ok':=fun k_=>((fun _=>True)) k_ ∧ k_ ≠ go33) (Kd.R_apart' (HO_10.out) (Kd.S_typed HO_6.out) (by decide)) (fun k_ hk=>⟨trivial,fun e_=>(hk.2) (by rw [e_];rfl)⟩))) (fun _ h_=>Or.inr (h_)))) (fun _ hk=>hk) (fun k_ hk_=>((Kd.R_mono (ok':=fun k_=>((fun _=>True)) k_ ∧ k_ ≠ go33) (Kd.R_apart' (HO_10.out) (Kd.S_typed HO_6.out) (by decide)) (fun k_ hk=>⟨trivial,fun e_=>(hk.2) (by rw [e_];rfl)⟩))).1 k_ hk_.symm)
                have hx34_0:=hcc34 0 _ rfl
                (try simp only [show ((Kd.slice 33 (Kd.int .u32))).sz = 1 from rfl,Nat.mul_one,Nat.add_zero] at hx34_0)
                have hf34_0:=hfr34 0
                (try simp only [show ((Kd.slice 33 (Kd.int .u32))).sz = 1 from rfl,Nat.mul_one,Nat.add_zero] at hf34_0)
                clear hcl34 hcc34 hfr34 hM34 hoki34 hH34
                (try simp only [show ((Kd.slice 33 (Kd.int .u32))).sz = 1 from rfl,Nat.mul_one,Nat.add_zero] at HP34)
                go_wp2_with (first|((with_reducible refine gate_store (t:=133) (p:=155) rfl ?_);refine store_event (t:=133) (p:=155) (v:=?vo_w35) (w1:=(wr.setCell ⟨go33,(x27_1 : Int).toNat,none⟩ (.slice Ao23 x10_2.length co23))) ?hg ?ho ?hn ?hr ?_;(case ho=>rfl);(case hg=>rfl);(case hn=>rfl);(case hr=>first|(go_simp;done)|(go_simp;rfl));intro w35 hw;have hg : wr.grownBy w35 (some go33):=(by rw [hw];exact HP34.2);have hp_ : Kd.S (Kd.slice 33 (Kd.int .u32)) 133 w35 w.heap.size (fun _=>True) (.slice (some ⟨go33,0,none⟩) x6_1.length co33) y144:=(by rw [hw,Ny144.out];exact HP34.1);clear HP34;have n0_:=Aside0.mk (hp_);have n1_:=Aside0.mk (blk_grown (g:=gb134) (o:=.cells #[.int .i64 (ji12)] 3 (0,0)) (by (with_reducible repeat (first|refine blk_drewN ?_ _|refine blk_drew ?_|refine blk_alloc ?_ _));exact BK134.out) hg (Kd.S_ne HO_6.out BK134.out (by decide)));have n2_:=Aside0.mk (blk_grown (g:=gb139) (o:=.cells #[.int .i64 ((rd_T128 l0 x27_1).f0),.int .i64 ((rd_T128 l0 x27_1).f1),.int .i64 ((rd_T128 l0 x27_1).f2)] 128 (0,0)) (by (with_reducible repeat (first|refine blk_drewN ?_ _|refine blk_drew ?_|refine blk_alloc ?_ _));exact BK139.out) hg (Kd.S_ne HO_6.out BK139.out (by decide)));have n3_:=Aside0.mk ((by rw [hw];exact below_set (HB.out) GB33.out : Below w.heap.size w w35));clear HO_6;clear BK134;clear BK139;clear HB;clear HO_10;have HO_6:=n0_;have BK134:=n1_;have BK139:=n2_;have HB:=n3_;clear n0_ n1_ n2_ n3_;clear hg hw hp_))
                (try simp only [← hl10_2])
                first|go_roundg k2|((simp only [← hji12]);go_roundg k2)
                case measure=>have:=HK1.out;have:=HK2.out;omega
                case rel=>exact ⟨(y144),(wrap64 (x27_1 + 1)),(by first|rfl|(simp;done)|(simp [*];done)),(by first|exact H'|((simp only [hji12]);exact H')|(have h_:=H'.out;simp only [← hji12] at h_ ⊢;exact ⟨h_⟩)),⟨by have:=HK1.out;have:=HK2.out;omega⟩,⟨by (try simp only [hl10_2]);(with_reducible repeat (first|apply Kd.S_alloc|apply Kd.S_drewN|apply Kd.S_drew));exact HO_6.out⟩,⟨by (try simp only [hl10_2]);(with_reducible repeat (first|refine blk_drewN ?_ _|refine blk_drew ?_|refine blk_alloc ?_ _));(first|exact BK134.out|(have h_:=BK134.out;simp only [← hji12] at h_;exact h_))⟩,⟨by repeat (first|(with_reducible first|exact HB.out|apply below_alloc|apply pw_below_drewN|apply below_drew1|refine below_set ?_ GE134.out|refine below_set ?_ GE139.out)|exact HB.out)⟩⟩
               ·rw [if_neg c32] at H
                exact absurd H (by simp)
              ·rw [if_neg c31] at H
               exact absurd H (by simp)
          ·rw [if_neg c15] at H
           have c15b0 : (((rd_T128 l0 x27_1).f0) == 2) = false:=beq_eq_false_iff_ne.mpr c15
           have c15b1 : (((rd_T128 l0 x27_1).f0) != 2) = true:=bne_iff_ne.mpr c15
           by_cases c36 : ((rd_T128 l0 x27_1).f0) = 3
           ·rw [if_pos c36] at H
            have c36b0 : (((rd_T128 l0 x27_1).f0) == 3) = true:=beq_iff_eq.mpr c36
            have c36b1 : (((rd_T128 l0 x27_1).f0) != 3) = false:=bne_eq_false_iff_eq.mpr c36
            clear c36
            have H':=Aside0.mk H
            clear H
            have p138 : 0 ≤ (x27_1 : Int):=of_decide_eq_true (by first|(with_reducible assumption)|assumption)
            have q138 : x27_1 < (l0.length : Int):=of_decide_eq_true (by first|(with_reducible assumption)|assumption)
            obtain ⟨ad138,e138,hx138_0,hx138_1,hx138_2⟩:=at_T128 HR0.out x27_1 p138 q138
            cases e138
            replace hx138_0:=(HB.out.cell (World.block_lt_of_cell? w _ hx138_0)).trans hx138_0
            replace hx138_1:=(HB.out.cell (World.block_lt_of_cell? w _ hx138_1)).trans hx138_1
            replace hx138_2:=(HB.out.cell (World.block_lt_of_cell? w _ hx138_2)).trans hx138_2
            replace p138:=eq_true p138
            replace q138:=eq_true q138
            go_wp2_with (first|((with_reducible refine gate_dst (N:=9) rfl ?_);refine box_event ?hg (N:=9) ?hd (cs:=#[.int .i64 0,.int .i64 0,.int .i64 0]) (t:=128) ?hr ?_;(case hd=>rfl);(case hg=>rfl);(case hr=>first|(go_simp;done)|(go_simp;rfl));intro gb139 hg w37 hbox hb;have n0_:=Aside0.mk (Kd.S_below (by (with_reducible repeat (first|apply Kd.S_alloc|apply Kd.S_drewN|apply Kd.S_drew));exact HO_6.out) hb);have n1_:=Aside0.mk (blk_below (g:=gb134) (o:=.cells #[.int .i64 (ji12)] 3 (0,0)) (by (with_reducible repeat (first|refine blk_drewN ?_ _|refine blk_drew ?_|refine blk_alloc ?_ _));exact BK134.out) hb);have n2_:=Aside0.mk (below_step (by repeat (first|(with_reducible first|exact HB.out|apply below_alloc|apply pw_below_drewN|apply below_drew1|refine below_set ?_ GE134.out)|exact HB.out)) hb);have n3_:=Aside0.mk (hbox);have n4_:=Aside0.mk ((by rw [hg];exact (below_size (by repeat (first|(with_reducible first|exact HB.out|apply below_alloc|apply pw_below_drewN|apply below_drew1|refine below_set ?_ GE134.out)|exact HB.out))) : w.heap.size ≤ gb139));have n5_:=Aside0.mk ((by rw [hg];exact (below_size (by repeat (first|(with_reducible first|exact HB.out|apply below_alloc|apply pw_below_drewN|apply below_drew1|refine below_set ?_ GE134.out)|exact HB.out))) : w.heap.size ≤ gb139));have n6_:=Aside0.mk ((by rw [hg];exact Nat.ne_of_lt (blk_lt (g:=gb134) (o:=.cells #[.int .i64 (ji12)] 3 (0,0)) (by (with_reducible repeat (first|refine blk_drewN ?_ _|refine blk_drew ?_|refine blk_alloc ?_ _));exact BK134.out)) : gb134 ≠ gb139));have n7_:=Aside0.mk ((by rw [hg];exact Nat.ne_of_gt (blk_lt (g:=gb134) (o:=.cells #[.int .i64 (ji12)] 3 (0,0)) (by (with_reducible repeat (first|refine blk_drewN ?_ _|refine blk_drew ?_|refine blk_alloc ?_ _));exact BK134.out)) : gb139 ≠ gb134));clear HO_6;clear BK134;clear HB;have HO_6:=n0_;have BK134:=n1_;have HB:=n2_;have BK139:=n3_;have GW139:=n4_;have GE139:=n5_;have NB134_139:=n6_;have NB139_134:=n7_;clear n0_ n1_ n2_ n3_ n4_ n5_ n6_ n7_;clear hb hbox hg;have hnb38:=NB139_134.out;have hnc38:=NB134_139.out;have hcz39_0 : w37.cell? ⟨gb139,0,none⟩ = some (.int .i64 0):=(blk_cell BK139.out 0).trans rfl;have hcz39_1 : w37.cell? ⟨gb139,1,none⟩ = some (.int .i64 0):=(blk_cell BK139.out 1).trans rfl;have hcz39_2 : w37.cell? ⟨gb139,2,none⟩ = some (.int .i64 0):=(blk_cell BK139.out 2).trans rfl;have hfz39_0:=blk_frozen BK139.out 0;have hfz39_1:=blk_frozen BK139.out 1;have hfz39_2:=blk_frozen BK139.out 2;have hcz40_0 : w37.cell? ⟨gb134,0,none⟩ = some (.int .i64 (ji12)):=(blk_cell BK134.out 0).trans rfl;have hfz40_0:=blk_frozen BK134.out 0)|((with_reducible refine gate_dst (N:=33) rfl ?_);refine Kd.R_make (Kd.int .u32) _ 33 rfl (N:=33) rfl 133 _ _ rfl (ji12) rfl rfl Try.underlying133 (.int .u32 0) 4 info33 rfl (by decide) (by omega) 0 (ok:=fun _=>True) (okp:=fun _=>True) rfl (fun _ hk=>hk) trivial (of_decide_eq_true (by first|(with_reducible assumption)|assumption)) (Nat.le_trans (Nat.mul_le_mul_right _ (of_decide_eq_true (by first|(with_reducible assumption)|assumption) : (ji12).toNat ≤ 70368744177664)) (by omega)) (Below.refl _ _) (Nat.le_refl _) ?_;intro v141 w41 ho42 hb hg_ hnew_;clear hg_ hnew_;(first|rw [← Ny140.out] at ho42|(simp only [Int.reduceToNat] at ho42;rw [← Ny140.out] at ho42));have n0_:=Aside0.mk (Kd.S_elder' (by (with_reducible repeat (first|apply Kd.S_alloc|apply Kd.S_drewN|apply Kd.S_drew));exact (Kd.S_mono (Kd.S_far (p:=⟨gb139,2,none⟩) (Kd.S_far (p:=⟨gb139,1,none⟩) (Kd.S_far (p:=⟨gb139,0,none⟩) (Kd.S_types HO_6.out BK139.out (by decide)) (fun _ hk=>hk.2) (.int .i64 ((rd_T128 l0 x27_1).f0))) (fun _ hk=>hk.2) (.int .i64 ((rd_T128 l0 x27_1).f1))) (fun _ hk=>hk.2) (.int .i64 ((rd_T128 l0 x27_1).f2))) (fun _ h_=>h_.1))) (Kd.R_base ho42) hb);have n1_:=Aside0.mk (Kd.R_lower ho42 (below_size (by repeat (first|(with_reducible first|exact HB.out|apply below_alloc|apply pw_below_drewN|apply below_drew1|refine below_set ?_ GE134.out|refine below_set ?_ GE139.out)|exact HB.out))));have n2_:=Aside0.mk (blk_below (g:=gb134) (o:=.cells #[.int .i64 (ji12)] 3 (0,0)) (by (with_reducible repeat (first|refine blk_drewN ?_ _|refine blk_drew ?_|refine blk_alloc ?_ _));refine blk_far ?_ NB134_139.out _;(with_reducible repeat (first|refine blk_drewN ?_ _|refine blk_drew ?_|refine blk_alloc ?_ _));refine blk_far ?_ NB134_139.out _;(with_reducible repeat (first|refine blk_drewN ?_ _|refine blk_drew ?_|refine blk_alloc ?_ _));refine blk_far ?_ NB134_139.out _;(with_reducible repeat (first|refine blk_drewN ?_ _|refine blk_drew ?_|refine blk_alloc ?_ _));exact BK134.out) hb);have n3_:=Aside0.mk (blk_below (g:=gb139) (o:=.cells #[.int .i64 ((rd_T128 l0 x27_1).f0),.int .i64 ((rd_T128 l0 x27_1).f1),.int .i64 ((rd_T128 l0 x27_1).f2)] 128 (0,0)) (by (with_reducible repeat (first|refine blk_drewN ?_ _|refine blk_drew ?_|refine blk_alloc ?_ _));refine blk_put (cs:=#[.int .i64 ((rd_T128 l0 x27_1).f0),.int .i64 ((rd_T128 l0 x27_1).f1),.int .i64 0]) ?_ 2 _ rfl;(with_reducible repeat (first|refine blk_drewN ?_ _|refine blk_drew ?_|refine blk_alloc ?_ _));refine blk_put (cs:=#[.int .i64 ((rd_T128 l0 x27_1).f0),.int .i64 0,.int .i64 0]) ?_ 1 _ rfl;(with_reducible repeat (first|refine blk_drewN ?_ _|refine blk_drew ?_|refine blk_alloc ?_ _));refine blk_put (cs:=#[.int .i64 0,.int .i64 0,.int .i64 0]) ?_ 0 _ rfl;(with_reducible repeat (first|refine blk_drewN ?_ _|refine blk_drew ?_|refine blk_alloc ?_ _));exact BK139.out) hb);have n4_:=Aside0.mk (below_step (by repeat (first|(with_reducible first|exact HB.out|apply below_alloc|apply pw_below_drewN|apply below_drew1|refine below_set ?_ GE134.out|refine below_set ?_ GE139.out)|exact HB.out)) hb);clear HO_6;clear BK134;clear BK139;clear HB;have HO_6:=n0_;have HO142:=n1_;have BK134:=n2_;have BK139:=n3_;have HB:=n4_;clear n0_ n1_ n2_ n3_ n4_;clear hb ho42;have hcz43_0 : w41.cell? ⟨gb139,0,none⟩ = some (.int .i64 ((rd_T128 l0 x27_1).f0)):=(blk_cell BK139.out 0).trans rfl;have hcz43_1 : w41.cell? ⟨gb139,1,none⟩ = some (.int .i64 ((rd_T128 l0 x27_1).f1)):=(blk_cell BK139.out 1).trans rfl;have hcz43_2 : w41.cell? ⟨gb139,2,none⟩ = some (.int .i64 ((rd_T128 l0 x27_1).f2)):=(blk_cell BK139.out 2).trans rfl;have hfz43_0:=blk_frozen BK139.out 0;have hfz43_1:=blk_frozen BK139.out 1;have hfz43_2:=blk_frozen BK139.out 2))
            go_loopg [53] k1 (fun kq v53 w'=>∃ (x10_2 : List Int) (x53_2 : Int),v53 = .int .i64 x53_2 ∧ Aside0 (sentence_spans.l2 kq l1 x6_1 x27_1 x10_2 l0 (l0.length : Int) x27_1 l1 (l1.length : Int) x53_2 (ji12) ((rd_T128 l0 x27_1).f0) ((rd_T128 l0 x27_1).f1) ((rd_T128 l0 x27_1).f2) = some r) ∧ Aside0 (kq ≤ k1) ∧ Aside0 (Kd.S (Kd.slice 33 (Kd.int .u32)) 133 w' w.heap.size (fun k_=>some k_ ≠ (v141 : Value).ownBlock) v136 x6_1) ∧ Aside0 (Kd.R (Kd.int .u32) 33 w' w.heap.size (fun _=>True) v141 x10_2) ∧ Aside0 (w'.heap[gb134]? = some (.cells #[.int .i64 (ji12)] 3 (0,0))) ∧ Aside0 (w'.heap[gb139]? = some (.cells #[.int .i64 ((rd_T128 l0 x27_1).f0),.int .i64 ((rd_T128 l0 x27_1).f1),.int .i64 ((rd_T128 l0 x27_1).f2)] 128 (0,0))) ∧ Aside0 (Below w.heap.size w w'))
            case atStart=>exact ⟨(y140),(0),(by first|rfl|(simp;done)|(simp [*];done)),H',⟨Nat.le_refl _⟩,⟨by (with_reducible repeat (first|apply Kd.S_alloc|apply Kd.S_drewN|apply Kd.S_drew));exact Kd.S_mono HO_6.out (fun _ hk=>hk.2)⟩,⟨by (with_reducible repeat (first|apply Kd.R_alloc|apply Kd.R_drewN|apply Kd.R_drew));exact HO142.out⟩,⟨by (with_reducible repeat (first|refine blk_drewN ?_ _|refine blk_drew ?_|refine blk_alloc ?_ _));exact BK134.out⟩,⟨by (with_reducible repeat (first|refine blk_drewN ?_ _|refine blk_drew ?_|refine blk_alloc ?_ _));exact BK139.out⟩,⟨by repeat (first|(with_reducible first|exact HB.out|apply below_alloc|apply pw_below_drewN|apply below_drew1|refine below_set ?_ GE134.out|refine below_set ?_ GE139.out)|exact HB.out)⟩⟩
            case round =>
             clear H'
             try clear c1
             try clear p1
             try clear q1
             try clear hx1
             try clear c2
             try clear p2
             try clear q2
             try clear hx2
             try clear hf2
             try clear c3
             try clear c3b0
             try clear c3b1
             try clear p3
             try clear q3
             try clear hx3
             try clear hf3
             try clear c4
             try clear c4b0
             try clear c4b1
             try clear p6
             try clear c7
             try clear c9
             try clear c9b0
             try clear c10
             try clear c10b0
             try clear c11
             try clear c11b0
             try clear c13
             try clear c13b0
             try clear c13b1
             try clear p13
             try clear q13
             try clear hx13
             try clear c14
             try clear c14b0
             try clear c14b1
             try clear c15
             try clear c15b0
             try clear c15b1
             try clear c17
             try clear c24
             try clear c24b0
             try clear c25
             try clear c25b0
             try clear c25b1
             try clear c27
             try clear c27b0
             try clear p28
             try clear q28
             try clear hx28
             try clear hf28
             try clear c31
             try clear c31b0
             try clear c32
             try clear c32b0
             try clear c33
             try clear p33
             try clear q33
             try clear hx33
             try clear hf33
             try clear c34
             try clear hx34
             try clear hf34
             try clear c36
             try clear c36b0
             try clear c36b1
             try clear c38
             try clear hcz18_0
             try clear hcz18_1
             try clear hcz18_2
             try clear hcz19_0
             try clear hcz22_0
             try clear hcz22_1
             try clear hcz22_2
             try clear hcz39_0
             try clear hcz39_1
             try clear hcz39_2
             try clear hcz40_0
             try clear hcz43_0
             try clear hcz43_1
             try clear hcz43_2
             try clear hcz6_0
             try clear hfz18_0
             try clear hfz18_1
             try clear hfz18_2
             try clear hfz19_0
             try clear hfz22_0
             try clear hfz22_1
             try clear hfz22_2
             try clear hfz39_0
             try clear hfz39_1
             try clear hfz39_2
             try clear hfz40_0
             try clear hfz43_0
             try clear hfz43_1
             try clear hfz43_2
             try clear hfz6_0
             try clear hx138_0
             try clear hx138_1
             try clear hx138_2
             try clear hx28_0
             try clear hx33_0
             try clear hx34_0
             try clear p1
             try clear p13
             try clear p138
             try clear p2
             try clear p28
             try clear p33
             try clear p6
             try clear q1
             try clear q13
             try clear q138
             try clear q28
             try clear q33
             obtain ⟨x10_2,x53_2,rfl,HA,HK2,HO_6,HO_10,BK134,BK139,HB⟩:=hrel
             cases gk with
             | zero=>exact absurd HA.out (by simp [sentence_spans.l2])
             | succ k2 =>
              have H:=HA.out
              clear HA
              simp only [sentence_spans.l2] at H
              by_cases c44 : x53_2 < (l1.length : Int)
              ·rw [if_pos c44] at H
               have c44b0 : decide (x53_2 < (l1.length : Int)) = true:=decide_eq_true c44
               clear c44
               by_cases c45 : 0 ≤ x53_2
               ·rw [if_pos c45] at H
                have c45b0 : decide (0 ≤ x53_2) = true:=decide_eq_true c45
                clear c45
                by_cases c46 : x53_2 < (l1.length : Int)
                ·rw [if_pos c46] at H
                 have c46b0 : decide (x53_2 < (l1.length : Int)) = true:=decide_eq_true c46
                 clear c46
                 by_cases c47 : (rd l1 x53_2) = ((rd_T128 l0 x27_1).f1)
                 ·rw [if_pos c47] at H
                  have c47b0 : ((rd l1 x53_2) == ((rd_T128 l0 x27_1).f1)) = true:=beq_iff_eq.mpr c47
                  have c47b1 : ((rd l1 x53_2) != ((rd_T128 l0 x27_1).f1)) = false:=bne_eq_false_iff_eq.mpr c47
                  clear c47
                  obtain ⟨ji48,hji48⟩ : ∃ j_ : Int,(wrap64 (x53_2 + 1)) = j_:=⟨_,rfl⟩
                  replace H : (if 0 ≤ (ji48) then (if x53_2 < (x10_2.length : Int) then (sentence_spans.l2 k2 l1 x6_1 x27_1 (x10_2.set (x53_2 : Int).toNat (shl .u32 1 (ji48))) l0 (l0.length : Int) x27_1 l1 (l1.length : Int) ji48 (ji12) ((rd_T128 l0 x27_1).f0) ((rd_T128 l0 x27_1).f1) ((rd_T128 l0 x27_1).f2)) else (none)) else (none)) = some r:=by first|(rw [hji48] at H;exact H)|(simp only [hji48] at H ⊢;exact H)
                  have hji48w : (IntKind.i64.wrap (x53_2 + 1)) = ji48:=(i64_w _).trans hji48
                  by_cases c49 : 0 ≤ (ji48)
                  ·rw [if_pos c49] at H
                   have c49b0:=eq_true c49
                   have c49b1 : decide (0 ≤ (ji48)) = true:=decide_eq_true c49
                   clear c49
                   obtain ⟨ji50,hji50⟩ : ∃ j_ : Int,(shl .u32 1 (ji48)) = j_:=⟨_,rfl⟩
                   replace H : (if x53_2 < (x10_2.length : Int) then (sentence_spans.l2 k2 l1 x6_1 x27_1 (x10_2.set (x53_2 : Int).toNat (ji50)) l0 (l0.length : Int) x27_1 l1 (l1.length : Int) ji48 (ji12) ((rd_T128 l0 x27_1).f0) ((rd_T128 l0 x27_1).f1) ((rd_T128 l0 x27_1).f2)) else (none)) = some r:=by first|(rw [hji50] at H;exact H)|(simp only [hji50] at H ⊢;exact H)
                   have hji50_ : (IntKind.u32.wrap (1 * 2 ^ min (ji48).toNat 32)) = ji50:=hji50
                   have hji50z : (ji48) ≤ 32 → (IntKind.u32.wrap (1 * 2 ^ (ji48).toNat)) = ji50:=shl_small hji50
                   have hji50u : (IntKind.u32.wrap (2 ^ min (ji48).toNat 32)) = ji50:=by have h_:=hji50_;rw [Int.one_mul] at h_;exact h_
                   have hji50v : (ji48) ≤ 32 → (IntKind.u32.wrap (2 ^ (ji48).toNat)) = ji50:=fun hle_=>by have h_:=hji50z hle_;rw [Int.one_mul] at h_;exact h_
                   by_cases c51 : x53_2 < (x10_2.length : Int)
                   ·rw [if_pos c51] at H
                    have c51b0 : decide (x53_2 < (x10_2.length : Int)) = true:=decide_eq_true c51
                    clear c51
                    obtain ⟨y146,hy146⟩ : ∃ y_ : List Int,y_ = (x10_2.set (x53_2 : Int).toNat (ji50)):=⟨_,rfl⟩
                    replace H : (sentence_spans.l2 k2 l1 x6_1 x27_1 y146 l0 (l0.length : Int) x27_1 l1 (l1.length : Int) ji48 (ji12) ((rd_T128 l0 x27_1).f0) ((rd_T128 l0 x27_1).f1) ((rd_T128 l0 x27_1).f2)) = some r:=by first|(rw [hy146];with_reducible exact H)|(have H2_:=(Option.bind_some _ _).symm.trans H;rw [hy146];with_reducible exact H2_)|(have H2_:=(Option.bind_some _ _).symm.trans H;with_reducible exact H2_)|with_reducible exact H|(rw [hy146];exact H)|exact H
                    have Ny146:=Aside0.mk hy146
                    clear hy146
                    have H':=Aside0.mk H
                    clear H
                    have p145 : 0 ≤ (x53_2 : Int):=of_decide_eq_true (by first|(with_reducible assumption)|assumption)
                    have q145 : x53_2 < (l1.length : Int):=of_decide_eq_true (by first|(with_reducible assumption)|assumption)
                    obtain ⟨ad145,e145,hx145_0⟩:=Kd.at_int HR1.out x53_2 p145 q145
                    cases e145
                    replace hx145_0:=(HB.out.cell (World.block_lt_of_cell? w _ hx145_0)).trans hx145_0
                    replace p145:=eq_true p145
                    replace q145:=eq_true q145
                    have hnb53:=NB139_134.out
                    have hnc53:=NB134_139.out
                    have hcz54_0 : wr.cell? ⟨gb139,0,none⟩ = some (.int .i64 ((rd_T128 l0 x27_1).f0)):=(blk_cell BK139.out 0).trans rfl
                    have hcz54_1 : wr.cell? ⟨gb139,1,none⟩ = some (.int .i64 ((rd_T128 l0 x27_1).f1)):=(blk_cell BK139.out 1).trans rfl
                    have hcz54_2 : wr.cell? ⟨gb139,2,none⟩ = some (.int .i64 ((rd_T128 l0 x27_1).f2)):=(blk_cell BK139.out 2).trans rfl
                    have hfz54_0:=blk_frozen BK139.out 0
                    have hfz54_1:=blk_frozen BK139.out 1
                    have hfz54_2:=blk_frozen BK139.out 2
                    have p52 : 0 ≤ (x53_2 : Int):=of_decide_eq_true (by first|(with_reducible assumption)|assumption)
                    have q52 : (x53_2 : Int) < ((x10_2.length : Int) : Int):=of_decide_eq_true (by first|(with_reducible assumption)|assumption)
                    obtain ⟨go52,co52,eo52,gb52,gl52,cl52,HG52⟩:=Kd.R_form HO_10.out (by omega)
                    (first|cases eo52|(injection eo52 with ea_ en_ ec_;(first|subst ea_|(injection ea_ with ea_;subst ea_));subst ec_;clear en_))
                    have GB52:=Aside0.mk gb52
                    have GG52:=Aside0.mk HG52
                    clear gb52 gl52 HG52
                    obtain ⟨hx52_0,hf52_0⟩:=Kd.R_celln 0 HO_10.out (x53_2 : Int) p52 q52
                    replace p52:=eq_true p52
                    replace q52:=eq_true q52
                    have HP55:=Kd.R_putg HO_10.out (x53_2 : Int) ji50
                    go_wp2_with (first|((with_reducible refine gate_store (t:=33) (p:=67) rfl ?_);refine store_event (t:=33) (p:=67) (v:=?vo_w56) (w1:=(wr.setCell ⟨go52,(x53_2 : Int).toNat,none⟩ (.int .u32 ji50))) ?hg ?ho ?hn ?hr ?_;(case ho=>rfl);(case hg=>rfl);(case hn=>rfl);(case hr=>first|(go_simp;done)|(go_simp;rfl));intro w56 hw;have hg : wr.grownBy w56 (some go52):=(by rw [hw];exact HP55.2);have hp_ : Kd.R (Kd.int .u32) 33 w56 w.heap.size (fun _=>True) (.slice (some ⟨go52,0,none⟩) x10_2.length co52) y146:=(by rw [hw,Ny146.out];exact HP55.1);clear HP55;have n0_:=Aside0.mk (Kd.S_after (v:=(.slice (some ⟨go52,0,none⟩) x10_2.length co52)) (v1:=(.slice (some ⟨go52,0,none⟩) x10_2.length co52)) (ok:=(fun _=>True)) (by (with_reducible repeat (first|apply Kd.S_alloc|apply Kd.S_drewN|apply Kd.S_drew));exact Kd.S_mono HO_6.out (fun _ hk=>⟨trivial,hk⟩)) hg (.inl rfl));have n1_:=Aside0.mk (hp_);have n2_:=Aside0.mk (blk_grown (g:=gb134) (o:=.cells #[.int .i64 (ji12)] 3 (0,0)) (by (with_reducible repeat (first|refine blk_drewN ?_ _|refine blk_drew ?_|refine blk_alloc ?_ _));exact BK134.out) hg (Kd.R_ne HO_10.out BK134.out (by decide)));have n3_:=Aside0.mk (blk_grown (g:=gb139) (o:=.cells #[.int .i64 ((rd_T128 l0 x27_1).f0),.int .i64 ((rd_T128 l0 x27_1).f1),.int .i64 ((rd_T128 l0 x27_1).f2)] 128 (0,0)) (by (with_reducible repeat (first|refine blk_drewN ?_ _|refine blk_drew ?_|refine blk_alloc ?_ _));exact BK139.out) hg (Kd.R_ne HO_10.out BK139.out (by decide)));have n4_:=Aside0.mk ((by rw [hw];exact below_set (HB.out) GB52.out : Below w.heap.size w w56));clear HO_6;clear HO_10;clear BK134;clear BK139;clear HB;have HO_6:=n0_;have HO_10:=n1_;have BK134:=n2_;have BK139:=n3_;have HB:=n4_;clear n0_ n1_ n2_ n3_ n4_;clear hg hw hp_))
                    first|go_roundg k2|((simp only [← hji12,← hji48,← hji50]);go_roundg k2)
                    case measure=>have:=HK1.out;have:=HK2.out;omega
                    case rel=>exact ⟨(y146),(ji48),(by first|rfl|(simp;done)|(simp only [← hji48] <;> (first|rfl|simp))|(simp [*];done)),(by first|exact H'|((simp only [hji12,hji48,hji50]);exact H')|(have h_:=H'.out;simp only [← hji12,← hji48,← hji50] at h_ ⊢;exact ⟨h_⟩)),⟨by have:=HK1.out;have:=HK2.out;omega⟩,⟨by (with_reducible repeat (first|apply Kd.S_alloc|apply Kd.S_drewN|apply Kd.S_drew));exact Kd.S_mono HO_6.out (fun _ hk=>hk.2)⟩,⟨by (with_reducible repeat (first|apply Kd.R_alloc|apply Kd.R_drewN|apply Kd.R_drew));exact HO_10.out⟩,⟨by (with_reducible repeat (first|refine blk_drewN ?_ _|refine blk_drew ?_|refine blk_alloc ?_ _));(first|exact BK134.out|(have h_:=BK134.out;simp only [← hji12,← hji48,← hji50] at h_;exact h_))⟩,⟨by (with_reducible repeat (first|refine blk_drewN ?_ _|refine blk_drew ?_|refine blk_alloc ?_ _));(first|exact BK139.out|(have h_:=BK139.out;simp only [← hji12,← hji48,← hji50] at h_;exact h_))⟩,⟨by repeat (first|(with_reducible first|exact HB.out|apply below_alloc|apply pw_below_drewN|apply below_drew1|refine below_set ?_ GE134.out|refine below_set ?_ GE139.out)|exact HB.out)⟩⟩
                   ·rw [if_neg c51] at H
                    exact absurd H (by simp)
                  ·rw [if_neg c49] at H
                   exact absurd H (by simp)
                 ·rw [if_neg c47] at H
                  have c47b0 : ((rd l1 x53_2) == ((rd_T128 l0 x27_1).f1)) = false:=beq_eq_false_iff_ne.mpr c47
                  have c47b1 : ((rd l1 x53_2) != ((rd_T128 l0 x27_1).f1)) = true:=bne_iff_ne.mpr c47
                  have H':=Aside0.mk H
                  clear H
                  have p145 : 0 ≤ (x53_2 : Int):=of_decide_eq_true (by first|(with_reducible assumption)|assumption)
                  have q145 : x53_2 < (l1.length : Int):=of_decide_eq_true (by first|(with_reducible assumption)|assumption)
                  obtain ⟨ad145,e145,hx145_0⟩:=Kd.at_int HR1.out x53_2 p145 q145
                  cases e145
                  replace hx145_0:=(HB.out.cell (World.block_lt_of_cell? w _ hx145_0)).trans hx145_0
                  replace p145:=eq_true p145
                  replace q145:=eq_true q145
                  have hnb57:=NB139_134.out
                  have hnc57:=NB134_139.out
                  have hcz58_0 : wr.cell? ⟨gb139,0,none⟩ = some (.int .i64 ((rd_T128 l0 x27_1).f0)):=(blk_cell BK139.out 0).trans rfl
                  have hcz58_1 : wr.cell? ⟨gb139,1,none⟩ = some (.int .i64 ((rd_T128 l0 x27_1).f1)):=(blk_cell BK139.out 1).trans rfl
                  have hcz58_2 : wr.cell? ⟨gb139,2,none⟩ = some (.int .i64 ((rd_T128 l0 x27_1).f2)):=(blk_cell BK139.out 2).trans rfl
                  have hfz58_0:=blk_frozen BK139.out 0
                  have hfz58_1:=blk_frozen BK139.out 1
                  have hfz58_2:=blk_frozen BK139.out 2
                  go_wp2
                  first|go_roundg k2|((simp only [← hji12]);go_roundg k2)
                  case measure=>have:=HK1.out;have:=HK2.out;omega
                  case rel=>exact ⟨(x10_2),(wrap64 (x53_2 + 1)),(by first|rfl|(simp;done)|(simp [*];done)),(by first|exact H'|((simp only [hji12]);exact H')|(have h_:=H'.out;simp only [← hji12] at h_ ⊢;exact ⟨h_⟩)),⟨by have:=HK1.out;have:=HK2.out;omega⟩,⟨by (with_reducible repeat (first|apply Kd.S_alloc|apply Kd.S_drewN|apply Kd.S_drew));exact HO_6.out⟩,⟨by (with_reducible repeat (first|apply Kd.R_alloc|apply Kd.R_drewN|apply Kd.R_drew));exact HO_10.out⟩,⟨by (with_reducible repeat (first|refine blk_drewN ?_ _|refine blk_drew ?_|refine blk_alloc ?_ _));(first|exact BK134.out|(have h_:=BK134.out;simp only [← hji12] at h_;exact h_))⟩,⟨by (with_reducible repeat (first|refine blk_drewN ?_ _|refine blk_drew ?_|refine blk_alloc ?_ _));(first|exact BK139.out|(have h_:=BK139.out;simp only [← hji12] at h_;exact h_))⟩,⟨by repeat (first|(with_reducible first|exact HB.out|apply below_alloc|apply pw_below_drewN|apply below_drew1|refine below_set ?_ GE134.out|refine below_set ?_ GE139.out)|exact HB.out)⟩⟩
                ·rw [if_neg c46] at H
                 exact absurd H (by simp)
               ·rw [if_neg c45] at H
                exact absurd H (by simp)
              ·rw [if_neg c44] at H
               have c44b0 : decide (x53_2 < (l1.length : Int)) = false:=decide_eq_false c44
               clear c44
               by_cases c59 : 0 ≤ x27_1
               ·rw [if_pos c59] at H
                have c59b0 : decide (0 ≤ x27_1) = true:=decide_eq_true c59
                clear c59
                by_cases c60 : x27_1 < (x6_1.length : Int)
                ·rw [if_pos c60] at H
                 have c60b0 : decide (x27_1 < (x6_1.length : Int)) = true:=decide_eq_true c60
                 clear c60
                 obtain ⟨y147,hy147⟩ : ∃ y_ : List (List Int),y_ = (x6_1.set (x27_1 : Int).toNat x10_2):=⟨_,rfl⟩
                 replace H : (sentence_spans.l0 k2 l1 y147 l0 (l0.length : Int) (wrap64 (x27_1 + 1)) (ji12)) = some r:=by first|(rw [hy147];with_reducible exact H)|(have H2_:=(Option.bind_some _ _).symm.trans H;rw [hy147];with_reducible exact H2_)|(have H2_:=(Option.bind_some _ _).symm.trans H;with_reducible exact H2_)|with_reducible exact H|(rw [hy147];exact H)|exact H
                 have Ny147:=Aside0.mk hy147
                 clear hy147
                 have H':=Aside0.mk H
                 clear H
                 have p61 : 0 ≤ (x27_1 : Int):=of_decide_eq_true (by first|(with_reducible assumption)|assumption)
                 have q61 : (x27_1 : Int) < ((x6_1.length : Int) : Int):=of_decide_eq_true (by first|(with_reducible assumption)|assumption)
                 obtain ⟨go61,co61,eo61,gb61,gl61,cl61,HG61⟩:=Kd.S_form HO_6.out (by omega)
                 (first|cases eo61|(injection eo61 with ea_ en_ ec_;(first|subst ea_|(injection ea_ with ea_;subst ea_));subst ec_;clear en_))
                 have GB61:=Aside0.mk gb61
                 have GG61:=Aside0.mk HG61
                 clear gb61 gl61 HG61
                 obtain ⟨_,ce61,hcl61,hM61,hcc61,hfr61,_,_⟩:=Kd.S_elem HO_6.out [] (x27_1 : Int) p61 q61
                 obtain ⟨ve61_0,rfl,ge61_0⟩:=id hM61
                 have hx61_0:=hcc61 0 _ rfl
                 have hf61_0:=hfr61 0
                 (try simp only [show ((Kd.slice 33 (Kd.int .u32))).sz = 1 from rfl,Nat.mul_one,Nat.add_zero] at hx61_0)
                 (try simp only [show ((Kd.slice 33 (Kd.int .u32))).sz = 1 from rfl,Nat.mul_one,Nat.add_zero] at hf61_0)
                 clear hcl61 hcc61 hfr61 hM61
                 replace p61:=eq_true p61
                 replace q61:=eq_true q61
                 obtain ⟨Ao62,co62,eo62⟩:=Kd.R_slice HO_10.out
                 subst eo62
                 have HX63:=Aside0.mk (show Kd.S (Kd.slice 33 (Kd.int .u32)) 133 wr w.heap.size (fun k_=>((fun _=>True)) k_ ∧ ¬ ((fun k_=>some k_ = (.slice Ao62 x10_2.length co62 : Value).ownBlock)) k_) (.slice (some ⟨go61,0,none⟩) x6_1.length co61) x6_1 from (by (with_reducible repeat (first|apply Kd.S_alloc|apply Kd.S_drewN|apply Kd.S_drew));exact Kd.S_mono HO_6.out (fun k_ hk=>⟨trivial,fun e_=>hk e_⟩)))
                 obtain ⟨oki63,ce63,hcl63,hM63,hcc63,hfr63,hoki63,hH63⟩:=Kd.S_elem HX63.out [] (x27_1 : Int) (of_decide_eq_true (by first|(with_reducible assumption)|assumption)) (by have h_ : (x27_1 : Int) < ((x6_1.length : Int) : Int):=of_decide_eq_true (by first|(with_reducible assumption)|assumption);first|exact h_|(have e_:=(Kd.S_reads' HO_6.out).1;omega)|simpa using h_)
                 obtain ⟨ve63_0,rfl,ge63_0⟩:=id hM63
                 have HP63:=Kd.S_seg hH63 (of_decide_eq_true (by first|(with_reducible assumption)|assumption)) (by have h_ : (x27_1 : Int) < ((x6_1.length : Int) : Int):=of_decide_eq_true (by first|(with_reducible assumption)|assumption);first|exact h_|(have e_:=(Kd.S_reads' HO_6.out).1;omega)|simpa using h_) (seg:=[.slice Ao62 x10_2.length co62]) (j:=0) (show 1 ≤ 1 from by decide) (x':=x10_2) (Kd.M_row (Kd.R_mono (Kd.R_tight rfl (Kd.R_mono (ok':=fun k_=>((fun _=>True)) k_ ∧ k_ ≠ go61) (Kd.R_apart' (HO_10.out) (Kd.S_typed HO_6.out) (by decide)) (fun k_ hk=>⟨trivial,fun e_=>(hk.2) (by rw [e_];rfl)⟩))) (fun _ h_=>Or.inr (h_)))) (fun _ hk=>hk) (fun k_ hk_=>((Kd.R_mono (ok':=fun k_=>((fun _=>True)) k_ ∧ k_ ≠ go61) (Kd.R_apart' (HO_10.out) (Kd.S_typed HO_6.out) (by decide)) (fun k_ hk=>⟨trivial,fun e_=>(hk.2) (by rw [e_];rfl)⟩))).1 k_ hk_.symm)
                 have hx63_0:=hcc63 0 _ rfl
                 (try simp only [show ((Kd.slice 33 (Kd.int .u32))).sz = 1 from rfl,Nat.mul_one,Nat.add_zero] at hx63_0)
                 have hf63_0:=hfr63 0
                 (try simp only [show ((Kd.slice 33 (Kd.int .u32))).sz = 1 from rfl,Nat.mul_one,Nat.add_zero] at hf63_0)
                 clear hcl63 hcc63 hfr63 hM63 hoki63 hH63
                 (try simp only [show ((Kd.slice 33 (Kd.int .u32))).sz = 1 from rfl,Nat.mul_one,Nat.add_zero] at HP63)
                 go_wp2_with (first|((with_reducible refine gate_store (t:=133) (p:=155) rfl ?_);refine store_event (t:=133) (p:=155) (v:=?vo_w64) (w1:=(wr.setCell ⟨go61,(x27_1 : Int).toNat,none⟩ (.slice Ao62 x10_2.length co62))) ?hg ?ho ?hn ?hr ?_;(case ho=>rfl);(case hg=>rfl);(case hn=>rfl);(case hr=>first|(go_simp;done)|(go_simp;rfl));intro w64 hw;have hg : wr.grownBy w64 (some go61):=(by rw [hw];exact HP63.2);have hp_ : Kd.S (Kd.slice 33 (Kd.int .u32)) 133 w64 w.heap.size (fun _=>True) (.slice (some ⟨go61,0,none⟩) x6_1.length co61) y147:=(by rw [hw,Ny147.out];exact HP63.1);clear HP63;have n0_:=Aside0.mk (hp_);have n1_:=Aside0.mk (blk_grown (g:=gb134) (o:=.cells #[.int .i64 (ji12)] 3 (0,0)) (by (with_reducible repeat (first|refine blk_drewN ?_ _|refine blk_drew ?_|refine blk_alloc ?_ _));exact BK134.out) hg (Kd.S_ne HO_6.out BK134.out (by decide)));have n2_:=Aside0.mk (blk_grown (g:=gb139) (o:=.cells #[.int .i64 ((rd_T128 l0 x27_1).f0),.int .i64 ((rd_T128 l0 x27_1).f1),.int .i64 ((rd_T128 l0 x27_1).f2)] 128 (0,0)) (by (with_reducible repeat (first|refine blk_drewN ?_ _|refine blk_drew ?_|refine blk_alloc ?_ _));exact BK139.out) hg (Kd.S_ne HO_6.out BK139.out (by decide)));have n3_:=Aside0.mk ((by rw [hw];exact below_set (HB.out) GB61.out : Below w.heap.size w w64));clear HO_6;clear BK134;clear BK139;clear HB;clear HO_10;have HO_6:=n0_;have BK134:=n1_;have BK139:=n2_;have HB:=n3_;clear n0_ n1_ n2_ n3_;clear hg hw hp_))
                 first|go_roundg k2|((simp only [← hji12]);go_roundg k2)
                 case measure=>have:=HK1.out;have:=HK2.out;omega
                 case rel=>exact ⟨(y147),(wrap64 (x27_1 + 1)),(by first|rfl|(simp;done)|(simp [*];done)),(by first|exact H'|((simp only [hji12]);exact H')|(have h_:=H'.out;simp only [← hji12] at h_ ⊢;exact ⟨h_⟩)),⟨by have:=HK1.out;have:=HK2.out;omega⟩,⟨by (with_reducible repeat (first|apply Kd.S_alloc|apply Kd.S_drewN|apply Kd.S_drew));exact HO_6.out⟩,⟨by (with_reducible repeat (first|refine blk_drewN ?_ _|refine blk_drew ?_|refine blk_alloc ?_ _));(first|exact BK134.out|(have h_:=BK134.out;simp only [← hji12] at h_;exact h_))⟩,⟨by repeat (first|(with_reducible first|exact HB.out|apply below_alloc|apply pw_below_drewN|apply below_drew1|refine below_set ?_ GE134.out|refine below_set ?_ GE139.out)|exact HB.out)⟩⟩
                ·rw [if_neg c60] at H
                 exact absurd H (by simp)
               ·rw [if_neg c59] at H
                exact absurd H (by simp)
           ·rw [if_neg c36] at H
            have c36b0 : (((rd_T128 l0 x27_1).f0) == 3) = false:=beq_eq_false_iff_ne.mpr c36
            have c36b1 : (((rd_T128 l0 x27_1).f0) != 3) = true:=bne_iff_ne.mpr c36
            by_cases c65 : ((rd_T128 l0 x27_1).f0) = 4
            ·rw [if_pos c65] at H
             have c65b0 : (((rd_T128 l0 x27_1).f0) == 4) = true:=beq_iff_eq.mpr c65
             have c65b1 : (((rd_T128 l0 x27_1).f0) != 4) = false:=bne_eq_false_iff_eq.mpr c65
             clear c65
             by_cases c66 : 0 ≤ ((rd_T128 l0 x27_1).f1)
             ·rw [if_pos c66] at H
              have c66b0 : decide (0 ≤ ((rd_T128 l0 x27_1).f1)) = true:=decide_eq_true c66
              clear c66
              by_cases c67 : ((rd_T128 l0 x27_1).f1) < (x6_1.length : Int)
              ·rw [if_pos c67] at H
               have c67b0 : decide (((rd_T128 l0 x27_1).f1) < (x6_1.length : Int)) = true:=decide_eq_true c67
               clear c67
               by_cases c68 : 0 ≤ ((rd_T128 l0 x27_1).f2)
               ·rw [if_pos c68] at H
                have c68b0 : decide (0 ≤ ((rd_T128 l0 x27_1).f2)) = true:=decide_eq_true c68
                clear c68
                by_cases c69 : ((rd_T128 l0 x27_1).f2) < (x6_1.length : Int)
                ·rw [if_pos c69] at H
                 have c69b0 : decide (((rd_T128 l0 x27_1).f2) < (x6_1.length : Int)) = true:=decide_eq_true c69
                 clear c69
                 replace H:=Option.bind_eq_some_iff.mp H
                 obtain ⟨t150,A700,H⟩:=H
                 replace H : (if x27_1 < (x6_1.length : Int) then (sentence_spans.l0 k1 l1 (x6_1.set (x27_1 : Int).toNat t150) l0 (l0.length : Int) (wrap64 (x27_1 + 1)) (ji12)) else (none)) = some r:=H
                 have A70:=Aside0.mk A700
                 clear A700
                 by_cases c71 : x27_1 < (x6_1.length : Int)
                 ·rw [if_pos c71] at H
                  have c71b0 : decide (x27_1 < (x6_1.length : Int)) = true:=decide_eq_true c71
                  clear c71
                  obtain ⟨y153,hy153⟩ : ∃ y_ : List (List Int),y_ = (x6_1.set (x27_1 : Int).toNat t150):=⟨_,rfl⟩
                  replace H : (sentence_spans.l0 k1 l1 y153 l0 (l0.length : Int) (wrap64 (x27_1 + 1)) (ji12)) = some r:=by first|(rw [hy153];with_reducible exact H)|(have H2_:=(Option.bind_some _ _).symm.trans H;rw [hy153];with_reducible exact H2_)|(have H2_:=(Option.bind_some _ _).symm.trans H;with_reducible exact H2_)|with_reducible exact H|(rw [hy153];exact H)|exact H
                  have Ny153:=Aside0.mk hy153
                  clear hy153
                  have H':=Aside0.mk H
                  clear H
                  have p138 : 0 ≤ (x27_1 : Int):=of_decide_eq_true (by first|(with_reducible assumption)|assumption)
                  have q138 : x27_1 < (l0.length : Int):=of_decide_eq_true (by first|(with_reducible assumption)|assumption)
                  obtain ⟨ad138,e138,hx138_0,hx138_1,hx138_2⟩:=at_T128 HR0.out x27_1 p138 q138
                  cases e138
                  replace hx138_0:=(HB.out.cell (World.block_lt_of_cell? w _ hx138_0)).trans hx138_0
                  replace hx138_1:=(HB.out.cell (World.block_lt_of_cell? w _ hx138_1)).trans hx138_1
                  replace hx138_2:=(HB.out.cell (World.block_lt_of_cell? w _ hx138_2)).trans hx138_2
                  replace p138:=eq_true p138
                  replace q138:=eq_true q138
                  try go_wp2_with (first|((with_reducible refine gate_dst (N:=9) rfl ?_);refine box_event ?hg (N:=9) ?hd (cs:=#[.int .i64 0,.int .i64 0,.int .i64 0]) (t:=128) ?hr ?_;(case hd=>rfl);(case hg=>rfl);(case hr=>first|(go_simp;done)|(go_simp;rfl));intro gb139 hg w73 hbox hb;have n0_:=Aside0.mk (Kd.S_below (by (with_reducible repeat (first|apply Kd.S_alloc|apply Kd.S_drewN|apply Kd.S_drew));exact HO_6.out) hb);have n1_:=Aside0.mk (blk_below (g:=gb134) (o:=.cells #[.int .i64 (ji12)] 3 (0,0)) (by (with_reducible repeat (first|refine blk_drewN ?_ _|refine blk_drew ?_|refine blk_alloc ?_ _));exact BK134.out) hb);have n2_:=Aside0.mk (below_step (by repeat (first|(with_reducible first|exact HB.out|apply below_alloc|apply pw_below_drewN|apply below_drew1|refine below_set ?_ GE134.out)|exact HB.out)) hb);have n3_:=Aside0.mk (hbox);have n4_:=Aside0.mk ((by rw [hg];exact (below_size (by repeat (first|(with_reducible first|exact HB.out|apply below_alloc|apply pw_below_drewN|apply below_drew1|refine below_set ?_ GE134.out)|exact HB.out))) : w.heap.size ≤ gb139));have n5_:=Aside0.mk ((by rw [hg];exact (below_size (by repeat (first|(with_reducible first|exact HB.out|apply below_alloc|apply pw_below_drewN|apply below_drew1|refine below_set ?_ GE134.out)|exact HB.out))) : w.heap.size ≤ gb139));have n6_:=Aside0.mk ((by rw [hg];exact Nat.ne_of_lt (blk_lt (g:=gb134) (o:=.cells #[.int .i64 (ji12)] 3 (0,0)) (by (with_reducible repeat (first|refine blk_drewN ?_ _|refine blk_drew ?_|refine blk_alloc ?_ _));exact BK134.out)) : gb134 ≠ gb139));have n7_:=Aside0.mk ((by rw [hg];exact Nat.ne_of_gt (blk_lt (g:=gb134) (o:=.cells #[.int .i64 (ji12)] 3 (0,0)) (by (with_reducible repeat (first|refine blk_drewN ?_ _|refine blk_drew ?_|refine blk_alloc ?_ _));exact BK134.out)) : gb139 ≠ gb134));clear HO_6;clear BK134;clear HB;have HO_6:=n0_;have BK134:=n1_;have HB:=n2_;have BK139:=n3_;have GW139:=n4_;have GE139:=n5_;have NB134_139:=n6_;have NB139_134:=n7_;clear n0_ n1_ n2_ n3_ n4_ n5_ n6_ n7_;clear hb hbox hg;have hnb74:=NB139_134.out;have hnc74:=NB134_139.out;have hcz75_0 : w73.cell? ⟨gb139,0,none⟩ = some (.int .i64 0):=(blk_cell BK139.out 0).trans rfl;have hcz75_1 : w73.cell? ⟨gb139,1,none⟩ = some (.int .i64 0):=(blk_cell BK139.out 1).trans rfl;have hcz75_2 : w73.cell? ⟨gb139,2,none⟩ = some (.int .i64 0):=(blk_cell BK139.out 2).trans rfl;have hfz75_0:=blk_frozen BK139.out 0;have hfz75_1:=blk_frozen BK139.out 1;have hfz75_2:=blk_frozen BK139.out 2;have hcz76_0 : w73.cell? ⟨gb134,0,none⟩ = some (.int .i64 (ji12)):=(blk_cell BK134.out 0).trans rfl;have hfz76_0:=blk_frozen BK134.out 0)|((with_reducible refine gate_dst (N:=33) rfl ?_);refine Kd.R_make (Kd.int .u32) _ 33 rfl (N:=33) rfl 133 _ _ rfl (ji12) rfl rfl Try.underlying133 (.int .u32 0) 4 info33 rfl (by decide) (by omega) 0 (ok:=fun _=>True) (okp:=fun _=>True) rfl (fun _ hk=>hk) trivial (of_decide_eq_true (by first|(with_reducible assumption)|assumption)) (Nat.le_trans (Nat.mul_le_mul_right _ (of_decide_eq_true (by first|(with_reducible assumption)|assumption) : (ji12).toNat ≤ 70368744177664)) (by omega)) (Below.refl _ _) (Nat.le_refl _) ?_;intro v141 w77 ho78 hb hg_ hnew_;clear hg_ hnew_;(first|rw [← Ny140.out] at ho78|(simp only [Int.reduceToNat] at ho78;rw [← Ny140.out] at ho78));have n0_:=Aside0.mk (Kd.S_elder' (by (with_reducible repeat (first|apply Kd.S_alloc|apply Kd.S_drewN|apply Kd.S_drew));exact (Kd.S_mono (Kd.S_far (p:=⟨gb139,2,none⟩) (Kd.S_far (p:=⟨gb139,1,none⟩) (Kd.S_far (p:=⟨gb139,0,none⟩) (Kd.S_types HO_6.out BK139.out (by decide)) (fun _ hk=>hk.2) (.int .i64 ((rd_T128 l0 x27_1).f0))) (fun _ hk=>hk.2) (.int .i64 ((rd_T128 l0 x27_1).f1))) (fun _ hk=>hk.2) (.int .i64 ((rd_T128 l0 x27_1).f2))) (fun _ h_=>h_.1))) (Kd.R_base ho78) hb);have n1_:=Aside0.mk (Kd.R_lower ho78 (below_size (by repeat (first|(with_reducible first|exact HB.out|apply below_alloc|apply pw_below_drewN|apply below_drew1|refine below_set ?_ GE134.out|refine below_set ?_ GE139.out)|exact HB.out))));have n2_:=Aside0.mk (blk_below (g:=gb134) (o:=.cells #[.int .i64 (ji12)] 3 (0,0)) (by (with_reducible repeat (first|refine blk_drewN ?_ _|refine blk_drew ?_|refine blk_alloc ?_ _));refine blk_far ?_ NB134_139.out _;(with_reducible repeat (first|refine blk_drewN ?_ _|refine blk_drew ?_|refine blk_alloc ?_ _));refine blk_far ?_ NB134_139.out _;(with_reducible repeat (first|refine blk_drewN ?_ _|refine blk_drew ?_|refine blk_alloc ?_ _));refine blk_far ?_ NB134_139.out _;(with_reducible repeat (first|refine blk_drewN ?_ _|refine blk_drew ?_|refine blk_alloc ?_ _));exact BK134.out) hb);have n3_:=Aside0.mk (blk_below (g:=gb139) (o:=.cells #[.int .i64 ((rd_T128 l0 x27_1).f0),.int .i64 ((rd_T128 l0 x27_1).f1),.int .i64 ((rd_T128 l0 x27_1).f2)] 128 (0,0)) (by (with_reducible repeat (first|refine blk_drewN ?_ _|refine blk_drew ?_|refine blk_alloc ?_ _));refine blk_put (cs:=#[.int .i64 ((rd_T128 l0 x27_1).f0),.int .i64 ((rd_T128 l0 x27_1).f1),.int .i64 0]) ?_ 2 _ rfl;(with_reducible repeat (first|refine blk_drewN ?_ _|refine blk_drew ?_|refine blk_alloc ?_ _));refine blk_put (cs:=#[.int .i64 ((rd_T128 l0 x27_1).f0),.int .i64 0,.int .i64 0]) ?_ 1 _ rfl;(with_reducible repeat (first|refine blk_drewN ?_ _|refine blk_drew ?_|refine blk_alloc ?_ _));refine blk_put (cs:=#[.int .i64 0,.int .i64 0,.int .i64 0]) ?_ 0 _ rfl;(with_reducible repeat (first|refine blk_drewN ?_ _|refine blk_drew ?_|refine blk_alloc ?_ _));exact BK139.out) hb);have n4_:=Aside0.mk (below_step (by repeat (first|(with_reducible first|exact HB.out|apply below_alloc|apply pw_below_drewN|apply below_drew1|refine below_set ?_ GE134.out|refine below_set ?_ GE139.out)|exact HB.out)) hb);clear HO_6;clear BK134;clear BK139;clear HB;have HO_6:=n0_;have HO142:=n1_;have BK134:=n2_;have BK139:=n3_;have HB:=n4_;clear n0_ n1_ n2_ n3_ n4_;clear hb ho78;have hcz79_0 : w77.cell? ⟨gb139,0,none⟩ = some (.int .i64 ((rd_T128 l0 x27_1).f0)):=(blk_cell BK139.out 0).trans rfl;have hcz79_1 : w77.cell? ⟨gb139,1,none⟩ = some (.int .i64 ((rd_T128 l0 x27_1).f1)):=(blk_cell BK139.out 1).trans rfl;have hcz79_2 : w77.cell? ⟨gb139,2,none⟩ = some (.int .i64 ((rd_T128 l0 x27_1).f2)):=(blk_cell BK139.out 2).trans rfl;have hfz79_0:=blk_frozen BK139.out 0;have hfz79_1:=blk_frozen BK139.out 1;have hfz79_2:=blk_frozen BK139.out 2))
                  have n0_:=Aside0.mk (Kd.S_drew HO_6.out)
                  have n1_:=Aside0.mk (Kd.R_drew HO142.out)
                  have n2_:=Aside0.mk (blk_drew BK134.out)
                  have n3_:=Aside0.mk (blk_drew BK139.out)
                  have n4_:=Aside0.mk (below_drew1 HB.out)
                  clear HO_6
                  clear HO142
                  clear BK134
                  clear BK139
                  clear HB
                  have HO_6:=n0_
                  have HO142:=n1_
                  have BK134:=n2_
                  have BK139:=n3_
                  have HB:=n4_
                  clear n0_ n1_ n2_ n3_ n4_
                  obtain ⟨Ao81,co81,eo81⟩:=Kd.S_slice HO_6.out
                  (first|subst eo81|(injection eo81 with f1_ f2_ f3_;have f4_:=f1_.symm;have f5_:=f3_.symm;clear f1_ f2_ f3_;subst f4_;subst f5_))
                  have p148 : 0 ≤ (((rd_T128 l0 x27_1).f1) : Int):=of_decide_eq_true (by first|(with_reducible assumption)|assumption)
                  have q148 : ((rd_T128 l0 x27_1).f1) < (x6_1.length : Int):=of_decide_eq_true (by first|(with_reducible assumption)|assumption)
                  obtain ⟨ad148,A148_0,c148_0,e148,hx148_0,hl148_0,hi148_0⟩:=at_L4 (Kd.S_reads' HO_6.out).2.2 ((rd_T128 l0 x27_1).f1) p148 q148
                  cases e148
                  obtain ⟨ce148,hce148,hMe148,hcc148⟩:=Kd.S_get HO_6.out [] ((rd_T128 l0 x27_1).f1) p148 (by first|exact q148|exact of_decide_eq_true (by first|(with_reducible assumption)|assumption)|(have e_:=(Kd.S_reads' HO_6.out).1;omega))
                  obtain ⟨ve148_0,rfl,ge148_0⟩:=id hMe148
                  have hv148_0:=hcc148 0 _ rfl
                  rw [Nat.add_zero,show ((Kd.slice 33 (Kd.int .u32))).sz = 1 from rfl,Nat.mul_one] at hv148_0
                  replace hv148_0:=Option.some.inj (hv148_0.symm.trans hx148_0)
                  rw [hv148_0] at ge148_0
                  have HL148_0:=Aside0.mk (show Kd.R (Kd.int .u32) 33 _ _ _ _ (rd_L4 x6_1 ((rd_T128 l0 x27_1).f1)) from ge148_0)
                  clear hv148_0 ge148_0
                  clear hcc148 hce148
                  have HR148_0:=Aside0.mk hi148_0
                  have HC148_0:=Aside0.mk hl148_0
                  clear hi148_0 hl148_0
                  replace p148:=eq_true p148
                  replace q148:=eq_true q148
                  have p149 : 0 ≤ (((rd_T128 l0 x27_1).f2) : Int):=of_decide_eq_true (by first|(with_reducible assumption)|assumption)
                  have q149 : ((rd_T128 l0 x27_1).f2) < (x6_1.length : Int):=of_decide_eq_true (by first|(with_reducible assumption)|assumption)
                  obtain ⟨ad149,A149_0,c149_0,e149,hx149_0,hl149_0,hi149_0⟩:=at_L4 (Kd.S_reads' HO_6.out).2.2 ((rd_T128 l0 x27_1).f2) p149 q149
                  obtain rfl : ad148 = ad149:=(by injection e149)
                  obtain ⟨ce149,hce149,hMe149,hcc149⟩:=Kd.S_get HO_6.out [] ((rd_T128 l0 x27_1).f2) p149 (by first|exact q149|exact of_decide_eq_true (by first|(with_reducible assumption)|assumption)|(have e_:=(Kd.S_reads' HO_6.out).1;omega))
                  obtain ⟨ve149_0,rfl,ge149_0⟩:=id hMe149
                  have hv149_0:=hcc149 0 _ rfl
                  rw [Nat.add_zero,show ((Kd.slice 33 (Kd.int .u32))).sz = 1 from rfl,Nat.mul_one] at hv149_0
                  replace hv149_0:=Option.some.inj (hv149_0.symm.trans hx149_0)
                  rw [hv149_0] at ge149_0
                  have HL149_0:=Aside0.mk (show Kd.R (Kd.int .u32) 33 _ _ _ _ (rd_L4 x6_1 ((rd_T128 l0 x27_1).f2)) from ge149_0)
                  clear hv149_0 ge149_0
                  clear hcc149 hce149
                  have HR149_0:=Aside0.mk hi149_0
                  have HC149_0:=Aside0.mk hl149_0
                  clear hi149_0 hl149_0
                  replace p149:=eq_true p149
                  replace q149:=eq_true q149
                  refine start_ (n:=13) (S:=fun w'=>w'.cell? ⟨gb139,0,none⟩ = some (.int .i64 ((rd_T128 l0 x27_1).f0)) ∧ w'.cell? ⟨gb139,1,none⟩ = some (.int .i64 ((rd_T128 l0 x27_1).f1)) ∧ w'.cell? ⟨gb139,2,none⟩ = some (.int .i64 ((rd_T128 l0 x27_1).f2)) ∧ w'.cell? (ad148.add (((rd_T128 l0 x27_1).f1)).toNat) = some (.slice A148_0 (rd_L4 x6_1 ((rd_T128 l0 x27_1).f1)).length c148_0) ∧ w'.cell? (ad148.add (((rd_T128 l0 x27_1).f2)).toNat) = some (.slice A149_0 (rd_L4 x6_1 ((rd_T128 l0 x27_1).f2)).length c149_0)) (ds:=[]) #[false,false,false,false,false,false,false,false,false,false,false,false,false] (by kernel_rfl) rfl rfl ⟨(blk_cell BK139.out 0).trans rfl,(blk_cell BK139.out 1).trans rfl,(blk_cell BK139.out 2).trans rfl,hx148_0,hx149_0⟩ (fun hHeld=>?_);refine with_tabW sentence_spans.tab23 sentence_spans.bits23 (fun HT_ HW_=>?_)
                  generalize w77.drew = w80 at HO_6 HO142 BK134 BK139 HB HL148_0 HL149_0 HR148_0 HR149_0 hx148_0 hx149_0 hHeld ⊢
                  refine pure_ (i:=0) (N:=some 71) (v:=?_) (a':=?_) #[true,false,false,false,false,false,false,false,false,false,false,false,false] rfl rfl (any_of HT_.out (by kernel_rfl)) (fun _ _ _ h=>h) (Or.inl ⟨by rfl,?_⟩) ?_ ?_
                  rotate_left
                  ·intro w'
                   go_simp
                   with_reducible rfl
                  rotate_left
                  ·simp only [Act.put,List.setIfInBounds_toArray,List.set_cons_zero,List.set_cons_succ,i64_w,i32_w]
                   rfl
                  refine pure_ (i:=1) (N:=some 72) (v:=?_) (a':=?_) #[true,true,false,false,false,false,false,false,false,false,false,false,false] rfl rfl (any_of HT_.out (by kernel_rfl)) (fun _ _ _ h=>h) (Or.inl ⟨by rfl,?_⟩) ?_ ?_
                  rotate_left
                  ·intro w'
                   go_simp
                   with_reducible rfl
                  rotate_left
                  ·simp only [Act.put,List.setIfInBounds_toArray,List.set_cons_zero,List.set_cons_succ,i64_w,i32_w]
                   rfl
                  refine pure_ (i:=2) (N:=some 73) (v:=?_) (a':=?_) #[true,true,true,false,false,false,false,false,false,false,false,false,false] rfl rfl (any_of HT_.out (by kernel_rfl)) (fun _ _ _ h=>h) (Or.inl ⟨by rfl,?_⟩) ?_ ?_
                  rotate_left
                  ·intro w'
                   go_simp
                   with_reducible rfl
                  rotate_left
                  ·simp only [Act.put,List.setIfInBounds_toArray,List.set_cons_zero,List.set_cons_succ,i64_w,i32_w]
                   rfl
                  refine pure_ (i:=6) (N:=some 77) (v:=?_) (a':=?_) #[true,true,true,false,false,false,true,false,false,false,false,false,false] rfl rfl (any_of HT_.out (by kernel_rfl)) (fun _ _ _ h=>h) (Or.inl ⟨by rfl,?_⟩) ?_ ?_
                  rotate_left
                  ·intro w'
                   go_simp
                   with_reducible rfl
                  rotate_left
                  ·simp only [Act.put,List.setIfInBounds_toArray,List.set_cons_zero,List.set_cons_succ,i64_w,i32_w]
                   rfl
                  refine pure_ (i:=7) (N:=some 78) (v:=?_) (a':=?_) #[true,true,true,false,false,false,true,true,false,false,false,false,false] rfl rfl (any_of HT_.out (by kernel_rfl)) (fun _ _ _ h=>h) (Or.inl ⟨by rfl,?_⟩) ?_ ?_
                  rotate_left
                  ·intro w'
                   go_simp
                   with_reducible rfl
                  rotate_left
                  ·simp only [Act.put,List.setIfInBounds_toArray,List.set_cons_zero,List.set_cons_succ,i64_w,i32_w]
                   rfl
                  refine take_ (i:=3) (N:=some 74) (v:=?_) (a':=?_) #[true,true,true,true,false,false,true,true,false,false,false,false,false] rfl rfl (take_ofW HT_.out HW_.out (by kernel_rfl)) (fun _ _ _ h=>h) (Or.inl ⟨by rfl,?_⟩) hHeld ?_ ?_
                  rotate_left
                  ·rintro w' ⟨s0,s1,s2,s3,s4⟩
                   go_simp
                   with_reducible rfl
                  rotate_left
                  ·simp only [Act.put,List.setIfInBounds_toArray,List.set_cons_zero,List.set_cons_succ,i64_w,i32_w]
                   rfl
                  refine pure_ (i:=4) (N:=some 75) (v:=?_) (a':=?_) #[true,true,true,true,true,false,true,true,false,false,false,false,false] rfl rfl (any_of HT_.out (by kernel_rfl)) (fun _ _ _ h=>h) (Or.inl ⟨by rfl,?_⟩) ?_ ?_
                  rotate_left
                  ·intro w'
                   go_simp
                   with_reducible rfl
                  rotate_left
                  ·simp only [Act.put,List.setIfInBounds_toArray,List.set_cons_zero,List.set_cons_succ,i64_w,i32_w]
                   rfl
                  refine take_ (i:=5) (N:=some 76) (v:=?_) (a':=?_) #[true,true,true,true,true,true,true,true,false,false,false,false,false] rfl rfl (take_ofW HT_.out HW_.out (by kernel_rfl)) (fun _ _ _ h=>h) (Or.inl ⟨by rfl,?_⟩) hHeld ?_ ?_
                  rotate_left
                  ·rintro w' ⟨s0,s1,s2,s3,s4⟩
                   go_simp
                   with_reducible rfl
                  rotate_left
                  ·simp only [Act.put,List.setIfInBounds_toArray,List.set_cons_zero,List.set_cons_succ,i64_w,i32_w]
                   rfl
                  refine take_ (i:=8) (N:=some 79) (v:=?_) (a':=?_) #[true,true,true,true,true,true,true,true,true,false,false,false,false] rfl rfl (take_ofW HT_.out HW_.out (by kernel_rfl)) (fun _ _ _ h=>h) (Or.inl ⟨by rfl,?_⟩) hHeld ?_ ?_
                  rotate_left
                  ·rintro w' ⟨s0,s1,s2,s3,s4⟩
                   go_simp
                   with_reducible rfl
                  rotate_left
                  ·simp only [Act.put,List.setIfInBounds_toArray,List.set_cons_zero,List.set_cons_succ,i64_w,i32_w]
                   rfl
                  refine pure_ (i:=9) (N:=some 80) (v:=?_) (a':=?_) #[true,true,true,true,true,true,true,true,true,true,false,false,false] rfl rfl (any_of HT_.out (by kernel_rfl)) (fun _ _ _ h=>h) (Or.inl ⟨by rfl,?_⟩) ?_ ?_
                  rotate_left
                  ·intro w'
                   go_simp
                   with_reducible rfl
                  rotate_left
                  ·simp only [Act.put,List.setIfInBounds_toArray,List.set_cons_zero,List.set_cons_succ,i64_w,i32_w]
                   rfl
                  refine take_ (i:=10) (N:=some 81) (v:=?_) (a':=?_) #[true,true,true,true,true,true,true,true,true,true,true,false,false] rfl rfl (take_ofW HT_.out HW_.out (by kernel_rfl)) (fun _ _ _ h=>h) (Or.inl ⟨by rfl,?_⟩) hHeld ?_ ?_
                  rotate_left
                  ·rintro w' ⟨s0,s1,s2,s3,s4⟩
                   go_simp
                   with_reducible rfl
                  rotate_left
                  ·simp only [Act.put,List.setIfInBounds_toArray,List.set_cons_zero,List.set_cons_succ,i64_w,i32_w]
                   rfl
                  refine one_ (i:=11) (N:=some 82) #[true,true,true,true,true,true,true,true,true,true,true,true,false] rfl rfl (one_of HT_.out (by kernel_rfl)) (by decide) (fun K hK=>?_)
                  refine goesv_ Try.func95 (by kernel_rfl) rfl #[.slice A148_0 (rd_L4 x6_1 ((rd_T128 l0 x27_1).f1)).length c148_0,.slice A149_0 (rd_L4 x6_1 ((rd_T128 l0 x27_1).f2)).length c149_0,.pointer (some ⟨gb134,0,none⟩)] (by rfl) rfl rfl (by rfl) (by (try simp only [List.map_toArray,List.map_cons,List.map_nil]);first|done|rfl|(simp only [List.length_drop,List.length_take];rfl)) ?_
                  with_reducible refine (sentence_spans_1.calls k1 _ _ (rd_L4 x6_1 ((rd_T128 l0 x27_1).f1)) _ _ (rd_L4 x6_1 ((rd_T128 l0 x27_1).f2)) gb134 #[.int .i64 (ji12)] (ji12) t150 _ ?side1 ?side2 ?side3 ?side4 ?side5 ?side6 A70.out).mono ?_
                  (case side1=>repeat (first|exact (by repeat (first|(with_reducible exact HR148_0.out)|(with_reducible refine Kd.C_alloc ?_ _)|(with_reducible refine Kd.C_drewN ?_ _)|(with_reducible refine Kd.C_drew ?_)|exact HR148_0.out))|(with_reducible refine Kd.C_alloc ?_ _)|(with_reducible refine Kd.C_drewN ?_ _)|(with_reducible refine Kd.C_drew ?_)))
                  (case side2=>exact HC148_0.out)
                  (case side3=>repeat (first|exact (by repeat (first|(with_reducible exact HR149_0.out)|(with_reducible refine Kd.C_alloc ?_ _)|(with_reducible refine Kd.C_drewN ?_ _)|(with_reducible refine Kd.C_drew ?_)|exact HR149_0.out))|(with_reducible refine Kd.C_alloc ?_ _)|(with_reducible refine Kd.C_drewN ?_ _)|(with_reducible refine Kd.C_drew ?_)))
                  (case side4=>exact HC149_0.out)
                  (case side5=>exact by (with_reducible repeat (first|refine blk_drewN ?_ _|refine blk_drew ?_|refine blk_alloc ?_ _));exact BK134.out)
                  (case side6=>rfl)
                  rintro e w82 ⟨v151,rfl,ho0,hb⟩
                  have HS3_:=(hb.cell (World.block_lt_of_cell? _ _ (hHeld.2.2.2.1))).trans (hHeld.2.2.2.1)
                  have HS4_:=(hb.cell (World.block_lt_of_cell? _ _ (hHeld.2.2.2.2))).trans (hHeld.2.2.2.2)
                  refine ⟨_,rfl,?_⟩
                  have n0_:=Aside0.mk (Kd.S_elder' (by (with_reducible repeat (first|apply Kd.S_alloc|apply Kd.S_drewN|apply Kd.S_drew));exact HO_6.out) (Kd.R_base ho0) hb)
                  have n1_:=Aside0.mk (Kd.R_elder' (by (with_reducible repeat (first|apply Kd.R_alloc|apply Kd.R_drewN|apply Kd.R_drew));exact HO142.out) (Kd.R_base ho0) hb)
                  have n2_:=Aside0.mk (Kd.R_elder' (by (with_reducible repeat (first|apply Kd.R_alloc|apply Kd.R_drewN|apply Kd.R_drew));exact HL148_0.out) (Kd.R_base ho0) hb)
                  have n3_:=Aside0.mk (Kd.R_elder' (by (with_reducible repeat (first|apply Kd.R_alloc|apply Kd.R_drewN|apply Kd.R_drew));exact HL149_0.out) (Kd.R_base ho0) hb)
                  have n4_:=Aside0.mk (Kd.R_lower (Kd.R_new' (Kd.R_new' (Kd.R_new' ho0 (Kd.R_lt (by (with_reducible repeat (first|apply Kd.R_alloc|apply Kd.R_drewN|apply Kd.R_drew));exact HO142.out))) (Kd.R_lt (by (with_reducible repeat (first|apply Kd.R_alloc|apply Kd.R_drewN|apply Kd.R_drew));exact HL148_0.out))) (Kd.R_lt (by (with_reducible repeat (first|apply Kd.R_alloc|apply Kd.R_drewN|apply Kd.R_drew));exact HL149_0.out))) (below_size (by repeat (first|(with_reducible first|exact HB.out|apply below_alloc|apply pw_below_drewN|apply below_drew1|refine below_set ?_ GE134.out|refine below_set ?_ GE139.out)|exact HB.out))))
                  have n5_:=Aside0.mk (blk_below (g:=gb134) (o:=.cells #[.int .i64 (ji12)] 3 (0,0)) (by (with_reducible repeat (first|refine blk_drewN ?_ _|refine blk_drew ?_|refine blk_alloc ?_ _));exact BK134.out) hb)
                  have n6_:=Aside0.mk (blk_below (g:=gb139) (o:=.cells #[.int .i64 ((rd_T128 l0 x27_1).f0),.int .i64 ((rd_T128 l0 x27_1).f1),.int .i64 ((rd_T128 l0 x27_1).f2)] 128 (0,0)) (by (with_reducible repeat (first|refine blk_drewN ?_ _|refine blk_drew ?_|refine blk_alloc ?_ _));exact BK139.out) hb)
                  have n7_:=Aside0.mk (Kd.C_below (by repeat (first|(with_reducible exact HR148_0.out)|(with_reducible refine Kd.C_alloc ?_ _)|(with_reducible refine Kd.C_drewN ?_ _)|(with_reducible refine Kd.C_drew ?_)|exact HR148_0.out)) hb)
                  have n8_:=Aside0.mk (Kd.C_below (by repeat (first|(with_reducible exact HR149_0.out)|(with_reducible refine Kd.C_alloc ?_ _)|(with_reducible refine Kd.C_drewN ?_ _)|(with_reducible refine Kd.C_drew ?_)|exact HR149_0.out)) hb)
                  have n9_:=Aside0.mk (below_step (by repeat (first|(with_reducible first|exact HB.out|apply below_alloc|apply pw_below_drewN|apply below_drew1|refine below_set ?_ GE134.out|refine below_set ?_ GE139.out)|exact HB.out)) hb)
                  clear HO_6
                  clear HO142
                  clear HL148_0
                  clear HL149_0
                  clear BK134
                  clear BK139
                  clear HR148_0
                  clear HR149_0
                  clear HB
                  have HO_6:=n0_
                  have HO142:=n1_
                  have HL148_0:=n2_
                  have HL149_0:=n3_
                  have HO152:=n4_
                  have BK134:=n5_
                  have BK139:=n6_
                  have HR148_0:=n7_
                  have HR149_0:=n8_
                  have HB:=n9_
                  clear n0_ n1_ n2_ n3_ n4_ n5_ n6_ n7_ n8_ n9_
                  (try clear hb)
                  (try clear hb2)
                  (try clear hk)
                  (try clear hi)
                  (try clear ho0)
                  refine hK.out _ _ ⟨(blk_cell BK139.out 0).trans rfl,(blk_cell BK139.out 1).trans rfl,(blk_cell BK139.out 2).trans rfl,HS3_,HS4_⟩ (fun hHeld=>?_)
                  clear hK K
                  refine norm_ (a':=?_) ?_ ?_
                  rotate_left
                  ·show Act.put _ (some 82) _ = _
                   simp only [Act.put,List.setIfInBounds_toArray,List.set_cons_zero,List.set_cons_succ,i64_w,i32_w]
                   rfl
                  refine pure_ (i:=12) (N:=some 10) (v:=?_) (a':=?_) #[true,true,true,true,true,true,true,true,true,true,true,true,true] rfl rfl (any_of HT_.out (by kernel_rfl)) (fun _ _ _ h=>h) (Or.inl ⟨by rfl,?_⟩) ?_ ?_
                  rotate_left
                  ·intro w'
                   go_simp
                   with_reducible rfl
                  rotate_left
                  ·simp only [Act.put,List.setIfInBounds_toArray,List.set_cons_zero,List.set_cons_succ,i64_w,i32_w]
                   rfl
                  refine done_ (done_of HT_.out (by kernel_rfl)) ?_
                  have p72 : 0 ≤ (x27_1 : Int):=of_decide_eq_true (by first|(with_reducible assumption)|assumption)
                  have q72 : (x27_1 : Int) < ((x6_1.length : Int) : Int):=of_decide_eq_true (by first|(with_reducible assumption)|assumption)
                  obtain ⟨go72,co72,eo72,gb72,gl72,cl72,HG72⟩:=Kd.S_form HO_6.out (by omega)
                  (first|cases eo72|(injection eo72 with ea_ en_ ec_;(first|subst ea_|(injection ea_ with ea_;subst ea_));subst ec_;clear en_))
                  have GB72:=Aside0.mk gb72
                  have GG72:=Aside0.mk HG72
                  clear gb72 gl72 HG72
                  (first|simp only [add_plain] at hx148_0|skip)
                  (first|simp only [add_plain] at hx149_0|skip)
                  obtain ⟨_,ce72,hcl72,hM72,hcc72,hfr72,_,_⟩:=Kd.S_elem HO_6.out [] (x27_1 : Int) p72 q72
                  obtain ⟨ve72_0,rfl,ge72_0⟩:=id hM72
                  have hx72_0:=hcc72 0 _ rfl
                  have hf72_0:=hfr72 0
                  (try simp only [show ((Kd.slice 33 (Kd.int .u32))).sz = 1 from rfl,Nat.mul_one,Nat.add_zero] at hx72_0)
                  (try simp only [show ((Kd.slice 33 (Kd.int .u32))).sz = 1 from rfl,Nat.mul_one,Nat.add_zero] at hf72_0)
                  clear hcl72 hcc72 hfr72 hM72
                  replace p72:=eq_true p72
                  replace q72:=eq_true q72
                  obtain ⟨Ao83,co83,eo83⟩:=Kd.R_slice HO152.out
                  subst eo83
                  have n_:=Aside0.mk (Kd.S_mono (ok':=(fun k_=>some k_ ≠ (v141 : Value).ownBlock ∧ some k_ ≠ (.slice Ao83 t150.length co83 : Value).ownBlock)) HO_6.out (fun k_ hk=>⟨hk.1.2,hk.2⟩))
                  clear HO_6
                  have HO_6:=n_
                  clear n_
                  have HX84:=Aside0.mk (show Kd.S (Kd.slice 33 (Kd.int .u32)) 133 w82 w.heap.size (fun k_=>((fun k_=>some k_ ≠ (v141 : Value).ownBlock)) k_ ∧ ¬ ((fun k_=>some k_ = (.slice Ao83 t150.length co83 : Value).ownBlock)) k_) (.slice (some ⟨go72,0,none⟩) x6_1.length co81) x6_1 from (by (with_reducible repeat (first|apply Kd.S_alloc|apply Kd.S_drewN|apply Kd.S_drew));exact Kd.S_mono HO_6.out (fun k_ hk=>⟨hk.1,fun e_=>hk.2 e_⟩)))
                  obtain ⟨oki84,ce84,hcl84,hM84,hcc84,hfr84,hoki84,hH84⟩:=Kd.S_elem HX84.out [] (x27_1 : Int) (of_decide_eq_true (by first|(with_reducible assumption)|assumption)) (by have h_ : (x27_1 : Int) < ((x6_1.length : Int) : Int):=of_decide_eq_true (by first|(with_reducible assumption)|assumption);first|exact h_|(have e_:=(Kd.S_reads' HO_6.out).1;omega)|simpa using h_)
                  obtain ⟨ve84_0,rfl,ge84_0⟩:=id hM84
                  have HP84:=Kd.S_seg hH84 (of_decide_eq_true (by first|(with_reducible assumption)|assumption)) (by have h_ : (x27_1 : Int) < ((x6_1.length : Int) : Int):=of_decide_eq_true (by first|(with_reducible assumption)|assumption);first|exact h_|(have e_:=(Kd.S_reads' HO_6.out).1;omega)|simpa using h_) (seg:=[.slice Ao83 t150.length co83]) (j:=0) (show 1 ≤ 1 from by decide) (x':=t150) (Kd.M_row (Kd.R_mono (Kd.R_tight rfl (Kd.R_mono (ok':=fun k_=>((fun k_=>some k_ ≠ (v141 : Value).ownBlock)) k_ ∧ k_ ≠ go72) (Kd.R_apart' (HO152.out) (Kd.S_typed HO_6.out) (by decide)) (fun k_ hk=>⟨hk.1.1.1.2,fun e_=>(hk.2) (by rw [e_];rfl)⟩))) (fun _ h_=>Or.inr (h_)))) (fun _ hk=>hk) (fun k_ hk_=>((Kd.R_mono (ok':=fun k_=>((fun k_=>some k_ ≠ (v141 : Value).ownBlock)) k_ ∧ k_ ≠ go72) (Kd.R_apart' (HO152.out) (Kd.S_typed HO_6.out) (by decide)) (fun k_ hk=>⟨hk.1.1.1.2,fun e_=>(hk.2) (by rw [e_];rfl)⟩))).1 k_ hk_.symm)
                  have hx84_0:=hcc84 0 _ rfl
                  (try simp only [show ((Kd.slice 33 (Kd.int .u32))).sz = 1 from rfl,Nat.mul_one,Nat.add_zero] at hx84_0)
                  have hf84_0:=hfr84 0
                  (try simp only [show ((Kd.slice 33 (Kd.int .u32))).sz = 1 from rfl,Nat.mul_one,Nat.add_zero] at hf84_0)
                  clear hcl84 hcc84 hfr84 hM84 hoki84 hH84
                  (try simp only [show ((Kd.slice 33 (Kd.int .u32))).sz = 1 from rfl,Nat.mul_one,Nat.add_zero] at HP84)
                  try go_wp2_with (first|((with_reducible refine gate_store (t:=133) (p:=155) rfl ?_);refine store_event (t:=133) (p:=155) (v:=?vo_w85) (w1:=(w82.setCell ⟨go72,(x27_1 : Int).toNat,none⟩ (.slice Ao83 t150.length co83))) ?hg ?ho ?hn ?hr ?_;(case ho=>rfl);(case hg=>rfl);(case hn=>rfl);(case hr=>first|(go_simp;done)|(go_simp;rfl));intro w85 hw;have hg : w82.grownBy w85 (some go72):=(by rw [hw];exact HP84.2);have hp_ : Kd.S (Kd.slice 33 (Kd.int .u32)) 133 w85 w.heap.size (fun k_=>some k_ ≠ (v141 : Value).ownBlock) (.slice (some ⟨go72,0,none⟩) x6_1.length co81) y153:=(by rw [hw,Ny153.out];exact HP84.1);clear HP84;have n0_:=Aside0.mk (hp_);have n1_:=Aside0.mk (blk_grown (g:=gb134) (o:=.cells #[.int .i64 (ji12)] 3 (0,0)) (by (with_reducible repeat (first|refine blk_drewN ?_ _|refine blk_drew ?_|refine blk_alloc ?_ _));exact BK134.out) hg (Kd.S_ne HO_6.out BK134.out (by decide)));have n2_:=Aside0.mk (blk_grown (g:=gb139) (o:=.cells #[.int .i64 ((rd_T128 l0 x27_1).f0),.int .i64 ((rd_T128 l0 x27_1).f1),.int .i64 ((rd_T128 l0 x27_1).f2)] 128 (0,0)) (by (with_reducible repeat (first|refine blk_drewN ?_ _|refine blk_drew ?_|refine blk_alloc ?_ _));exact BK139.out) hg (Kd.S_ne HO_6.out BK139.out (by decide)));have n3_:=Aside0.mk (Kd.R_over' (v:=(.slice (some ⟨go72,0,none⟩) x6_1.length co81)) (by (with_reducible repeat (first|apply Kd.R_alloc|apply Kd.R_drewN|apply Kd.R_drew));exact HO142.out) (Kd.S_typed HO_6.out) (by decide) hg);have n4_:=Aside0.mk (Kd.R_after (v:=(.slice (some ⟨go72,0,none⟩) x6_1.length co81)) (v1:=(.slice (some ⟨go72,0,none⟩) x6_1.length co81)) (ok:=(fun k_=>some k_ ≠ (v141 : Value).ownBlock ∧ some k_ ≠ (.slice Ao83 t150.length co83 : Value).ownBlock)) (by (with_reducible repeat (first|apply Kd.R_alloc|apply Kd.R_drewN|apply Kd.R_drew));exact Kd.R_mono HL148_0.out (fun _ hk=>⟨⟨hk.1.1.2,hk.2⟩,hk.1.2⟩)) hg (.inl rfl));have n5_:=Aside0.mk (Kd.R_after (v:=(.slice (some ⟨go72,0,none⟩) x6_1.length co81)) (v1:=(.slice (some ⟨go72,0,none⟩) x6_1.length co81)) (ok:=(fun k_=>some k_ ≠ (v141 : Value).ownBlock ∧ some k_ ≠ (.slice Ao83 t150.length co83 : Value).ownBlock)) (by (with_reducible repeat (first|apply Kd.R_alloc|apply Kd.R_drewN|apply Kd.R_drew));exact Kd.R_mono HL149_0.out (fun _ hk=>⟨⟨hk.1.1.2,hk.2⟩,hk.1.2⟩)) hg (.inl rfl));have n6_:=Aside0.mk ((by rw [hw];exact below_set (HB.out) GB72.out : Below w.heap.size w w85));clear HO_6;clear BK134;clear BK139;clear HO142;clear HL148_0;clear HL149_0;clear HB;clear HO152;have HO_6:=n0_;have BK134:=n1_;have BK139:=n2_;have HO142:=n3_;have HL148_0:=n4_;have HL149_0:=n5_;have HB:=n6_;clear n0_ n1_ n2_ n3_ n4_ n5_ n6_;clear hg hw hp_))
                  first|go_roundg k1|((simp only [← hji12]);go_roundg k1)
                  case measure=>have:=HK1.out;omega
                  case rel=>exact ⟨(y153),(wrap64 (x27_1 + 1)),(by first|rfl|(simp;done)|(simp [*];done)),(by first|exact H'|((simp only [hji12]);exact H')|(have h_:=H'.out;simp only [← hji12] at h_ ⊢;exact ⟨h_⟩)),⟨by have:=HK1.out;omega⟩,⟨by (with_reducible repeat (first|apply Kd.S_alloc|apply Kd.S_drewN|apply Kd.S_drew));exact Kd.S_mono HO_6.out (fun _ hk=>trivial)⟩,⟨by (with_reducible repeat (first|refine blk_drewN ?_ _|refine blk_drew ?_|refine blk_alloc ?_ _));(first|exact BK134.out|(have h_:=BK134.out;simp only [← hji12] at h_;exact h_))⟩,⟨by repeat (first|(with_reducible first|exact HB.out|apply below_alloc|apply pw_below_drewN|apply below_drew1|refine below_set ?_ GE134.out|refine below_set ?_ GE139.out)|exact HB.out)⟩⟩
                 ·rw [if_neg c71] at H
                  exact absurd H (by simp)
                ·rw [if_neg c69] at H
                 exact absurd H (by simp)
               ·rw [if_neg c68] at H
                exact absurd H (by simp)
              ·rw [if_neg c67] at H
               exact absurd H (by simp)
             ·rw [if_neg c66] at H
              exact absurd H (by simp)
            ·rw [if_neg c65] at H
             have c65b0 : (((rd_T128 l0 x27_1).f0) == 4) = false:=beq_eq_false_iff_ne.mpr c65
             have c65b1 : (((rd_T128 l0 x27_1).f0) != 4) = true:=bne_iff_ne.mpr c65
             by_cases c86 : ((rd_T128 l0 x27_1).f0) = 5
             ·rw [if_pos c86] at H
              have c86b0 : (((rd_T128 l0 x27_1).f0) == 5) = true:=beq_iff_eq.mpr c86
              have c86b1 : (((rd_T128 l0 x27_1).f0) != 5) = false:=bne_eq_false_iff_eq.mpr c86
              clear c86
              have H':=Aside0.mk H
              clear H
              have p138 : 0 ≤ (x27_1 : Int):=of_decide_eq_true (by first|(with_reducible assumption)|assumption)
              have q138 : x27_1 < (l0.length : Int):=of_decide_eq_true (by first|(with_reducible assumption)|assumption)
              obtain ⟨ad138,e138,hx138_0,hx138_1,hx138_2⟩:=at_T128 HR0.out x27_1 p138 q138
              cases e138
              replace hx138_0:=(HB.out.cell (World.block_lt_of_cell? w _ hx138_0)).trans hx138_0
              replace hx138_1:=(HB.out.cell (World.block_lt_of_cell? w _ hx138_1)).trans hx138_1
              replace hx138_2:=(HB.out.cell (World.block_lt_of_cell? w _ hx138_2)).trans hx138_2
              replace p138:=eq_true p138
              replace q138:=eq_true q138
              go_wp2_with (first|((with_reducible refine gate_dst (N:=9) rfl ?_);refine box_event ?hg (N:=9) ?hd (cs:=#[.int .i64 0,.int .i64 0,.int .i64 0]) (t:=128) ?hr ?_;(case hd=>rfl);(case hg=>rfl);(case hr=>first|(go_simp;done)|(go_simp;rfl));intro gb139 hg w87 hbox hb;have n0_:=Aside0.mk (Kd.S_below (by (with_reducible repeat (first|apply Kd.S_alloc|apply Kd.S_drewN|apply Kd.S_drew));exact HO_6.out) hb);have n1_:=Aside0.mk (blk_below (g:=gb134) (o:=.cells #[.int .i64 (ji12)] 3 (0,0)) (by (with_reducible repeat (first|refine blk_drewN ?_ _|refine blk_drew ?_|refine blk_alloc ?_ _));exact BK134.out) hb);have n2_:=Aside0.mk (below_step (by repeat (first|(with_reducible first|exact HB.out|apply below_alloc|apply pw_below_drewN|apply below_drew1|refine below_set ?_ GE134.out)|exact HB.out)) hb);have n3_:=Aside0.mk (hbox);have n4_:=Aside0.mk ((by rw [hg];exact (below_size (by repeat (first|(with_reducible first|exact HB.out|apply below_alloc|apply pw_below_drewN|apply below_drew1|refine below_set ?_ GE134.out)|exact HB.out))) : w.heap.size ≤ gb139));have n5_:=Aside0.mk ((by rw [hg];exact (below_size (by repeat (first|(with_reducible first|exact HB.out|apply below_alloc|apply pw_below_drewN|apply below_drew1|refine below_set ?_ GE134.out)|exact HB.out))) : w.heap.size ≤ gb139));have n6_:=Aside0.mk ((by rw [hg];exact Nat.ne_of_lt (blk_lt (g:=gb134) (o:=.cells #[.int .i64 (ji12)] 3 (0,0)) (by (with_reducible repeat (first|refine blk_drewN ?_ _|refine blk_drew ?_|refine blk_alloc ?_ _));exact BK134.out)) : gb134 ≠ gb139));have n7_:=Aside0.mk ((by rw [hg];exact Nat.ne_of_gt (blk_lt (g:=gb134) (o:=.cells #[.int .i64 (ji12)] 3 (0,0)) (by (with_reducible repeat (first|refine blk_drewN ?_ _|refine blk_drew ?_|refine blk_alloc ?_ _));exact BK134.out)) : gb139 ≠ gb134));clear HO_6;clear BK134;clear HB;have HO_6:=n0_;have BK134:=n1_;have HB:=n2_;have BK139:=n3_;have GW139:=n4_;have GE139:=n5_;have NB134_139:=n6_;have NB139_134:=n7_;clear n0_ n1_ n2_ n3_ n4_ n5_ n6_ n7_;clear hb hbox hg;have hnb88:=NB139_134.out;have hnc88:=NB134_139.out;have hcz89_0 : w87.cell? ⟨gb139,0,none⟩ = some (.int .i64 0):=(blk_cell BK139.out 0).trans rfl;have hcz89_1 : w87.cell? ⟨gb139,1,none⟩ = some (.int .i64 0):=(blk_cell BK139.out 1).trans rfl;have hcz89_2 : w87.cell? ⟨gb139,2,none⟩ = some (.int .i64 0):=(blk_cell BK139.out 2).trans rfl;have hfz89_0:=blk_frozen BK139.out 0;have hfz89_1:=blk_frozen BK139.out 1;have hfz89_2:=blk_frozen BK139.out 2;have hcz90_0 : w87.cell? ⟨gb134,0,none⟩ = some (.int .i64 (ji12)):=(blk_cell BK134.out 0).trans rfl;have hfz90_0:=blk_frozen BK134.out 0)|((with_reducible refine gate_dst (N:=33) rfl ?_);refine Kd.R_make (Kd.int .u32) _ 33 rfl (N:=33) rfl 133 _ _ rfl (ji12) rfl rfl Try.underlying133 (.int .u32 0) 4 info33 rfl (by decide) (by omega) 0 (ok:=fun _=>True) (okp:=fun _=>True) rfl (fun _ hk=>hk) trivial (of_decide_eq_true (by first|(with_reducible assumption)|assumption)) (Nat.le_trans (Nat.mul_le_mul_right _ (of_decide_eq_true (by first|(with_reducible assumption)|assumption) : (ji12).toNat ≤ 70368744177664)) (by omega)) (Below.refl _ _) (Nat.le_refl _) ?_;intro v141 w91 ho92 hb hg_ hnew_;clear hg_ hnew_;(first|rw [← Ny140.out] at ho92|(simp only [Int.reduceToNat] at ho92;rw [← Ny140.out] at ho92));have n0_:=Aside0.mk (Kd.S_elder' (by (with_reducible repeat (first|apply Kd.S_alloc|apply Kd.S_drewN|apply Kd.S_drew));exact (Kd.S_mono (Kd.S_far (p:=⟨gb139,2,none⟩) (Kd.S_far (p:=⟨gb139,1,none⟩) (Kd.S_far (p:=⟨gb139,0,none⟩) (Kd.S_types HO_6.out BK139.out (by decide)) (fun _ hk=>hk.2) (.int .i64 ((rd_T128 l0 x27_1).f0))) (fun _ hk=>hk.2) (.int .i64 ((rd_T128 l0 x27_1).f1))) (fun _ hk=>hk.2) (.int .i64 ((rd_T128 l0 x27_1).f2))) (fun _ h_=>h_.1))) (Kd.R_base ho92) hb);have n1_:=Aside0.mk (Kd.R_lower ho92 (below_size (by repeat (first|(with_reducible first|exact HB.out|apply below_alloc|apply pw_below_drewN|apply below_drew1|refine below_set ?_ GE134.out|refine below_set ?_ GE139.out)|exact HB.out))));have n2_:=Aside0.mk (blk_below (g:=gb134) (o:=.cells #[.int .i64 (ji12)] 3 (0,0)) (by (with_reducible repeat (first|refine blk_drewN ?_ _|refine blk_drew ?_|refine blk_alloc ?_ _));refine blk_far ?_ NB134_139.out _;(with_reducible repeat (first|refine blk_drewN ?_ _|refine blk_drew ?_|refine blk_alloc ?_ _));refine blk_far ?_ NB134_139.out _;(with_reducible repeat (first|refine blk_drewN ?_ _|refine blk_drew ?_|refine blk_alloc ?_ _));refine blk_far ?_ NB134_139.out _;(with_reducible repeat (first|refine blk_drewN ?_ _|refine blk_drew ?_|refine blk_alloc ?_ _));exact BK134.out) hb);have n3_:=Aside0.mk (blk_below (g:=gb139) (o:=.cells #[.int .i64 ((rd_T128 l0 x27_1).f0),.int .i64 ((rd_T128 l0 x27_1).f1),.int .i64 ((rd_T128 l0 x27_1).f2)] 128 (0,0)) (by (with_reducible repeat (first|refine blk_drewN ?_ _|refine blk_drew ?_|refine blk_alloc ?_ _));refine blk_put (cs:=#[.int .i64 ((rd_T128 l0 x27_1).f0),.int .i64 ((rd_T128 l0 x27_1).f1),.int .i64 0]) ?_ 2 _ rfl;(with_reducible repeat (first|refine blk_drewN ?_ _|refine blk_drew ?_|refine blk_alloc ?_ _));refine blk_put (cs:=#[.int .i64 ((rd_T128 l0 x27_1).f0),.int .i64 0,.int .i64 0]) ?_ 1 _ rfl;(with_reducible repeat (first|refine blk_drewN ?_ _|refine blk_drew ?_|refine blk_alloc ?_ _));refine blk_put (cs:=#[.int .i64 0,.int .i64 0,.int .i64 0]) ?_ 0 _ rfl;(with_reducible repeat (first|refine blk_drewN ?_ _|refine blk_drew ?_|refine blk_alloc ?_ _));exact BK139.out) hb);have n4_:=Aside0.mk (below_step (by repeat (first|(with_reducible first|exact HB.out|apply below_alloc|apply pw_below_drewN|apply below_drew1|refine below_set ?_ GE134.out|refine below_set ?_ GE139.out)|exact HB.out)) hb);clear HO_6;clear BK134;clear BK139;clear HB;have HO_6:=n0_;have HO142:=n1_;have BK134:=n2_;have BK139:=n3_;have HB:=n4_;clear n0_ n1_ n2_ n3_ n4_;clear hb ho92;have hcz93_0 : w91.cell? ⟨gb139,0,none⟩ = some (.int .i64 ((rd_T128 l0 x27_1).f0)):=(blk_cell BK139.out 0).trans rfl;have hcz93_1 : w91.cell? ⟨gb139,1,none⟩ = some (.int .i64 ((rd_T128 l0 x27_1).f1)):=(blk_cell BK139.out 1).trans rfl;have hcz93_2 : w91.cell? ⟨gb139,2,none⟩ = some (.int .i64 ((rd_T128 l0 x27_1).f2)):=(blk_cell BK139.out 2).trans rfl;have hfz93_0:=blk_frozen BK139.out 0;have hfz93_1:=blk_frozen BK139.out 1;have hfz93_2:=blk_frozen BK139.out 2;obtain ⟨Ao94,co94,eo94⟩:=Kd.R_slice HO142.out;subst eo94))
              go_loopg [87] k1 (fun kq v87 w'=>∃ (x10_2 : List Int) (x87_2 : Int),v87 = .int .i64 x87_2 ∧ Aside0 (sentence_spans.l3 kq l1 x6_1 x27_1 x10_2 l0 (l0.length : Int) x27_1 (y140.length : Int) x87_2 (ji12) ((rd_T128 l0 x27_1).f0) ((rd_T128 l0 x27_1).f1) ((rd_T128 l0 x27_1).f2) = some r) ∧ Aside0 (kq ≤ k1) ∧ Aside0 (Kd.S (Kd.slice 33 (Kd.int .u32)) 133 w' w.heap.size (fun k_=>some k_ ≠ ((.slice Ao94 y140.length co94) : Value).ownBlock) v136 x6_1) ∧ Aside0 (Kd.R (Kd.int .u32) 33 w' w.heap.size (fun _=>True) (.slice Ao94 y140.length co94) x10_2) ∧ Aside0 (w'.heap[gb134]? = some (.cells #[.int .i64 (ji12)] 3 (0,0))) ∧ Aside0 (w'.heap[gb139]? = some (.cells #[.int .i64 ((rd_T128 l0 x27_1).f0),.int .i64 ((rd_T128 l0 x27_1).f1),.int .i64 ((rd_T128 l0 x27_1).f2)] 128 (0,0))) ∧ Aside0 (Below w.heap.size w w'))
              case atStart=>exact ⟨(y140),(0),(by first|rfl|(simp;done)|(simp [*];done)),H',⟨Nat.le_refl _⟩,⟨by (with_reducible repeat (first|apply Kd.S_alloc|apply Kd.S_drewN|apply Kd.S_drew));exact Kd.S_mono HO_6.out (fun _ hk=>hk.2)⟩,⟨by (with_reducible repeat (first|apply Kd.R_alloc|apply Kd.R_drewN|apply Kd.R_drew));exact HO142.out⟩,⟨by (with_reducible repeat (first|refine blk_drewN ?_ _|refine blk_drew ?_|refine blk_alloc ?_ _));exact BK134.out⟩,⟨by (with_reducible repeat (first|refine blk_drewN ?_ _|refine blk_drew ?_|refine blk_alloc ?_ _));exact BK139.out⟩,⟨by repeat (first|(with_reducible first|exact HB.out|apply below_alloc|apply pw_below_drewN|apply below_drew1|refine below_set ?_ GE134.out|refine below_set ?_ GE139.out)|exact HB.out)⟩⟩
              case round =>
               clear H'
               try clear c1
               try clear p1
               try clear q1
               try clear hx1
               try clear c2
               try clear p2
               try clear q2
               try clear hx2
               try clear hf2
               try clear c3
               try clear c3b0
               try clear c3b1
               try clear p3
               try clear q3
               try clear hx3
               try clear hf3
               try clear c4
               try clear c4b0
               try clear c4b1
               try clear c5
               try clear p5
               try clear q5
               try clear hx5
               try clear hf5
               try clear c6
               try clear p6
               try clear q6
               try clear hx6
               try clear hf6
               try clear c7
               try clear p7
               try clear q7
               try clear hx7
               try clear hf7
               try clear c8
               try clear hx8
               try clear hf8
               try clear c9
               try clear c9b0
               try clear c10
               try clear c10b0
               try clear c11
               try clear c11b0
               try clear c13
               try clear c13b0
               try clear c13b1
               try clear p13
               try clear q13
               try clear hx13
               try clear c14
               try clear c14b0
               try clear c14b1
               try clear p14
               try clear q14
               try clear hx14
               try clear c15
               try clear c15b0
               try clear c15b1
               try clear c17
               try clear c24
               try clear c24b0
               try clear c25
               try clear c25b0
               try clear c25b1
               try clear c27
               try clear c27b0
               try clear p28
               try clear q28
               try clear hx28
               try clear hf28
               try clear c31
               try clear c31b0
               try clear c32
               try clear c32b0
               try clear c33
               try clear p33
               try clear q33
               try clear hx33
               try clear hf33
               try clear c34
               try clear hx34
               try clear hf34
               try clear c36
               try clear c36b0
               try clear c36b1
               try clear c38
               try clear c44
               try clear c44b0
               try clear c45
               try clear c45b0
               try clear c46
               try clear c46b0
               try clear c47
               try clear c47b0
               try clear c47b1
               try clear c49
               try clear c49b0
               try clear c49b1
               try clear c51
               try clear c51b0
               try clear p52
               try clear q52
               try clear hx52
               try clear hf52
               try clear c53
               try clear c57
               try clear c59
               try clear c59b0
               try clear c60
               try clear c60b0
               try clear c61
               try clear p61
               try clear q61
               try clear hx61
               try clear hf61
               try clear c63
               try clear hx63
               try clear hf63
               try clear p64
               try clear c65
               try clear c65b0
               try clear c65b1
               try clear c66
               try clear c66b0
               try clear c67
               try clear c67b0
               try clear c68
               try clear c68b0
               try clear c69
               try clear c69b0
               try clear c71
               try clear c71b0
               try clear c72
               try clear p72
               try clear q72
               try clear hx72
               try clear hf72
               try clear c74
               try clear c84
               try clear hx84
               try clear hf84
               try clear c86
               try clear c86b0
               try clear c86b1
               try clear c88
               try clear hcz18_0
               try clear hcz18_1
               try clear hcz18_2
               try clear hcz19_0
               try clear hcz22_0
               try clear hcz22_1
               try clear hcz22_2
               try clear hcz39_0
               try clear hcz39_1
               try clear hcz39_2
               try clear hcz40_0
               try clear hcz43_0
               try clear hcz43_1
               try clear hcz43_2
               try clear hcz54_0
               try clear hcz54_1
               try clear hcz54_2
               try clear hcz58_0
               try clear hcz58_1
               try clear hcz58_2
               try clear hcz6_0
               try clear hcz75_0
               try clear hcz75_1
               try clear hcz75_2
               try clear hcz76_0
               try clear hcz79_0
               try clear hcz79_1
               try clear hcz79_2
               try clear hcz89_0
               try clear hcz89_1
               try clear hcz89_2
               try clear hcz90_0
               try clear hcz93_0
               try clear hcz93_1
               try clear hcz93_2
               try clear hfz18_0
               try clear hfz18_1
               try clear hfz18_2
               try clear hfz19_0
               try clear hfz22_0
               try clear hfz22_1
               try clear hfz22_2
               try clear hfz39_0
               try clear hfz39_1
               try clear hfz39_2
               try clear hfz40_0
               try clear hfz43_0
               try clear hfz43_1
               try clear hfz43_2
               try clear hfz54_0
               try clear hfz54_1
               try clear hfz54_2
               try clear hfz58_0
               try clear hfz58_1
               try clear hfz58_2
               try clear hfz6_0
               try clear hfz75_0
               try clear hfz75_1
               try clear hfz75_2
               try clear hfz76_0
               try clear hfz79_0
               try clear hfz79_1
               try clear hfz79_2
               try clear hfz89_0
               try clear hfz89_1
               try clear hfz89_2
               try clear hfz90_0
               try clear hfz93_0
               try clear hfz93_1
               try clear hfz93_2
               try clear hx138_0
               try clear hx138_1
               try clear hx138_2
               try clear hx145_0
               try clear hx148_0
               try clear hx149_0
               try clear hx28_0
               try clear hx33_0
               try clear hx34_0
               try clear hx52_0
               try clear hx61_0
               try clear hx63_0
               try clear hx72_0
               try clear hx84_0
               try clear p1
               try clear p13
               try clear p138
               try clear p145
               try clear p148
               try clear p149
               try clear p2
               try clear p28
               try clear p3
               try clear p33
               try clear p52
               try clear p6
               try clear p61
               try clear p72
               try clear q1
               try clear q13
               try clear q138
               try clear q145
               try clear q148
               try clear q149
               try clear q28
               try clear q3
               try clear q33
               try clear q52
               try clear q61
               try clear q72
               obtain ⟨x10_2,x87_2,rfl,HA,HK2,HO_6,HO_10,BK134,BK139,HB⟩:=hrel
               have hl10_2:=(Kd.R_reads' HO_10.out).1
               rw [hl10_2] at HO_10
               (try simp only [hl10_2])
               (try simp only [hl10_2] at BK134)
               (try simp only [hl10_2] at BK139)
               (try simp only [hl10_2] at HO_6)
               cases gk with
               | zero=>exact absurd HA.out (by simp [sentence_spans.l3])
               | succ k2 =>
                have H:=HA.out
                clear HA
                simp only [sentence_spans.l3] at H
                by_cases c95 : x87_2 < (y140.length : Int)
                ·rw [if_pos c95] at H
                 have c95b0 : decide (x87_2 < (y140.length : Int)) = true:=decide_eq_true c95
                 (try (have c95b0h:=c95b0;simp only [hl10_2] at c95b0h))
                 clear c95
                 by_cases c96 : 0 ≤ ((rd_T128 l0 x27_1).f1)
                 ·rw [if_pos c96] at H
                  have c96b0 : decide (0 ≤ ((rd_T128 l0 x27_1).f1)) = true:=decide_eq_true c96
                  clear c96
                  by_cases c97 : ((rd_T128 l0 x27_1).f1) < (x6_1.length : Int)
                  ·rw [if_pos c97] at H
                   have c97b0 : decide (((rd_T128 l0 x27_1).f1) < (x6_1.length : Int)) = true:=decide_eq_true c97
                   (try (have c97b0h:=c97b0;simp only [hl10_2] at c97b0h))
                   clear c97
                   by_cases c98 : 0 ≤ x87_2
                   ·rw [if_pos c98] at H
                    have c98b0 : decide (0 ≤ x87_2) = true:=decide_eq_true c98
                    clear c98
                    by_cases c99 : x87_2 < ((rd_L4 x6_1 ((rd_T128 l0 x27_1).f1)).length : Int)
                    ·rw [if_pos c99] at H
                     have c99b0 : decide (x87_2 < ((rd_L4 x6_1 ((rd_T128 l0 x27_1).f1)).length : Int)) = true:=decide_eq_true c99
                     (try (have c99b0h:=c99b0;simp only [hl10_2] at c99b0h))
                     clear c99
                     by_cases c100 : 0 ≤ ((rd_T128 l0 x27_1).f2)
                     ·rw [if_pos c100] at H
                      have c100b0 : decide (0 ≤ ((rd_T128 l0 x27_1).f2)) = true:=decide_eq_true c100
                      clear c100
                      by_cases c101 : ((rd_T128 l0 x27_1).f2) < (x6_1.length : Int)
                      ·rw [if_pos c101] at H
                       have c101b0 : decide (((rd_T128 l0 x27_1).f2) < (x6_1.length : Int)) = true:=decide_eq_true c101
                       (try (have c101b0h:=c101b0;simp only [hl10_2] at c101b0h))
                       clear c101
                       by_cases c102 : x87_2 < ((rd_L4 x6_1 ((rd_T128 l0 x27_1).f2)).length : Int)
                       ·rw [if_pos c102] at H
                        have c102b0 : decide (x87_2 < ((rd_L4 x6_1 ((rd_T128 l0 x27_1).f2)).length : Int)) = true:=decide_eq_true c102
                        (try (have c102b0h:=c102b0;simp only [hl10_2] at c102b0h))
                        clear c102
                        by_cases c103 : x87_2 < (x10_2.length : Int)
                        ·rw [if_pos c103] at H
                         have c103b0 : decide (x87_2 < (x10_2.length : Int)) = true:=decide_eq_true c103
                         (try (have c103b0h:=c103b0;simp only [hl10_2] at c103b0h))
                         clear c103
                         obtain ⟨y158,hy158⟩ : ∃ y_ : List Int,y_ = (x10_2.set (x87_2 : Int).toNat (Go.bits .or .u32 (rd (rd_L4 x6_1 ((rd_T128 l0 x27_1).f1)) x87_2) (rd (rd_L4 x6_1 ((rd_T128 l0 x27_1).f2)) x87_2))):=⟨_,rfl⟩
                         replace H : (sentence_spans.l3 k2 l1 x6_1 x27_1 y158 l0 (l0.length : Int) x27_1 (y140.length : Int) (wrap64 (x87_2 + 1)) (ji12) ((rd_T128 l0 x27_1).f0) ((rd_T128 l0 x27_1).f1) ((rd_T128 l0 x27_1).f2)) = some r:=by first|(rw [hy158];with_reducible exact H)|(have H2_:=(Option.bind_some _ _).symm.trans H;rw [hy158];with_reducible exact H2_)|(have H2_:=(Option.bind_some _ _).symm.trans H;with_reducible exact H2_)|with_reducible exact H|(rw [hy158];exact H)|exact H
                         have Ny158:=Aside0.mk hy158
                         clear hy158
                         have H':=Aside0.mk H
                         clear H
                         try go_wp2
                         have n0_:=Aside0.mk (Kd.S_drew HO_6.out)
                         have n1_:=Aside0.mk (Kd.R_drew HO_10.out)
                         have n2_:=Aside0.mk (blk_drew BK134.out)
                         have n3_:=Aside0.mk (blk_drew BK139.out)
                         have n4_:=Aside0.mk (below_drew1 HB.out)
                         clear HO_6
                         clear HO_10
                         clear BK134
                         clear BK139
                         clear HB
                         have HO_6:=n0_
                         have HO_10:=n1_
                         have BK134:=n2_
                         have BK139:=n3_
                         have HB:=n4_
                         clear n0_ n1_ n2_ n3_ n4_
                         obtain ⟨Ao106,co106,eo106⟩:=Kd.S_slice HO_6.out
                         (first|subst eo106|(injection eo106 with f1_ f2_ f3_;have f4_:=f1_.symm;have f5_:=f3_.symm;clear f1_ f2_ f3_;subst f4_;subst f5_))
                         have p154 : 0 ≤ (((rd_T128 l0 x27_1).f1) : Int):=of_decide_eq_true (by first|(with_reducible assumption)|assumption)
                         have q154 : ((rd_T128 l0 x27_1).f1) < (x6_1.length : Int):=of_decide_eq_true (by first|(with_reducible assumption)|assumption)
                         obtain ⟨ad154,A154_0,c154_0,e154,hx154_0,hl154_0,hi154_0⟩:=at_L4 (Kd.S_reads' HO_6.out).2.2 ((rd_T128 l0 x27_1).f1) p154 q154
                         cases e154
                         obtain ⟨ce154,hce154,hMe154,hcc154⟩:=Kd.S_get HO_6.out [] ((rd_T128 l0 x27_1).f1) p154 (by first|exact q154|exact of_decide_eq_true (by first|(with_reducible assumption)|assumption)|(have e_:=(Kd.S_reads' HO_6.out).1;omega))
                         obtain ⟨ve154_0,rfl,ge154_0⟩:=id hMe154
                         have hv154_0:=hcc154 0 _ rfl
                         rw [Nat.add_zero,show ((Kd.slice 33 (Kd.int .u32))).sz = 1 from rfl,Nat.mul_one] at hv154_0
                         replace hv154_0:=Option.some.inj (hv154_0.symm.trans hx154_0)
                         rw [hv154_0] at ge154_0
                         have HL154_0:=Aside0.mk (show Kd.R (Kd.int .u32) 33 _ _ _ _ (rd_L4 x6_1 ((rd_T128 l0 x27_1).f1)) from ge154_0)
                         clear hv154_0 ge154_0
                         clear hcc154 hce154
                         have HR154_0:=Aside0.mk hi154_0
                         have HC154_0:=Aside0.mk hl154_0
                         clear hi154_0 hl154_0
                         replace p154:=eq_true p154
                         replace q154:=eq_true q154
                         have p155 : 0 ≤ (x87_2 : Int):=of_decide_eq_true (by first|(with_reducible assumption)|assumption)
                         have q155 : x87_2 < ((rd_L4 x6_1 ((rd_T128 l0 x27_1).f1)).length : Int):=of_decide_eq_true (by first|(with_reducible assumption)|assumption)
                         obtain ⟨ad155,e155,hx155_0⟩:=Kd.at_int (by repeat (first|(with_reducible exact HR154_0.out)|(with_reducible refine Kd.C_alloc ?_ _)|(with_reducible refine Kd.C_drewN ?_ _)|(with_reducible refine Kd.C_drew ?_)|exact HR154_0.out)) x87_2 p155 q155
                         cases e155
                         replace p155:=eq_true p155
                         replace q155:=eq_true q155
                         have p156 : 0 ≤ (((rd_T128 l0 x27_1).f2) : Int):=of_decide_eq_true (by first|(with_reducible assumption)|assumption)
                         have q156 : ((rd_T128 l0 x27_1).f2) < (x6_1.length : Int):=of_decide_eq_true (by first|(with_reducible assumption)|assumption)
                         obtain ⟨ad156,A156_0,c156_0,e156,hx156_0,hl156_0,hi156_0⟩:=at_L4 (Kd.S_reads' HO_6.out).2.2 ((rd_T128 l0 x27_1).f2) p156 q156
                         obtain rfl : ad154 = ad156:=(by injection e156)
                         obtain ⟨ce156,hce156,hMe156,hcc156⟩:=Kd.S_get HO_6.out [] ((rd_T128 l0 x27_1).f2) p156 (by first|exact q156|exact of_decide_eq_true (by first|(with_reducible assumption)|assumption)|(have e_:=(Kd.S_reads' HO_6.out).1;omega))
                         obtain ⟨ve156_0,rfl,ge156_0⟩:=id hMe156
                         have hv156_0:=hcc156 0 _ rfl
                         rw [Nat.add_zero,show ((Kd.slice 33 (Kd.int .u32))).sz = 1 from rfl,Nat.mul_one] at hv156_0
                         replace hv156_0:=Option.some.inj (hv156_0.symm.trans hx156_0)
                         rw [hv156_0] at ge156_0
                         have HL156_0:=Aside0.mk (show Kd.R (Kd.int .u32) 33 _ _ _ _ (rd_L4 x6_1 ((rd_T128 l0 x27_1).f2)) from ge156_0)
                         clear hv156_0 ge156_0
                         clear hcc156 hce156
                         have HR156_0:=Aside0.mk hi156_0
                         have HC156_0:=Aside0.mk hl156_0
                         clear hi156_0 hl156_0
                         replace p156:=eq_true p156
                         replace q156:=eq_true q156
                         have p157 : 0 ≤ (x87_2 : Int):=of_decide_eq_true (by first|(with_reducible assumption)|assumption)
                         have q157 : x87_2 < ((rd_L4 x6_1 ((rd_T128 l0 x27_1).f2)).length : Int):=of_decide_eq_true (by first|(with_reducible assumption)|assumption)
                         obtain ⟨ad157,e157,hx157_0⟩:=Kd.at_int (by repeat (first|(with_reducible exact HR156_0.out)|(with_reducible refine Kd.C_alloc ?_ _)|(with_reducible refine Kd.C_drewN ?_ _)|(with_reducible refine Kd.C_drew ?_)|exact HR156_0.out)) x87_2 p157 q157
                         cases e157
                         replace p157:=eq_true p157
                         replace q157:=eq_true q157
                         have p104 : 0 ≤ (x87_2 : Int):=of_decide_eq_true (by first|(with_reducible assumption)|assumption)
                         have q104 : (x87_2 : Int) < ((x10_2.length : Int) : Int):=of_decide_eq_true (by first|(with_reducible assumption)|assumption)
                         obtain ⟨go104,co104,eo104,gb104,gl104,cl104,HG104⟩:=Kd.R_form HO_10.out (by omega)
                         (first|cases eo104|(injection eo104 with ea_ en_ ec_;(first|subst ea_|(injection ea_ with ea_;subst ea_));subst ec_;clear en_))
                         have GB104:=Aside0.mk gb104
                         have GG104:=Aside0.mk HG104
                         clear gb104 gl104 HG104
                         obtain ⟨hx104_0,hf104_0⟩:=Kd.R_celln 0 HO_10.out (x87_2 : Int) p104 q104
                         replace p104:=eq_true p104
                         replace q104:=eq_true q104
                         have HP107:=Kd.R_putn HO_10.out (x87_2 : Int) (Go.bits .or .u32 (rd (rd_L4 x6_1 ((rd_T128 l0 x27_1).f1)) x87_2) (rd (rd_L4 x6_1 ((rd_T128 l0 x27_1).f2)) x87_2))
                         rw [← Ny158.out] at HP107
                         have HQ107:=Aside0.mk HP107
                         clear HP107
                         refine start_ (n:=21) (S:=fun w'=>w'.cell? ⟨gb139,0,none⟩ = some (.int .i64 ((rd_T128 l0 x27_1).f0)) ∧ w'.cell? ⟨gb139,1,none⟩ = some (.int .i64 ((rd_T128 l0 x27_1).f1)) ∧ w'.cell? ⟨gb139,2,none⟩ = some (.int .i64 ((rd_T128 l0 x27_1).f2)) ∧ w'.cell? (ad154.add (((rd_T128 l0 x27_1).f1)).toNat) = some (.slice (some ad155) (rd_L4 x6_1 ((rd_T128 l0 x27_1).f1)).length c154_0) ∧ w'.cell? (ad155.add (x87_2).toNat) = some (.int .u32 (rd (rd_L4 x6_1 ((rd_T128 l0 x27_1).f1)) x87_2)) ∧ w'.cell? (ad154.add (((rd_T128 l0 x27_1).f2)).toNat) = some (.slice (some ad157) (rd_L4 x6_1 ((rd_T128 l0 x27_1).f2)).length c156_0) ∧ w'.cell? (ad157.add (x87_2).toNat) = some (.int .u32 (rd (rd_L4 x6_1 ((rd_T128 l0 x27_1).f2)) x87_2))) (ds:=[20]) #[false,false,false,false,false,false,false,false,false,false,false,false,false,false,false,false,false,false,false,false,false] (by kernel_rfl) rfl rfl ⟨(blk_cell BK139.out 0).trans rfl,(blk_cell BK139.out 1).trans rfl,(blk_cell BK139.out 2).trans rfl,hx154_0,hx155_0,hx156_0,hx157_0⟩ (fun hHeld=>?_);refine with_tabW sentence_spans.tab28 sentence_spans.bits28 (fun HT_ HW_=>?_)
                         generalize wr.drew = w105 at HO_6 HO_10 BK134 BK139 HB GG104 HL154_0 HL156_0 HQ107 HR154_0 HR156_0 hf104_0 hx104_0 hx154_0 hx155_0 hx156_0 hx157_0 hHeld ⊢
                         refine pure_ (i:=0) (N:=some 90) (v:=?_) (a':=?_) #[true,false,false,false,false,false,false,false,false,false,false,false,false,false,false,false,false,false,false,false,false] rfl rfl (any_of HT_.out (by kernel_rfl)) (fun _ _ _ h=>h) (Or.inl ⟨by rfl,?_⟩) ?_ ?_
                         rotate_left
                         ·intro w'
                          go_simp
                          with_reducible rfl
                         rotate_left
                         ·simp only [Act.put,List.setIfInBounds_toArray,List.set_cons_zero,List.set_cons_succ,i64_w,i32_w]
                          rfl
                         refine pure_ (i:=1) (N:=some 91) (v:=?_) (a':=?_) #[true,true,false,false,false,false,false,false,false,false,false,false,false,false,false,false,false,false,false,false,false] rfl rfl (any_of HT_.out (by kernel_rfl)) (fun _ _ _ h=>h) (Or.inl ⟨by rfl,?_⟩) ?_ ?_
                         rotate_left
                         ·intro w'
                          go_simp
                          with_reducible rfl
                         rotate_left
                         ·simp only [Act.put,List.setIfInBounds_toArray,List.set_cons_zero,List.set_cons_succ,i64_w,i32_w]
                          rfl
                         refine pure_ (i:=2) (N:=some 92) (v:=?_) (a':=?_) #[true,true,true,false,false,false,false,false,false,false,false,false,false,false,false,false,false,false,false,false,false] rfl rfl (any_of HT_.out (by kernel_rfl)) (fun _ _ _ h=>h) (Or.inl ⟨by rfl,?_⟩) ?_ ?_
                         rotate_left
                         ·intro w'
                          go_simp
                          with_reducible rfl
                         rotate_left
                         ·simp only [Act.put,List.setIfInBounds_toArray,List.set_cons_zero,List.set_cons_succ,i64_w,i32_w]
                          rfl
                         refine pure_ (i:=3) (N:=some 93) (v:=?_) (a':=?_) #[true,true,true,true,false,false,false,false,false,false,false,false,false,false,false,false,false,false,false,false,false] rfl rfl (any_of HT_.out (by kernel_rfl)) (fun _ _ _ h=>h) (Or.inl ⟨by rfl,?_⟩) ?_ ?_
                         rotate_left
                         ·intro w'
                          go_simp
                          with_reducible rfl
                         rotate_left
                         ·simp only [Act.put,List.setIfInBounds_toArray,List.set_cons_zero,List.set_cons_succ,i64_w,i32_w]
                          rfl
                         refine pure_ (i:=7) (N:=some 97) (v:=?_) (a':=?_) #[true,true,true,true,false,false,false,true,false,false,false,false,false,false,false,false,false,false,false,false,false] rfl rfl (any_of HT_.out (by kernel_rfl)) (fun _ _ _ h=>h) (Or.inl ⟨by rfl,?_⟩) ?_ ?_
                         rotate_left
                         ·intro w'
                          go_simp
                          with_reducible rfl
                         rotate_left
                         ·simp only [Act.put,List.setIfInBounds_toArray,List.set_cons_zero,List.set_cons_succ,i64_w,i32_w]
                          rfl
                         refine pure_ (i:=10) (N:=some 100) (v:=?_) (a':=?_) #[true,true,true,true,false,false,false,true,false,false,true,false,false,false,false,false,false,false,false,false,false] rfl rfl (any_of HT_.out (by kernel_rfl)) (fun _ _ _ h=>h) (Or.inl ⟨by rfl,?_⟩) ?_ ?_
                         rotate_left
                         ·intro w'
                          go_simp
                          with_reducible rfl
                         rotate_left
                         ·simp only [Act.put,List.setIfInBounds_toArray,List.set_cons_zero,List.set_cons_succ,i64_w,i32_w]
                          rfl
                         refine pure_ (i:=11) (N:=some 101) (v:=?_) (a':=?_) #[true,true,true,true,false,false,false,true,false,false,true,true,false,false,false,false,false,false,false,false,false] rfl rfl (any_of HT_.out (by kernel_rfl)) (fun _ _ _ h=>h) (Or.inl ⟨by rfl,?_⟩) ?_ ?_
                         rotate_left
                         ·intro w'
                          go_simp
                          with_reducible rfl
                         rotate_left
                         ·simp only [Act.put,List.setIfInBounds_toArray,List.set_cons_zero,List.set_cons_succ,i64_w,i32_w]
                          rfl
                         refine pure_ (i:=15) (N:=some 105) (v:=?_) (a':=?_) #[true,true,true,true,false,false,false,true,false,false,true,true,false,false,false,true,false,false,false,false,false] rfl rfl (any_of HT_.out (by kernel_rfl)) (fun _ _ _ h=>h) (Or.inl ⟨by rfl,?_⟩) ?_ ?_
                         rotate_left
                         ·intro w'
                          go_simp
                          with_reducible rfl
                         rotate_left
                         ·simp only [Act.put,List.setIfInBounds_toArray,List.set_cons_zero,List.set_cons_succ,i64_w,i32_w]
                          rfl
                         refine take_ (i:=4) (N:=some 94) (v:=?_) (a':=?_) #[true,true,true,true,true,false,false,true,false,false,true,true,false,false,false,true,false,false,false,false,false] rfl rfl (take_ofW HT_.out HW_.out (by kernel_rfl)) (fun _ _ _ h=>h) (Or.inl ⟨by rfl,?_⟩) hHeld ?_ ?_
                         rotate_left
                         ·rintro w' ⟨s0,s1,s2,s3,s4,s5,s6⟩
                          go_simp
                          with_reducible rfl
                         rotate_left
                         ·simp only [Act.put,List.setIfInBounds_toArray,List.set_cons_zero,List.set_cons_succ,i64_w,i32_w]
                          rfl
                         refine pure_ (i:=5) (N:=some 95) (v:=?_) (a':=?_) #[true,true,true,true,true,true,false,true,false,false,true,true,false,false,false,true,false,false,false,false,false] rfl rfl (any_of HT_.out (by kernel_rfl)) (fun _ _ _ h=>h) (Or.inl ⟨by rfl,?_⟩) ?_ ?_
                         rotate_left
                         ·intro w'
                          go_simp
                          with_reducible rfl
                         rotate_left
                         ·simp only [Act.put,List.setIfInBounds_toArray,List.set_cons_zero,List.set_cons_succ,i64_w,i32_w]
                          rfl
                         refine take_ (i:=6) (N:=some 96) (v:=?_) (a':=?_) #[true,true,true,true,true,true,true,true,false,false,true,true,false,false,false,true,false,false,false,false,false] rfl rfl (take_ofW HT_.out HW_.out (by kernel_rfl)) (fun _ _ _ h=>h) (Or.inl ⟨by rfl,?_⟩) hHeld ?_ ?_
                         rotate_left
                         ·rintro w' ⟨s0,s1,s2,s3,s4,s5,s6⟩
                          go_simp
                          with_reducible rfl
                         rotate_left
                         ·simp only [Act.put,List.setIfInBounds_toArray,List.set_cons_zero,List.set_cons_succ,i64_w,i32_w]
                          rfl
                         refine pure_ (i:=8) (N:=some 98) (v:=?_) (a':=?_) #[true,true,true,true,true,true,true,true,true,false,true,true,false,false,false,true,false,false,false,false,false] rfl rfl (any_of HT_.out (by kernel_rfl)) (fun _ _ _ h=>h) (Or.inl ⟨by rfl,?_⟩) ?_ ?_
                         rotate_left
                         ·intro w'
                          go_simp
                          with_reducible rfl
                         rotate_left
                         ·simp only [Act.put,List.setIfInBounds_toArray,List.set_cons_zero,List.set_cons_succ,i64_w,i32_w]
                          rfl
                         refine take_ (i:=9) (N:=some 99) (v:=?_) (a':=?_) #[true,true,true,true,true,true,true,true,true,true,true,true,false,false,false,true,false,false,false,false,false] rfl rfl (take_ofW HT_.out HW_.out (by kernel_rfl)) (fun _ _ _ h=>h) (Or.inl ⟨by rfl,?_⟩) hHeld ?_ ?_
                         rotate_left
                         ·rintro w' ⟨s0,s1,s2,s3,s4,s5,s6⟩
                          go_simp
                          with_reducible rfl
                         rotate_left
                         ·simp only [Act.put,List.setIfInBounds_toArray,List.set_cons_zero,List.set_cons_succ,i64_w,i32_w]
                          rfl
                         refine take_ (i:=12) (N:=some 102) (v:=?_) (a':=?_) #[true,true,true,true,true,true,true,true,true,true,true,true,true,false,false,true,false,false,false,false,false] rfl rfl (take_ofW HT_.out HW_.out (by kernel_rfl)) (fun _ _ _ h=>h) (Or.inl ⟨by rfl,?_⟩) hHeld ?_ ?_
                         rotate_left
                         ·rintro w' ⟨s0,s1,s2,s3,s4,s5,s6⟩
                          go_simp
                          with_reducible rfl
                         rotate_left
                         ·simp only [Act.put,List.setIfInBounds_toArray,List.set_cons_zero,List.set_cons_succ,i64_w,i32_w]
                          rfl
                         refine pure_ (i:=13) (N:=some 103) (v:=?_) (a':=?_) #[true,true,true,true,true,true,true,true,true,true,true,true,true,true,false,true,false,false,false,false,false] rfl rfl (any_of HT_.out (by kernel_rfl)) (fun _ _ _ h=>h) (Or.inl ⟨by rfl,?_⟩) ?_ ?_
                         rotate_left
                         ·intro w'
                          go_simp
                          with_reducible rfl
                         rotate_left
                         ·simp only [Act.put,List.setIfInBounds_toArray,List.set_cons_zero,List.set_cons_succ,i64_w,i32_w]
                          rfl
                         refine take_ (i:=14) (N:=some 104) (v:=?_) (a':=?_) #[true,true,true,true,true,true,true,true,true,true,true,true,true,true,true,true,false,false,false,false,false] rfl rfl (take_ofW HT_.out HW_.out (by kernel_rfl)) (fun _ _ _ h=>h) (Or.inl ⟨by rfl,?_⟩) hHeld ?_ ?_
                         rotate_left
                         ·rintro w' ⟨s0,s1,s2,s3,s4,s5,s6⟩
                          go_simp
                          with_reducible rfl
                         rotate_left
                         ·simp only [Act.put,List.setIfInBounds_toArray,List.set_cons_zero,List.set_cons_succ,i64_w,i32_w]
                          rfl
                         refine pure_ (i:=16) (N:=some 106) (v:=?_) (a':=?_) #[true,true,true,true,true,true,true,true,true,true,true,true,true,true,true,true,true,false,false,false,false] rfl rfl (any_of HT_.out (by kernel_rfl)) (fun _ _ _ h=>h) (Or.inl ⟨by rfl,?_⟩) ?_ ?_
                         rotate_left
                         ·intro w'
                          go_simp
                          with_reducible rfl
                         rotate_left
                         ·simp only [Act.put,List.setIfInBounds_toArray,List.set_cons_zero,List.set_cons_succ,i64_w,i32_w]
                          rfl
                         refine take_ (i:=17) (N:=some 107) (v:=?_) (a':=?_) #[true,true,true,true,true,true,true,true,true,true,true,true,true,true,true,true,true,true,false,false,false] rfl rfl (take_ofW HT_.out HW_.out (by kernel_rfl)) (fun _ _ _ h=>h) (Or.inl ⟨by rfl,?_⟩) hHeld ?_ ?_
                         rotate_left
                         ·rintro w' ⟨s0,s1,s2,s3,s4,s5,s6⟩
                          go_simp
                          with_reducible rfl
                         rotate_left
                         ·simp only [Act.put,List.setIfInBounds_toArray,List.set_cons_zero,List.set_cons_succ,i64_w,i32_w]
                          rfl
                         refine pure_ (i:=18) (N:=some 108) (v:=?_) (a':=?_) #[true,true,true,true,true,true,true,true,true,true,true,true,true,true,true,true,true,true,true,false,false] rfl rfl (any_of HT_.out (by kernel_rfl)) (fun _ _ _ h=>h) (Or.inl ⟨by rfl,?_⟩) ?_ ?_
                         rotate_left
                         ·intro w'
                          go_simp
                          with_reducible rfl
                         rotate_left
                         ·simp only [Act.put,List.setIfInBounds_toArray,List.set_cons_zero,List.set_cons_succ,i64_w,i32_w]
                          rfl
                         refine pure_ (i:=19) (N:=some 109) (v:=?_) (a':=?_) #[true,true,true,true,true,true,true,true,true,true,true,true,true,true,true,true,true,true,true,true,false] rfl rfl (any_of HT_.out (by kernel_rfl)) (fun _ _ _ h=>h) (Or.inl ⟨by rfl,?_⟩) ?_ ?_
                         rotate_left
                         ·intro w'
                          go_simp
                          with_reducible rfl
                         rotate_left
                         ·simp only [Act.put,List.setIfInBounds_toArray,List.set_cons_zero,List.set_cons_succ,i64_w,i32_w]
                          rfl
                         refine last_ (i:=20) (N:=none) #[true,true,true,true,true,true,true,true,true,true,true,true,true,true,true,true,true,true,true,true,true] rfl rfl (one_of HT_.out (by kernel_rfl)) (by decide) (fun K hK=>?_)
                         refine skip_ (w1:=?_) (by rfl) rfl ?_ ?_
                         rotate_left
                         ·go_simp
                          rfl
                         refine hK.out _ _ ?_
                         clear hK K
                         refine done_ (done_of HT_.out (by kernel_rfl)) ?_
                         try go_wp2
                         (try simp only [← hl10_2])
                         first|go_roundg k2|((simp only [← hji12]);go_roundg k2)
                         case measure=>have:=HK1.out;have:=HK2.out;omega
                         case rel=>exact ⟨(y158),(wrap64 (x87_2 + 1)),(by first|rfl|(simp;done)|(simp [*];done)),(by first|exact H'|((simp only [hji12]);exact H')|(have h_:=H'.out;simp only [← hji12] at h_ ⊢;exact ⟨h_⟩)),⟨by have:=HK1.out;have:=HK2.out;omega⟩,⟨by (try simp only [hl10_2]);(with_reducible repeat (first|apply Kd.S_alloc|apply Kd.S_drewN|apply Kd.S_drew));exact Kd.S_mono (Kd.S_far (p:=⟨go104,(x87_2 : Int).toNat,none⟩) (Kd.S_mono HO_6.out (fun k_ hk=>(⟨hk,fun e_=>hk (by rw [e_];rfl)⟩ : _ ∧ k_ ≠ go104))) (fun _ hk=>hk.2) (.int .u32 (Go.bits .or .u32 (rd (rd_L4 x6_1 ((rd_T128 l0 x27_1).f1)) x87_2) (rd (rd_L4 x6_1 ((rd_T128 l0 x27_1).f2)) x87_2)))) (fun _ hk=>hk.1)⟩,⟨by (try simp only [hl10_2]);(with_reducible repeat (first|apply Kd.R_alloc|apply Kd.R_drewN|apply Kd.R_drew));exact HQ107.out⟩,⟨by (try simp only [hl10_2]);(with_reducible repeat (first|refine blk_drewN ?_ _|refine blk_drew ?_|refine blk_alloc ?_ _));refine blk_far ?_ (by have h_:=Kd.R_ne HO_10.out BK134.out (by decide);intro e_;exact h_ (by first|(rw [e_];rfl)|(have e2_:=e_;dsimp only at e2_;first|(rw [e2_];rfl)|(rw [← e2_];rfl)|(subst e2_;rfl)))) _;(with_reducible repeat (first|refine blk_drewN ?_ _|refine blk_drew ?_|refine blk_alloc ?_ _));(first|exact BK134.out|(have h_:=BK134.out;simp only [← hji12] at h_;exact h_))⟩,⟨by (try simp only [hl10_2]);(with_reducible repeat (first|refine blk_drewN ?_ _|refine blk_drew ?_|refine blk_alloc ?_ _));refine blk_far ?_ (by have h_:=Kd.R_ne HO_10.out BK139.out (by decide);intro e_;exact h_ (by first|(rw [e_];rfl)|(have e2_:=e_;dsimp only at e2_;first|(rw [e2_];rfl)|(rw [← e2_];rfl)|(subst e2_;rfl)))) _;(with_reducible repeat (first|refine blk_drewN ?_ _|refine blk_drew ?_|refine blk_alloc ?_ _));(first|exact BK139.out|(have h_:=BK139.out;simp only [← hji12] at h_;exact h_))⟩,⟨by repeat (first|(with_reducible first|exact HB.out|apply below_alloc|apply pw_below_drewN|apply below_drew1|refine below_set ?_ GB104.out|refine below_set ?_ GE134.out|refine below_set ?_ GE139.out)|exact HB.out)⟩⟩
                        ·rw [if_neg c103] at H
                         exact absurd H (by simp)
                       ·rw [if_neg c102] at H
                        exact absurd H (by simp)
                      ·rw [if_neg c101] at H
                       exact absurd H (by simp)
                     ·rw [if_neg c100] at H
                      exact absurd H (by simp)
                    ·rw [if_neg c99] at H
                     exact absurd H (by simp)
                   ·rw [if_neg c98] at H
                    exact absurd H (by simp)
                  ·rw [if_neg c97] at H
                   exact absurd H (by simp)
                 ·rw [if_neg c96] at H
                  exact absurd H (by simp)
                ·rw [if_neg c95] at H
                 have c95b0 : decide (x87_2 < (y140.length : Int)) = false:=decide_eq_false c95
                 (try (have c95b0h:=c95b0;simp only [hl10_2] at c95b0h))
                 clear c95
                 by_cases c108 : 0 ≤ x27_1
                 ·rw [if_pos c108] at H
                  have c108b0 : decide (0 ≤ x27_1) = true:=decide_eq_true c108
                  clear c108
                  by_cases c109 : x27_1 < (x6_1.length : Int)
                  ·rw [if_pos c109] at H
                   have c109b0 : decide (x27_1 < (x6_1.length : Int)) = true:=decide_eq_true c109
                   (try (have c109b0h:=c109b0;simp only [hl10_2] at c109b0h))
                   clear c109
                   obtain ⟨y159,hy159⟩ : ∃ y_ : List (List Int),y_ = (x6_1.set (x27_1 : Int).toNat x10_2):=⟨_,rfl⟩
                   replace H : (sentence_spans.l0 k2 l1 y159 l0 (l0.length : Int) (wrap64 (x27_1 + 1)) (ji12)) = some r:=by first|(rw [hy159];with_reducible exact H)|(have H2_:=(Option.bind_some _ _).symm.trans H;rw [hy159];with_reducible exact H2_)|(have H2_:=(Option.bind_some _ _).symm.trans H;with_reducible exact H2_)|with_reducible exact H|(rw [hy159];exact H)|exact H
                   have Ny159:=Aside0.mk hy159
                   clear hy159
                   have H':=Aside0.mk H
                   clear H
                   have p110 : 0 ≤ (x27_1 : Int):=of_decide_eq_true (by first|(with_reducible assumption)|assumption)
                   have q110 : (x27_1 : Int) < ((x6_1.length : Int) : Int):=of_decide_eq_true (by first|(with_reducible assumption)|assumption)
                   obtain ⟨go110,co110,eo110,gb110,gl110,cl110,HG110⟩:=Kd.S_form HO_6.out (by omega)
                   (first|cases eo110|(injection eo110 with ea_ en_ ec_;(first|subst ea_|(injection ea_ with ea_;subst ea_));subst ec_;clear en_))
                   have GB110:=Aside0.mk gb110
                   have GG110:=Aside0.mk HG110
                   clear gb110 gl110 HG110
                   obtain ⟨_,ce110,hcl110,hM110,hcc110,hfr110,_,_⟩:=Kd.S_elem HO_6.out [] (x27_1 : Int) p110 q110
                   obtain ⟨ve110_0,rfl,ge110_0⟩:=id hM110
                   have hx110_0:=hcc110 0 _ rfl
                   have hf110_0:=hfr110 0
                   (try simp only [show ((Kd.slice 33 (Kd.int .u32))).sz = 1 from rfl,Nat.mul_one,Nat.add_zero] at hx110_0)
                   (try simp only [show ((Kd.slice 33 (Kd.int .u32))).sz = 1 from rfl,Nat.mul_one,Nat.add_zero] at hf110_0)
                   clear hcl110 hcc110 hfr110 hM110
                   replace p110:=eq_true p110
                   replace q110:=eq_true q110
                   have HX111:=Aside0.mk (show Kd.S (Kd.slice 33 (Kd.int .u32)) 133 wr w.heap.size (fun k_=>((fun _=>True)) k_ ∧ ¬ ((fun k_=>some k_ = (.slice Ao94 x10_2.length co94 : Value).ownBlock)) k_) (.slice (some ⟨go110,0,none⟩) x6_1.length co110) x6_1 from (by (with_reducible repeat (first|apply Kd.S_alloc|apply Kd.S_drewN|apply Kd.S_drew));exact Kd.S_mono HO_6.out (fun k_ hk=>⟨trivial,fun e_=>hk e_⟩)))
                   obtain ⟨oki111,ce111,hcl111,hM111,hcc111,hfr111,hoki111,hH111⟩:=Kd.S_elem HX111.out [] (x27_1 : Int) (of_decide_eq_true (by first|(with_reducible assumption)|assumption)) (by have h_ : (x27_1 : Int) < ((x6_1.length : Int) : Int):=of_decide_eq_true (by first|(with_reducible assumption)|assumption);first|exact h_|(have e_:=(Kd.S_reads' HO_6.out).1;omega)|simpa using h_)
                   obtain ⟨ve111_0,rfl,ge111_0⟩:=id hM111
                   have HP111:=Kd.S_seg hH111 (of_decide_eq_true (by first|(with_reducible assumption)|assumption)) (by have h_ : (x27_1 : Int) < ((x6_1.length : Int) : Int):=of_decide_eq_true (by first|(with_reducible assumption)|assumption);first|exact h_|(have e_:=(Kd.S_reads' HO_6.out).1;omega)|simpa using h_) (seg:=[.slice Ao94 x10_2.length co94]) (j:=0) (show 1 ≤ 1 from by decide) (x':=x10_2) (Kd.M_row (Kd.R_mono (Kd.R_tight rfl (Kd.R_mono (ok':=fun k_=>((fun _=>True)) k_ ∧ k_ ≠ go110) (Kd.R_apart' (HO_10.out) (Kd.S_typed HO_6.out) (by decide)) (fun k_ hk=>⟨trivial,fun e_=>(hk.2) (by rw [e_];rfl)⟩))) (fun _ h_=>Or.inr (h_)))) (fun _ hk=>hk) (fun k_ hk_=>((Kd.R_mono (ok':=fun k_=>((fun _=>True)) k_ ∧ k_ ≠ go110) (Kd.R_apart' (HO_10.out) (Kd.S_typed HO_6.out) (by decide)) (fun k_ hk=>⟨trivial,fun e_=>(hk.2) (by rw [e_];rfl)⟩))).1 k_ hk_.symm)
                   have hx111_0:=hcc111 0 _ rfl
                   (try simp only [show ((Kd.slice 33 (Kd.int .u32))).sz = 1 from rfl,Nat.mul_one,Nat.add_zero] at hx111_0)
                   have hf111_0:=hfr111 0
                   (try simp only [show ((Kd.slice 33 (Kd.int .u32))).sz = 1 from rfl,Nat.mul_one,Nat.add_zero] at hf111_0)
                   clear hcl111 hcc111 hfr111 hM111 hoki111 hH111
                   (try simp only [show ((Kd.slice 33 (Kd.int .u32))).sz = 1 from rfl,Nat.mul_one,Nat.add_zero] at HP111)
                   go_wp2_with (first|((with_reducible refine gate_store (t:=133) (p:=155) rfl ?_);refine store_event (t:=133) (p:=155) (v:=?vo_w112) (w1:=(wr.setCell ⟨go110,(x27_1 : Int).toNat,none⟩ (.slice Ao94 x10_2.length co94))) ?hg ?ho ?hn ?hr ?_;(case ho=>rfl);(case hg=>rfl);(case hn=>rfl);(case hr=>first|(go_simp;done)|(go_simp;rfl));intro w112 hw;have hg : wr.grownBy w112 (some go110):=(by rw [hw];exact HP111.2);have hp_ : Kd.S (Kd.slice 33 (Kd.int .u32)) 133 w112 w.heap.size (fun _=>True) (.slice (some ⟨go110,0,none⟩) x6_1.length co110) y159:=(by rw [hw,Ny159.out];exact HP111.1);clear HP111;have n0_:=Aside0.mk (hp_);have n1_:=Aside0.mk (blk_grown (g:=gb134) (o:=.cells #[.int .i64 (ji12)] 3 (0,0)) (by (with_reducible repeat (first|refine blk_drewN ?_ _|refine blk_drew ?_|refine blk_alloc ?_ _));exact BK134.out) hg (Kd.S_ne HO_6.out BK134.out (by decide)));have n2_:=Aside0.mk (blk_grown (g:=gb139) (o:=.cells #[.int .i64 ((rd_T128 l0 x27_1).f0),.int .i64 ((rd_T128 l0 x27_1).f1),.int .i64 ((rd_T128 l0 x27_1).f2)] 128 (0,0)) (by (with_reducible repeat (first|refine blk_drewN ?_ _|refine blk_drew ?_|refine blk_alloc ?_ _));exact BK139.out) hg (Kd.S_ne HO_6.out BK139.out (by decide)));have n3_:=Aside0.mk ((by rw [hw];exact below_set (HB.out) GB110.out : Below w.heap.size w w112));clear HO_6;clear BK134;clear BK139;clear HB;clear HO_10;have HO_6:=n0_;have BK134:=n1_;have BK139:=n2_;have HB:=n3_;clear n0_ n1_ n2_ n3_;clear hg hw hp_))
                   (try simp only [← hl10_2])
                   first|go_roundg k2|((simp only [← hji12]);go_roundg k2)
                   case measure=>have:=HK1.out;have:=HK2.out;omega
                   case rel=>exact ⟨(y159),(wrap64 (x27_1 + 1)),(by first|rfl|(simp;done)|(simp [*];done)),(by first|exact H'|((simp only [hji12]);exact H')|(have h_:=H'.out;simp only [← hji12] at h_ ⊢;exact ⟨h_⟩)),⟨by have:=HK1.out;have:=HK2.out;omega⟩,⟨by (try simp only [hl10_2]);(with_reducible repeat (first|apply Kd.S_alloc|apply Kd.S_drewN|apply Kd.S_drew));exact HO_6.out⟩,⟨by (try simp only [hl10_2]);(with_reducible repeat (first|refine blk_drewN ?_ _|refine blk_drew ?_|refine blk_alloc ?_ _));(first|exact BK134.out|(have h_:=BK134.out;simp only [← hji12] at h_;exact h_))⟩,⟨by repeat (first|(with_reducible first|exact HB.out|apply below_alloc|apply pw_below_drewN|apply below_drew1|refine below_set ?_ GE134.out|refine below_set ?_ GE139.out)|exact HB.out)⟩⟩
                  ·rw [if_neg c109] at H
                   exact absurd H (by simp)
                 ·rw [if_neg c108] at H
                  exact absurd H (by simp)
             ·rw [if_neg c86] at H
              have c86b0 : (((rd_T128 l0 x27_1).f0) == 5) = false:=beq_eq_false_iff_ne.mpr c86
              have c86b1 : (((rd_T128 l0 x27_1).f0) != 5) = true:=bne_iff_ne.mpr c86
              by_cases c113 : ((rd_T128 l0 x27_1).f0) = 6
              ·rw [if_pos c113] at H
               have c113b0 : (((rd_T128 l0 x27_1).f0) == 6) = true:=beq_iff_eq.mpr c113
               have c113b1 : (((rd_T128 l0 x27_1).f0) != 6) = false:=bne_eq_false_iff_eq.mpr c113
               clear c113
               have H':=Aside0.mk H
               clear H
               have p138 : 0 ≤ (x27_1 : Int):=of_decide_eq_true (by first|(with_reducible assumption)|assumption)
               have q138 : x27_1 < (l0.length : Int):=of_decide_eq_true (by first|(with_reducible assumption)|assumption)
               obtain ⟨ad138,e138,hx138_0,hx138_1,hx138_2⟩:=at_T128 HR0.out x27_1 p138 q138
               cases e138
               replace hx138_0:=(HB.out.cell (World.block_lt_of_cell? w _ hx138_0)).trans hx138_0
               replace hx138_1:=(HB.out.cell (World.block_lt_of_cell? w _ hx138_1)).trans hx138_1
               replace hx138_2:=(HB.out.cell (World.block_lt_of_cell? w _ hx138_2)).trans hx138_2
               replace p138:=eq_true p138
               replace q138:=eq_true q138
               go_wp2_with (first|((with_reducible refine gate_dst (N:=9) rfl ?_);refine box_event ?hg (N:=9) ?hd (cs:=#[.int .i64 0,.int .i64 0,.int .i64 0]) (t:=128) ?hr ?_;(case hd=>rfl);(case hg=>rfl);(case hr=>first|(go_simp;done)|(go_simp;rfl));intro gb139 hg w114 hbox hb;have n0_:=Aside0.mk (Kd.S_below (by (with_reducible repeat (first|apply Kd.S_alloc|apply Kd.S_drewN|apply Kd.S_drew));exact HO_6.out) hb);have n1_:=Aside0.mk (blk_below (g:=gb134) (o:=.cells #[.int .i64 (ji12)] 3 (0,0)) (by (with_reducible repeat (first|refine blk_drewN ?_ _|refine blk_drew ?_|refine blk_alloc ?_ _));exact BK134.out) hb);have n2_:=Aside0.mk (below_step (by repeat (first|(with_reducible first|exact HB.out|apply below_alloc|apply pw_below_drewN|apply below_drew1|refine below_set ?_ GE134.out)|exact HB.out)) hb);have n3_:=Aside0.mk (hbox);have n4_:=Aside0.mk ((by rw [hg];exact (below_size (by repeat (first|(with_reducible first|exact HB.out|apply below_alloc|apply pw_below_drewN|apply below_drew1|refine below_set ?_ GE134.out)|exact HB.out))) : w.heap.size ≤ gb139));have n5_:=Aside0.mk ((by rw [hg];exact (below_size (by repeat (first|(with_reducible first|exact HB.out|apply below_alloc|apply pw_below_drewN|apply below_drew1|refine below_set ?_ GE134.out)|exact HB.out))) : w.heap.size ≤ gb139));have n6_:=Aside0.mk ((by rw [hg];exact Nat.ne_of_lt (blk_lt (g:=gb134) (o:=.cells #[.int .i64 (ji12)] 3 (0,0)) (by (with_reducible repeat (first|refine blk_drewN ?_ _|refine blk_drew ?_|refine blk_alloc ?_ _));exact BK134.out)) : gb134 ≠ gb139));have n7_:=Aside0.mk ((by rw [hg];exact Nat.ne_of_gt (blk_lt (g:=gb134) (o:=.cells #[.int .i64 (ji12)] 3 (0,0)) (by (with_reducible repeat (first|refine blk_drewN ?_ _|refine blk_drew ?_|refine blk_alloc ?_ _));exact BK134.out)) : gb139 ≠ gb134));clear HO_6;clear BK134;clear HB;have HO_6:=n0_;have BK134:=n1_;have HB:=n2_;have BK139:=n3_;have GW139:=n4_;have GE139:=n5_;have NB134_139:=n6_;have NB139_134:=n7_;clear n0_ n1_ n2_ n3_ n4_ n5_ n6_ n7_;clear hb hbox hg;have hnb115:=NB139_134.out;have hnc115:=NB134_139.out;have hcz116_0 : w114.cell? ⟨gb139,0,none⟩ = some (.int .i64 0):=(blk_cell BK139.out 0).trans rfl;have hcz116_1 : w114.cell? ⟨gb139,1,none⟩ = some (.int .i64 0):=(blk_cell BK139.out 1).trans rfl;have hcz116_2 : w114.cell? ⟨gb139,2,none⟩ = some (.int .i64 0):=(blk_cell BK139.out 2).trans rfl;have hfz116_0:=blk_frozen BK139.out 0;have hfz116_1:=blk_frozen BK139.out 1;have hfz116_2:=blk_frozen BK139.out 2;have hcz117_0 : w114.cell? ⟨gb134,0,none⟩ = some (.int .i64 (ji12)):=(blk_cell BK134.out 0).trans rfl;have hfz117_0:=blk_frozen BK134.out 0)|((with_reducible refine gate_dst (N:=33) rfl ?_);refine Kd.R_make (Kd.int .u32) _ 33 rfl (N:=33) rfl 133 _ _ rfl (ji12) rfl rfl Try.underlying133 (.int .u32 0) 4 info33 rfl (by decide) (by omega) 0 (ok:=fun _=>True) (okp:=fun _=>True) rfl (fun _ hk=>hk) trivial (of_decide_eq_true (by first|(with_reducible assumption)|assumption)) (Nat.le_trans (Nat.mul_le_mul_right _ (of_decide_eq_true (by first|(with_reducible assumption)|assumption) : (ji12).toNat ≤ 70368744177664)) (by omega)) (Below.refl _ _) (Nat.le_refl _) ?_;intro v141 w118 ho119 hb hg_ hnew_;clear hg_ hnew_;(first|rw [← Ny140.out] at ho119|(simp only [Int.reduceToNat] at ho119;rw [← Ny140.out] at ho119));have n0_:=Aside0.mk (Kd.S_elder' (by (with_reducible repeat (first|apply Kd.S_alloc|apply Kd.S_drewN|apply Kd.S_drew));exact (Kd.S_mono (Kd.S_far (p:=⟨gb139,2,none⟩) (Kd.S_far (p:=⟨gb139,1,none⟩) (Kd.S_far (p:=⟨gb139,0,none⟩) (Kd.S_types HO_6.out BK139.out (by decide)) (fun _ hk=>hk.2) (.int .i64 ((rd_T128 l0 x27_1).f0))) (fun _ hk=>hk.2) (.int .i64 ((rd_T128 l0 x27_1).f1))) (fun _ hk=>hk.2) (.int .i64 ((rd_T128 l0 x27_1).f2))) (fun _ h_=>h_.1))) (Kd.R_base ho119) hb);have n1_:=Aside0.mk (Kd.R_lower ho119 (below_size (by repeat (first|(with_reducible first|exact HB.out|apply below_alloc|apply pw_below_drewN|apply below_drew1|refine below_set ?_ GE134.out|refine below_set ?_ GE139.out)|exact HB.out))));have n2_:=Aside0.mk (blk_below (g:=gb134) (o:=.cells #[.int .i64 (ji12)] 3 (0,0)) (by (with_reducible repeat (first|refine blk_drewN ?_ _|refine blk_drew ?_|refine blk_alloc ?_ _));refine blk_far ?_ NB134_139.out _;(with_reducible repeat (first|refine blk_drewN ?_ _|refine blk_drew ?_|refine blk_alloc ?_ _));refine blk_far ?_ NB134_139.out _;(with_reducible repeat (first|refine blk_drewN ?_ _|refine blk_drew ?_|refine blk_alloc ?_ _));refine blk_far ?_ NB134_139.out _;(with_reducible repeat (first|refine blk_drewN ?_ _|refine blk_drew ?_|refine blk_alloc ?_ _));exact BK134.out) hb);have n3_:=Aside0.mk (blk_below (g:=gb139) (o:=.cells #[.int .i64 ((rd_T128 l0 x27_1).f0),.int .i64 ((rd_T128 l0 x27_1).f1),.int .i64 ((rd_T128 l0 x27_1).f2)] 128 (0,0)) (by (with_reducible repeat (first|refine blk_drewN ?_ _|refine blk_drew ?_|refine blk_alloc ?_ _));refine blk_put (cs:=#[.int .i64 ((rd_T128 l0 x27_1).f0),.int .i64 ((rd_T128 l0 x27_1).f1),.int .i64 0]) ?_ 2 _ rfl;(with_reducible repeat (first|refine blk_drewN ?_ _|refine blk_drew ?_|refine blk_alloc ?_ _));refine blk_put (cs:=#[.int .i64 ((rd_T128 l0 x27_1).f0),.int .i64 0,.int .i64 0]) ?_ 1 _ rfl;(with_reducible repeat (first|refine blk_drewN ?_ _|refine blk_drew ?_|refine blk_alloc ?_ _));refine blk_put (cs:=#[.int .i64 0,.int .i64 0,.int .i64 0]) ?_ 0 _ rfl;(with_reducible repeat (first|refine blk_drewN ?_ _|refine blk_drew ?_|refine blk_alloc ?_ _));exact BK139.out) hb);have n4_:=Aside0.mk (below_step (by repeat (first|(with_reducible first|exact HB.out|apply below_alloc|apply pw_below_drewN|apply below_drew1|refine below_set ?_ GE134.out|refine below_set ?_ GE139.out)|exact HB.out)) hb);clear HO_6;clear BK134;clear BK139;clear HB;have HO_6:=n0_;have HO142:=n1_;have BK134:=n2_;have BK139:=n3_;have HB:=n4_;clear n0_ n1_ n2_ n3_ n4_;clear hb ho119;have hcz120_0 : w118.cell? ⟨gb139,0,none⟩ = some (.int .i64 ((rd_T128 l0 x27_1).f0)):=(blk_cell BK139.out 0).trans rfl;have hcz120_1 : w118.cell? ⟨gb139,1,none⟩ = some (.int .i64 ((rd_T128 l0 x27_1).f1)):=(blk_cell BK139.out 1).trans rfl;have hcz120_2 : w118.cell? ⟨gb139,2,none⟩ = some (.int .i64 ((rd_T128 l0 x27_1).f2)):=(blk_cell BK139.out 2).trans rfl;have hfz120_0:=blk_frozen BK139.out 0;have hfz120_1:=blk_frozen BK139.out 1;have hfz120_2:=blk_frozen BK139.out 2;obtain ⟨Ao121,co121,eo121⟩:=Kd.R_slice HO142.out;subst eo121))
               go_loopg [115] k1 (fun kq v115 w'=>∃ (x10_2 : List Int) (x115_2 : Int),v115 = .int .i64 x115_2 ∧ Aside0 (sentence_spans.l4 kq l1 x6_1 x27_1 x10_2 l0 (l0.length : Int) x27_1 (y140.length : Int) x115_2 (ji12) ((rd_T128 l0 x27_1).f0) ((rd_T128 l0 x27_1).f1) ((rd_T128 l0 x27_1).f2) = some r) ∧ Aside0 (kq ≤ k1) ∧ Aside0 (Kd.S (Kd.slice 33 (Kd.int .u32)) 133 w' w.heap.size (fun k_=>some k_ ≠ ((.slice Ao121 y140.length co121) : Value).ownBlock) v136 x6_1) ∧ Aside0 (Kd.R (Kd.int .u32) 33 w' w.heap.size (fun _=>True) (.slice Ao121 y140.length co121) x10_2) ∧ Aside0 (w'.heap[gb134]? = some (.cells #[.int .i64 (ji12)] 3 (0,0))) ∧ Aside0 (w'.heap[gb139]? = some (.cells #[.int .i64 ((rd_T128 l0 x27_1).f0),.int .i64 ((rd_T128 l0 x27_1).f1),.int .i64 ((rd_T128 l0 x27_1).f2)] 128 (0,0))) ∧ Aside0 (Below w.heap.size w w'))
               case atStart=>exact ⟨(y140),(0),(by first|rfl|(simp;done)|(simp [*];done)),H',⟨Nat.le_refl _⟩,⟨by (with_reducible repeat (first|apply Kd.S_alloc|apply Kd.S_drewN|apply Kd.S_drew));exact Kd.S_mono HO_6.out (fun _ hk=>hk.2)⟩,⟨by (with_reducible repeat (first|apply Kd.R_alloc|apply Kd.R_drewN|apply Kd.R_drew));exact HO142.out⟩,⟨by (with_reducible repeat (first|refine blk_drewN ?_ _|refine blk_drew ?_|refine blk_alloc ?_ _));exact BK134.out⟩,⟨by (with_reducible repeat (first|refine blk_drewN ?_ _|refine blk_drew ?_|refine blk_alloc ?_ _));exact BK139.out⟩,⟨by repeat (first|(with_reducible first|exact HB.out|apply below_alloc|apply pw_below_drewN|apply below_drew1|refine below_set ?_ GE134.out|refine below_set ?_ GE139.out)|exact HB.out)⟩⟩
               case round =>
                clear H'
                try clear c1
                try clear p1
                try clear q1
                try clear hx1
                try clear p2
                try clear q2
                try clear hx2
                try clear hf2
                try clear c3
                try clear p3
                try clear q3
                try clear hx3
                try clear hf3
                try clear c4
                try clear c5
                try clear p5
                try clear q5
                try clear hx5
                try clear hf5
                try clear c6
                try clear p6
                try clear q6
                try clear hx6
                try clear hf6
                try clear c7
                try clear p7
                try clear q7
                try clear hx7
                try clear hf7
                try clear c8
                try clear hx8
                try clear hf8
                try clear c9
                try clear c10
                try clear p10
                try clear q10
                try clear hx10
                try clear hf10
                try clear c11
                try clear p11
                try clear q11
                try clear hx11
                try clear hf11
                try clear p13
                try clear q13
                try clear hx13
                try clear p14
                try clear q14
                try clear hx14
                try clear c15
                try clear p15
                try clear q15
                try clear hx15
                try clear p28
                try clear q28
                try clear hx28
                try clear hf28
                try clear c31
                try clear c31b0
                try clear c32
                try clear c32b0
                try clear c33
                try clear p33
                try clear q33
                try clear hx33
                try clear hf33
                try clear c34
                try clear hx34
                try clear hf34
                try clear c36
                try clear c36b0
                try clear c36b1
                try clear c38
                try clear c44
                try clear c44b0
                try clear c45
                try clear c45b0
                try clear c46
                try clear c46b0
                try clear c47
                try clear c47b0
                try clear c47b1
                try clear c49
                try clear c49b0
                try clear c49b1
                try clear c51
                try clear c51b0
                try clear p52
                try clear q52
                try clear hx52
                try clear hf52
                try clear c53
                try clear c57
                try clear c59
                try clear c59b0
                try clear c60
                try clear c60b0
                try clear c61
                try clear p61
                try clear q61
                try clear hx61
                try clear hf61
                try clear c63
                try clear hx63
                try clear hf63
                try clear p64
                try clear c65
                try clear c65b0
                try clear c65b1
                try clear c66
                try clear c66b0
                try clear c67
                try clear c67b0
                try clear c68
                try clear c68b0
                try clear c69
                try clear c69b0
                try clear c71
                try clear c71b0
                try clear c72
                try clear p72
                try clear q72
                try clear hx72
                try clear hf72
                try clear c74
                try clear c84
                try clear hx84
                try clear hf84
                try clear c86
                try clear c86b0
                try clear c86b1
                try clear c88
                try clear c95
                try clear c95b0
                try clear c96
                try clear c96b0
                try clear c97
                try clear c97b0
                try clear c98
                try clear c98b0
                try clear c99
                try clear c99b0
                try clear c100
                try clear c100b0
                try clear c101
                try clear c101b0
                try clear c102
                try clear c102b0
                try clear c103
                try clear c103b0
                try clear p104
                try clear q104
                try clear hx104
                try clear hf104
                try clear c108
                try clear c108b0
                try clear c109
                try clear c109b0
                try clear c110
                try clear p110
                try clear q110
                try clear hx110
                try clear hf110
                try clear c111
                try clear hx111
                try clear hf111
                try clear c113
                try clear c113b0
                try clear c113b1
                try clear c115
                try clear hcz116_0
                try clear hcz116_1
                try clear hcz116_2
                try clear hcz117_0
                try clear hcz120_0
                try clear hcz120_1
                try clear hcz120_2
                try clear hcz18_0
                try clear hcz18_1
                try clear hcz18_2
                try clear hcz19_0
                try clear hcz22_0
                try clear hcz22_1
                try clear hcz22_2
                try clear hcz39_0
                try clear hcz39_1
                try clear hcz39_2
                try clear hcz40_0
                try clear hcz43_0
                try clear hcz43_1
                try clear hcz43_2
                try clear hcz54_0
                try clear hcz54_1
                try clear hcz54_2
                try clear hcz58_0
                try clear hcz58_1
                try clear hcz58_2
                try clear hcz6_0
                try clear hcz75_0
                try clear hcz75_1
                try clear hcz75_2
                try clear hcz76_0
                try clear hcz79_0
                try clear hcz79_1
                try clear hcz79_2
                try clear hcz89_0
                try clear hcz89_1
                try clear hcz89_2
                try clear hcz90_0
                try clear hcz93_0
                try clear hcz93_1
                try clear hcz93_2
                try clear hfz116_0
                try clear hfz116_1
                try clear hfz116_2
                try clear hfz117_0
                try clear hfz120_0
                try clear hfz120_1
                try clear hfz120_2
                try clear hfz18_0
                try clear hfz18_1
                try clear hfz18_2
                try clear hfz19_0
                try clear hfz22_0
                try clear hfz22_1
                try clear hfz22_2
                try clear hfz39_0
                try clear hfz39_1
                try clear hfz39_2
                try clear hfz40_0
                try clear hfz43_0
                try clear hfz43_1
                try clear hfz43_2
                try clear hfz54_0
                try clear hfz54_1
                try clear hfz54_2
                try clear hfz58_0
                try clear hfz58_1
                try clear hfz58_2
                try clear hfz6_0
                try clear hfz75_0
                try clear hfz75_1
                try clear hfz75_2
                try clear hfz76_0
                try clear hfz79_0
                try clear hfz79_1
                try clear hfz79_2
                try clear hfz89_0
                try clear hfz89_1
                try clear hfz89_2
                try clear hfz90_0
                try clear hfz93_0
                try clear hfz93_1
                try clear hfz93_2
                try clear hx104_0
                try clear hx110_0
                try clear hx111_0
                try clear hx138_0
                try clear hx138_1
                try clear hx138_2
                try clear hx145_0
                try clear hx148_0
                try clear hx149_0
                try clear hx154_0
                try clear hx155_0
                try clear hx156_0
                try clear hx157_0
                try clear hx28_0
                try clear hx33_0
                try clear hx34_0
                try clear hx52_0
                try clear hx61_0
                try clear hx63_0
                try clear hx72_0
                try clear hx84_0
                try clear p1
                try clear p104
                try clear p110
                try clear p13
                try clear p138
                try clear p145
                try clear p148
                try clear p149
                try clear p154
                try clear p155
                try clear p156
                try clear p157
                try clear p2
                try clear p28
                try clear p3
                try clear p33
                try clear p52
                try clear p6
                try clear p61
                try clear p64
                try clear p72
                try clear q1
                try clear q104
                try clear q110
                try clear q13
                try clear q138
                try clear q145
                try clear q148
                try clear q149
                try clear q154
                try clear q155
                try clear q156
                try clear q157
                try clear q28
                try clear q3
                try clear q33
                try clear q52
                try clear q61
                try clear q72
                obtain ⟨x10_2,x115_2,rfl,HA,HK2,HO_6,HO_10,BK134,BK139,HB⟩:=hrel
                have hl10_2:=(Kd.R_reads' HO_10.out).1
                rw [hl10_2] at HO_10
                (try simp only [hl10_2])
                (try simp only [hl10_2] at BK134)
                (try simp only [hl10_2] at BK139)
                (try simp only [hl10_2] at HO_6)
                cases gk with
                | zero=>exact absurd HA.out (by simp [sentence_spans.l4])
                | succ k2 =>
                 have H:=HA.out
                 clear HA
                 simp only [sentence_spans.l4] at H
                 by_cases c122 : x115_2 < (y140.length : Int)
                 ·rw [if_pos c122] at H
                  have c122b0 : decide (x115_2 < (y140.length : Int)) = true:=decide_eq_true c122
                  (try (have c122b0h:=c122b0;simp only [hl10_2] at c122b0h))
                  clear c122
                  by_cases c123 : 0 ≤ x115_2
                  ·rw [if_pos c123] at H
                   have c123b0:=eq_true c123
                   have c123b1 : decide (0 ≤ x115_2) = true:=decide_eq_true c123
                   clear c123
                   obtain ⟨ji124,hji124⟩ : ∃ j_ : Int,(shl .u32 1 x115_2) = j_:=⟨_,rfl⟩
                   replace H : (if x115_2 < (x10_2.length : Int) then (sentence_spans.l4 k2 l1 x6_1 x27_1 (x10_2.set (x115_2 : Int).toNat (ji124)) l0 (l0.length : Int) x27_1 (y140.length : Int) (wrap64 (x115_2 + 1)) (ji12) ((rd_T128 l0 x27_1).f0) ((rd_T128 l0 x27_1).f1) ((rd_T128 l0 x27_1).f2)) else (none)) = some r:=by first|(rw [hji124] at H;exact H)|(simp only [hji124] at H ⊢;exact H)
                   have hji124_ : (IntKind.u32.wrap (1 * 2 ^ min x115_2.toNat 32)) = ji124:=hji124
                   have hji124z : x115_2 ≤ 32 → (IntKind.u32.wrap (1 * 2 ^ x115_2.toNat)) = ji124:=shl_small hji124
                   have hji124u : (IntKind.u32.wrap (2 ^ min x115_2.toNat 32)) = ji124:=by have h_:=hji124_;rw [Int.one_mul] at h_;exact h_
                   have hji124v : x115_2 ≤ 32 → (IntKind.u32.wrap (2 ^ x115_2.toNat)) = ji124:=fun hle_=>by have h_:=hji124z hle_;rw [Int.one_mul] at h_;exact h_
                   by_cases c125 : x115_2 < (x10_2.length : Int)
                   ·rw [if_pos c125] at H
                    have c125b0 : decide (x115_2 < (x10_2.length : Int)) = true:=decide_eq_true c125
                    (try (have c125b0h:=c125b0;simp only [hl10_2] at c125b0h))
                    clear c125
                    obtain ⟨y160,hy160⟩ : ∃ y_ : List Int,y_ = (x10_2.set (x115_2 : Int).toNat (ji124)):=⟨_,rfl⟩
                    replace H : (sentence_spans.l4 k2 l1 x6_1 x27_1 y160 l0 (l0.length : Int) x27_1 (y140.length : Int) (wrap64 (x115_2 + 1)) (ji12) ((rd_T128 l0 x27_1).f0) ((rd_T128 l0 x27_1).f1) ((rd_T128 l0 x27_1).f2)) = some r:=by first|(rw [hy160];with_reducible exact H)|(have H2_:=(Option.bind_some _ _).symm.trans H;rw [hy160];with_reducible exact H2_)|(have H2_:=(Option.bind_some _ _).symm.trans H;with_reducible exact H2_)|with_reducible exact H|(rw [hy160];exact H)|exact H
                    have Ny160:=Aside0.mk hy160
                    clear hy160
                    have H':=Aside0.mk H
                    clear H
                    have p126 : 0 ≤ (x115_2 : Int):=of_decide_eq_true (by first|(with_reducible assumption)|assumption)
                    have q126 : (x115_2 : Int) < ((x10_2.length : Int) : Int):=of_decide_eq_true (by first|(with_reducible assumption)|assumption)
                    obtain ⟨go126,co126,eo126,gb126,gl126,cl126,HG126⟩:=Kd.R_form HO_10.out (by omega)
                    (first|cases eo126|(injection eo126 with ea_ en_ ec_;(first|subst ea_|(injection ea_ with ea_;subst ea_));subst ec_;clear en_))
                    have GB126:=Aside0.mk gb126
                    have GG126:=Aside0.mk HG126
                    clear gb126 gl126 HG126
                    obtain ⟨hx126_0,hf126_0⟩:=Kd.R_celln 0 HO_10.out (x115_2 : Int) p126 q126
                    replace p126:=eq_true p126
                    replace q126:=eq_true q126
                    have HP127:=Kd.R_putg HO_10.out (x115_2 : Int) ji124
                    go_wp2_with (first|((with_reducible refine gate_store (t:=33) (p:=122) rfl ?_);refine store_event (t:=33) (p:=122) (v:=?vo_w128) (w1:=(wr.setCell ⟨go126,(x115_2 : Int).toNat,none⟩ (.int .u32 ji124))) ?hg ?ho ?hn ?hr ?_;(case ho=>rfl);(case hg=>rfl);(case hn=>rfl);(case hr=>first|(go_simp;done)|(go_simp;rfl));intro w128 hw;have hg : wr.grownBy w128 (some go126):=(by rw [hw];exact HP127.2);have hp_ : Kd.R (Kd.int .u32) 33 w128 w.heap.size (fun _=>True) (.slice (some ⟨go126,0,none⟩) x10_2.length co121) y160:=(by rw [hw,Ny160.out];exact HP127.1);clear HP127;have n0_:=Aside0.mk (Kd.S_after (v:=(.slice (some ⟨go126,0,none⟩) x10_2.length co121)) (v1:=(.slice (some ⟨go126,0,none⟩) x10_2.length co121)) (ok:=(fun _=>True)) (by (with_reducible repeat (first|apply Kd.S_alloc|apply Kd.S_drewN|apply Kd.S_drew));exact Kd.S_mono HO_6.out (fun _ hk=>⟨trivial,hk⟩)) hg (.inl rfl));have n1_:=Aside0.mk (hp_);have n2_:=Aside0.mk (blk_grown (g:=gb134) (o:=.cells #[.int .i64 (ji12)] 3 (0,0)) (by (with_reducible repeat (first|refine blk_drewN ?_ _|refine blk_drew ?_|refine blk_alloc ?_ _));exact BK134.out) hg (Kd.R_ne HO_10.out BK134.out (by decide)));have n3_:=Aside0.mk (blk_grown (g:=gb139) (o:=.cells #[.int .i64 ((rd_T128 l0 x27_1).f0),.int .i64 ((rd_T128 l0 x27_1).f1),.int .i64 ((rd_T128 l0 x27_1).f2)] 128 (0,0)) (by (with_reducible repeat (first|refine blk_drewN ?_ _|refine blk_drew ?_|refine blk_alloc ?_ _));exact BK139.out) hg (Kd.R_ne HO_10.out BK139.out (by decide)));have n4_:=Aside0.mk ((by rw [hw];exact below_set (HB.out) GB126.out : Below w.heap.size w w128));clear HO_6;clear HO_10;clear BK134;clear BK139;clear HB;have HO_6:=n0_;have HO_10:=n1_;have BK134:=n2_;have BK139:=n3_;have HB:=n4_;clear n0_ n1_ n2_ n3_ n4_;clear hg hw hp_))
                    (try simp only [← hl10_2])
                    first|go_roundg k2|((simp only [← hji12,← hji124]);go_roundg k2)
                    case measure=>have:=HK1.out;have:=HK2.out;omega
                    case rel=>exact ⟨(y160),(wrap64 (x115_2 + 1)),(by first|rfl|(simp;done)|(simp [*];done)),(by first|exact H'|((simp only [hji12,hji124]);exact H')|(have h_:=H'.out;simp only [← hji12,← hji124] at h_ ⊢;exact ⟨h_⟩)),⟨by have:=HK1.out;have:=HK2.out;omega⟩,⟨by (try simp only [hl10_2]);(with_reducible repeat (first|apply Kd.S_alloc|apply Kd.S_drewN|apply Kd.S_drew));exact Kd.S_mono HO_6.out (fun _ hk=>hk.2)⟩,⟨by (try simp only [hl10_2]);(with_reducible repeat (first|apply Kd.R_alloc|apply Kd.R_drewN|apply Kd.R_drew));exact HO_10.out⟩,⟨by (try simp only [hl10_2]);(with_reducible repeat (first|refine blk_drewN ?_ _|refine blk_drew ?_|refine blk_alloc ?_ _));(first|exact BK134.out|(have h_:=BK134.out;simp only [← hji12,← hji124] at h_;exact h_))⟩,⟨by (try simp only [hl10_2]);(with_reducible repeat (first|refine blk_drewN ?_ _|refine blk_drew ?_|refine blk_alloc ?_ _));(first|exact BK139.out|(have h_:=BK139.out;simp only [← hji12,← hji124] at h_;exact h_))⟩,⟨by repeat (first|(with_reducible first|exact HB.out|apply below_alloc|apply pw_below_drewN|apply below_drew1|refine below_set ?_ GE134.out|refine below_set ?_ GE139.out)|exact HB.out)⟩⟩
                   ·rw [if_neg c125] at H
                    exact absurd H (by simp)
                  ·rw [if_neg c123] at H
                   exact absurd H (by simp)
                 ·rw [if_neg c122] at H
                  have c122b0 : decide (x115_2 < (y140.length : Int)) = false:=decide_eq_false c122
                  (try (have c122b0h:=c122b0;simp only [hl10_2] at c122b0h))
                  clear c122
                  have H':=Aside0.mk H
                  clear H
                  have hnb129:=NB134_139.out
                  have hnc129:=NB139_134.out
                  have hcz130_0 : wr.cell? ⟨gb134,0,none⟩ = some (.int .i64 (ji12)):=(blk_cell BK134.out 0).trans rfl
                  have hfz130_0:=blk_frozen BK134.out 0
                  go_wp2
                  go_loopg [125] k2 (fun kq v125 w'=>∃ (x10_3 : List Int) (x125_3 : Int),v125 = .int .i64 x125_3 ∧ Aside0 (sentence_spans.l5 kq l1 x6_1 x27_1 x10_3 l0 (l0.length : Int) x27_1 (ji12) x125_3 (ji12) ((rd_T128 l0 x27_1).f0) ((rd_T128 l0 x27_1).f1) ((rd_T128 l0 x27_1).f2) = some r) ∧ Aside0 (kq ≤ k2) ∧ Aside0 (Kd.S (Kd.slice 33 (Kd.int .u32)) 133 w' w.heap.size (fun k_=>some k_ ≠ ((.slice Ao121 x10_2.length co121) : Value).ownBlock) v136 x6_1) ∧ Aside0 (Kd.R (Kd.int .u32) 33 w' w.heap.size (fun _=>True) (.slice Ao121 x10_2.length co121) x10_3) ∧ Aside0 (w'.heap[gb134]? = some (.cells #[.int .i64 (ji12)] 3 (0,0))) ∧ Aside0 (w'.heap[gb139]? = some (.cells #[.int .i64 ((rd_T128 l0 x27_1).f0),.int .i64 ((rd_T128 l0 x27_1).f1),.int .i64 ((rd_T128 l0 x27_1).f2)] 128 (0,0))) ∧ Aside0 (Below w.heap.size w w'))
                  case atStart=>exact ⟨(x10_2),(0),(by first|rfl|(simp;done)|(simp [*];done)),H',⟨Nat.le_refl _⟩,⟨by (try simp only [hl10_2]);(with_reducible repeat (first|apply Kd.S_alloc|apply Kd.S_drewN|apply Kd.S_drew));exact HO_6.out⟩,⟨by (try simp only [hl10_2]);(with_reducible repeat (first|apply Kd.R_alloc|apply Kd.R_drewN|apply Kd.R_drew));exact HO_10.out⟩,⟨by (try simp only [hl10_2]);(with_reducible repeat (first|refine blk_drewN ?_ _|refine blk_drew ?_|refine blk_alloc ?_ _));exact BK134.out⟩,⟨by (try simp only [hl10_2]);(with_reducible repeat (first|refine blk_drewN ?_ _|refine blk_drew ?_|refine blk_alloc ?_ _));exact BK139.out⟩,⟨by repeat (first|(with_reducible first|exact HB.out|apply below_alloc|apply pw_below_drewN|apply below_drew1|refine below_set ?_ GE134.out|refine below_set ?_ GE139.out)|exact HB.out)⟩⟩
                  case round =>
                   clear H'
                   try clear c1
                   try clear p1
                   try clear q1
                   try clear hx1
                   try clear p2
                   try clear q2
                   try clear hx2
                   try clear hf2
                   try clear c3
                   try clear p3
                   try clear q3
                   try clear hx3
                   try clear hf3
                   try clear c4
                   try clear c5
                   try clear p5
                   try clear q5
                   try clear hx5
                   try clear hf5
                   try clear c6
                   try clear p6
                   try clear q6
                   try clear hx6
                   try clear hf6
                   try clear c7
                   try clear p7
                   try clear q7
                   try clear hx7
                   try clear hf7
                   try clear c8
                   try clear hx8
                   try clear hf8
                   try clear c9
                   try clear c10
                   try clear p10
                   try clear q10
                   try clear hx10
                   try clear hf10
                   try clear c11
                   try clear p11
                   try clear q11
                   try clear hx11
                   try clear hf11
                   try clear c12
                   try clear p12
                   try clear q12
                   try clear hx12
                   try clear hf12
                   try clear p13
                   try clear q13
                   try clear hx13
                   try clear p14
                   try clear q14
                   try clear hx14
                   try clear c15
                   try clear p15
                   try clear q15
                   try clear hx15
                   try clear p28
                   try clear q28
                   try clear hx28
                   try clear hf28
                   try clear c31
                   try clear c31b0
                   try clear c32
                   try clear c32b0
                   try clear c33
                   try clear p33
                   try clear q33
                   try clear hx33
                   try clear hf33
                   try clear c34
                   try clear hx34
                   try clear hf34
                   try clear c36
                   try clear c36b0
                   try clear c36b1
                   try clear c38
                   try clear c44
                   try clear c44b0
                   try clear c45
                   try clear c45b0
                   try clear c46
                   try clear c46b0
                   try clear c47
                   try clear c47b0
                   try clear c47b1
                   try clear c49
                   try clear c49b0
                   try clear c49b1
                   try clear c51
                   try clear c51b0
                   try clear p52
                   try clear q52
                   try clear hx52
                   try clear hf52
                   try clear c53
                   try clear c57
                   try clear c59
                   try clear c59b0
                   try clear c60
                   try clear c60b0
                   try clear c61
                   try clear p61
                   try clear q61
                   try clear hx61
                   try clear hf61
                   try clear c63
                   try clear hx63
                   try clear hf63
                   try clear p64
                   try clear c65
                   try clear c65b0
                   try clear c65b1
                   try clear c66
                   try clear c66b0
                   try clear c67
                   try clear c67b0
                   try clear c68
                   try clear c68b0
                   try clear c69
                   try clear c69b0
                   try clear c71
                   try clear c71b0
                   try clear c72
                   try clear p72
                   try clear q72
                   try clear hx72
                   try clear hf72
                   try clear c74
                   try clear c84
                   try clear hx84
                   try clear hf84
                   try clear c86
                   try clear c86b0
                   try clear c86b1
                   try clear c88
                   try clear c95
                   try clear c95b0
                   try clear c96
                   try clear c96b0
                   try clear c97
                   try clear c97b0
                   try clear c98
                   try clear c98b0
                   try clear c99
                   try clear c99b0
                   try clear c100
                   try clear c100b0
                   try clear c101
                   try clear c101b0
                   try clear c102
                   try clear c102b0
                   try clear c103
                   try clear c103b0
                   try clear p104
                   try clear q104
                   try clear hx104
                   try clear hf104
                   try clear c108
                   try clear c108b0
                   try clear c109
                   try clear c109b0
                   try clear c110
                   try clear p110
                   try clear q110
                   try clear hx110
                   try clear hf110
                   try clear c111
                   try clear hx111
                   try clear hf111
                   try clear c113
                   try clear c113b0
                   try clear c113b1
                   try clear c115
                   try clear c122
                   try clear c122b0
                   try clear c123
                   try clear c123b0
                   try clear c123b1
                   try clear c125
                   try clear c125b0
                   try clear p126
                   try clear q126
                   try clear hx126
                   try clear hf126
                   try clear c129
                   try clear hcz116_0
                   try clear hcz116_1
                   try clear hcz116_2
                   try clear hcz117_0
                   try clear hcz120_0
                   try clear hcz120_1
                   try clear hcz120_2
                   try clear hcz130_0
                   try clear hcz18_0
                   try clear hcz18_1
                   try clear hcz18_2
                   try clear hcz19_0
                   try clear hcz22_0
                   try clear hcz22_1
                   try clear hcz22_2
                   try clear hcz39_0
                   try clear hcz39_1
                   try clear hcz39_2
                   try clear hcz40_0
                   try clear hcz43_0
                   try clear hcz43_1
                   try clear hcz43_2
                   try clear hcz54_0
                   try clear hcz54_1
                   try clear hcz54_2
                   try clear hcz58_0
                   try clear hcz58_1
                   try clear hcz58_2
                   try clear hcz6_0
                   try clear hcz75_0
                   try clear hcz75_1
                   try clear hcz75_2
                   try clear hcz76_0
                   try clear hcz79_0
                   try clear hcz79_1
                   try clear hcz79_2
                   try clear hcz89_0
                   try clear hcz89_1
                   try clear hcz89_2
                   try clear hcz90_0
                   try clear hcz93_0
                   try clear hcz93_1
                   try clear hcz93_2
                   try clear hfz116_0
                   try clear hfz116_1
                   try clear hfz116_2
                   try clear hfz117_0
                   try clear hfz120_0
                   try clear hfz120_1
                   try clear hfz120_2
                   try clear hfz130_0
                   try clear hfz18_0
                   try clear hfz18_1
                   try clear hfz18_2
                   try clear hfz19_0
                   try clear hfz22_0
                   try clear hfz22_1
                   try clear hfz22_2
                   try clear hfz39_0
                   try clear hfz39_1
                   try clear hfz39_2
                   try clear hfz40_0
                   try clear hfz43_0
                   try clear hfz43_1
                   try clear hfz43_2
                   try clear hfz54_0
                   try clear hfz54_1
                   try clear hfz54_2
                   try clear hfz58_0
                   try clear hfz58_1
                   try clear hfz58_2
                   try clear hfz6_0
                   try clear hfz75_0
                   try clear hfz75_1
                   try clear hfz75_2
                   try clear hfz76_0
                   try clear hfz79_0
                   try clear hfz79_1
                   try clear hfz79_2
                   try clear hfz89_0
                   try clear hfz89_1
                   try clear hfz89_2
                   try clear hfz90_0
                   try clear hfz93_0
                   try clear hfz93_1
                   try clear hfz93_2
                   try clear hx104_0
                   try clear hx110_0
                   try clear hx111_0
                   try clear hx126_0
                   try clear hx138_0
                   try clear hx138_1
                   try clear hx138_2
                   try clear hx145_0
                   try clear hx148_0
                   try clear hx149_0
                   try clear hx154_0
                   try clear hx155_0
                   try clear hx156_0
                   try clear hx157_0
                   try clear hx28_0
                   try clear hx33_0
                   try clear hx34_0
                   try clear hx52_0
                   try clear hx61_0
                   try clear hx63_0
                   try clear hx72_0
                   try clear hx84_0
                   try clear p1
                   try clear p10
                   try clear p104
                   try clear p11
                   try clear p110
                   try clear p126
                   try clear p13
                   try clear p138
                   try clear p14
                   try clear p145
                   try clear p148
                   try clear p149
                   try clear p15
                   try clear p154
                   try clear p155
                   try clear p156
                   try clear p157
                   try clear p2
                   try clear p28
                   try clear p3
                   try clear p33
                   try clear p5
                   try clear p52
                   try clear p6
                   try clear p61
                   try clear p64
                   try clear p7
                   try clear p72
                   try clear q1
                   try clear q10
                   try clear q104
                   try clear q11
                   try clear q110
                   try clear q126
                   try clear q13
                   try clear q138
                   try clear q14
                   try clear q145
                   try clear q148
                   try clear q149
                   try clear q15
                   try clear q154
                   try clear q155
                   try clear q156
                   try clear q157
                   try clear q2
                   try clear q28
                   try clear q3
                   try clear q33
                   try clear q5
                   try clear q52
                   try clear q6
                   try clear q61
                   try clear q7
                   try clear q72
                   obtain ⟨x10_3,x125_3,rfl,HA,HK3,HO_6,HO_10,BK134,BK139,HB⟩:=hrel
                   have hl10_3:=(Kd.R_reads' HO_10.out).1
                   rw [hl10_3] at HO_10
                   (try simp only [hl10_3])
                   (try simp only [hl10_3] at BK134)
                   (try simp only [hl10_3] at BK139)
                   (try simp only [hl10_3] at HO_6)
                   cases gk with
                   | zero=>exact absurd HA.out (by simp [sentence_spans.l5])
                   | succ k3 =>
                    have H:=HA.out
                    clear HA
                    simp only [sentence_spans.l5] at H
                    by_cases c131 : x125_3 < (ji12)
                    ·rw [if_pos c131] at H
                     have c131b0 : decide (x125_3 < (ji12)) = true:=decide_eq_true c131
                     clear c131
                     by_cases c132 : 0 ≤ ((rd_T128 l0 x27_1).f1)
                     ·rw [if_pos c132] at H
                      have c132b0 : decide (0 ≤ ((rd_T128 l0 x27_1).f1)) = true:=decide_eq_true c132
                      clear c132
                      by_cases c133 : ((rd_T128 l0 x27_1).f1) < (x6_1.length : Int)
                      ·rw [if_pos c133] at H
                       have c133b0 : decide (((rd_T128 l0 x27_1).f1) < (x6_1.length : Int)) = true:=decide_eq_true c133
                       (try (have c133b0h:=c133b0;simp only [hl10_2,hl10_3] at c133b0h))
                       clear c133
                       replace H:=Option.bind_eq_some_iff.mp H
                       obtain ⟨t163,A1340,H⟩:=H
                       replace H : (sentence_spans.l6 k3 l1 x6_1 x27_1 x10_3 t163 l0 (l0.length : Int) x27_1 (ji12) x125_3 (x10_3.length : Int) 0 (ji12) ((rd_T128 l0 x27_1).f0) ((rd_T128 l0 x27_1).f1) ((rd_T128 l0 x27_1).f2)) = some r:=H
                       have A134:=Aside0.mk A1340
                       clear A1340
                       have H':=Aside0.mk H
                       clear H
                       have hnb135:=NB139_134.out
                       have hnc135:=NB134_139.out
                       have hcz136_0 : wr.cell? ⟨gb139,0,none⟩ = some (.int .i64 ((rd_T128 l0 x27_1).f0)):=(blk_cell BK139.out 0).trans rfl
                       have hcz136_1 : wr.cell? ⟨gb139,1,none⟩ = some (.int .i64 ((rd_T128 l0 x27_1).f1)):=(blk_cell BK139.out 1).trans rfl
                       have hcz136_2 : wr.cell? ⟨gb139,2,none⟩ = some (.int .i64 ((rd_T128 l0 x27_1).f2)):=(blk_cell BK139.out 2).trans rfl
                       have hfz136_0:=blk_frozen BK139.out 0
                       have hfz136_1:=blk_frozen BK139.out 1
                       have hfz136_2:=blk_frozen BK139.out 2
                       obtain ⟨Ao137,co137,eo137⟩:=Kd.S_slice HO_6.out
                       subst eo137
                       have p162 : 0 ≤ (((rd_T128 l0 x27_1).f1) : Int):=of_decide_eq_true (by first|(with_reducible assumption)|assumption)
                       have q162 : ((rd_T128 l0 x27_1).f1) < (x6_1.length : Int):=of_decide_eq_true (by first|(with_reducible assumption)|assumption)
                       obtain ⟨ad162,A162_0,c162_0,e162,hx162_0,hl162_0,hi162_0⟩:=at_L4 (Kd.S_reads' HO_6.out).2.2 ((rd_T128 l0 x27_1).f1) p162 q162
                       cases e162
                       obtain ⟨ce162,hce162,hMe162,hcc162⟩:=Kd.S_get HO_6.out [] ((rd_T128 l0 x27_1).f1) p162 (by first|exact q162|exact of_decide_eq_true (by first|(with_reducible assumption)|assumption)|(have e_:=(Kd.S_reads' HO_6.out).1;omega))
                       obtain ⟨ve162_0,rfl,ge162_0⟩:=id hMe162
                       have hv162_0:=hcc162 0 _ rfl
                       rw [Nat.add_zero,show ((Kd.slice 33 (Kd.int .u32))).sz = 1 from rfl,Nat.mul_one] at hv162_0
                       replace hv162_0:=Option.some.inj (hv162_0.symm.trans hx162_0)
                       rw [hv162_0] at ge162_0
                       have HL162_0:=Aside0.mk (show Kd.R (Kd.int .u32) 33 _ _ _ _ (rd_L4 x6_1 ((rd_T128 l0 x27_1).f1)) from ge162_0)
                       clear hv162_0 ge162_0
                       clear hcc162 hce162
                       have HR162_0:=Aside0.mk hi162_0
                       have HC162_0:=Aside0.mk hl162_0
                       clear hi162_0 hl162_0
                       replace p162:=eq_true p162
                       replace q162:=eq_true q162
                       go_wp2_with (first|(go_at_call 95;(with_reducible refine (sentence_spans_1.calls k3 _ _ x10_3 _ _ (rd_L4 x6_1 ((rd_T128 l0 x27_1).f1)) gb134 #[.int .i64 (ji12)] (ji12) t163 _ ?side1 ?side2 ?side3 ?side4 ?side5 ?side6 A134.out).mono ?_);(case side1=>repeat (first|exact (Kd.R_reads' HO_10.out).2.2|(with_reducible refine Kd.C_alloc ?_ _)|(with_reducible refine Kd.C_drewN ?_ _)|(with_reducible refine Kd.C_drew ?_)));(case side2=>exact (Kd.R_reads' HO_10.out).2.1);(case side3=>repeat (first|exact (by repeat (first|(with_reducible exact HR162_0.out)|(with_reducible refine Kd.C_alloc ?_ _)|(with_reducible refine Kd.C_drewN ?_ _)|(with_reducible refine Kd.C_drew ?_)|exact HR162_0.out))|(with_reducible refine Kd.C_alloc ?_ _)|(with_reducible refine Kd.C_drewN ?_ _)|(with_reducible refine Kd.C_drew ?_)));(case side4=>exact HC162_0.out);(case side5=>exact by (with_reducible repeat (first|refine blk_drewN ?_ _|refine blk_drew ?_|refine blk_alloc ?_ _));exact BK134.out);(case side6=>rfl);rintro e w138 ⟨v164,rfl,ho0,hb⟩;have n0_:=Aside0.mk (Kd.S_elder' (by (with_reducible repeat (first|apply Kd.S_alloc|apply Kd.S_drewN|apply Kd.S_drew));exact HO_6.out) (Kd.R_base ho0) hb);have n1_:=Aside0.mk (Kd.R_elder' (by (with_reducible repeat (first|apply Kd.R_alloc|apply Kd.R_drewN|apply Kd.R_drew));exact HO_10.out) (Kd.R_base ho0) hb);have n2_:=Aside0.mk (Kd.R_elder' (by (with_reducible repeat (first|apply Kd.R_alloc|apply Kd.R_drewN|apply Kd.R_drew));exact HL162_0.out) (Kd.R_base ho0) hb);have n3_:=Aside0.mk (Kd.R_lower (Kd.R_new' (Kd.R_new' ho0 (Kd.R_lt (by (with_reducible repeat (first|apply Kd.R_alloc|apply Kd.R_drewN|apply Kd.R_drew));exact HO_10.out))) (Kd.R_lt (by (with_reducible repeat (first|apply Kd.R_alloc|apply Kd.R_drewN|apply Kd.R_drew));exact HL162_0.out))) (below_size (by repeat (first|(with_reducible first|exact HB.out|apply below_alloc|apply pw_below_drewN|apply below_drew1|refine below_set ?_ GE134.out|refine below_set ?_ GE139.out)|exact HB.out))));have n4_:=Aside0.mk (blk_below (g:=gb134) (o:=.cells #[.int .i64 (ji12)] 3 (0,0)) (by (with_reducible repeat (first|refine blk_drewN ?_ _|refine blk_drew ?_|refine blk_alloc ?_ _));exact BK134.out) hb);have n5_:=Aside0.mk (blk_below (g:=gb139) (o:=.cells #[.int .i64 ((rd_T128 l0 x27_1).f0),.int .i64 ((rd_T128 l0 x27_1).f1),.int .i64 ((rd_T128 l0 x27_1).f2)] 128 (0,0)) (by (with_reducible repeat (first|refine blk_drewN ?_ _|refine blk_drew ?_|refine blk_alloc ?_ _));exact BK139.out) hb);have n6_:=Aside0.mk (Kd.C_below (by repeat (first|(with_reducible exact HR162_0.out)|(with_reducible refine Kd.C_alloc ?_ _)|(with_reducible refine Kd.C_drewN ?_ _)|(with_reducible refine Kd.C_drew ?_)|exact HR162_0.out)) hb);have n7_:=Aside0.mk (below_step (by repeat (first|(with_reducible first|exact HB.out|apply below_alloc|apply pw_below_drewN|apply below_drew1|refine below_set ?_ GE134.out|refine below_set ?_ GE139.out)|exact HB.out)) hb);clear HO_6;clear HO_10;clear HL162_0;clear BK134;clear BK139;clear HR162_0;clear HB;have HO_6:=n0_;have HO_10:=n1_;have HL162_0:=n2_;have HO165:=n3_;have BK134:=n4_;have BK139:=n5_;have HR162_0:=n6_;have HB:=n7_;clear n0_ n1_ n2_ n3_ n4_ n5_ n6_ n7_;(try clear hb);(try clear hb2);(try clear hk);(try clear hi);(try clear ho0)))
                       go_loopg [137] k3 (fun kq v137 w'=>∃ (x10_4 : List Int) (x137_4 : Int),v137 = .int .i64 x137_4 ∧ Aside0 (sentence_spans.l6 kq l1 x6_1 x27_1 x10_4 t163 l0 (l0.length : Int) x27_1 (ji12) x125_3 (x10_3.length : Int) x137_4 (ji12) ((rd_T128 l0 x27_1).f0) ((rd_T128 l0 x27_1).f1) ((rd_T128 l0 x27_1).f2) = some r) ∧ Aside0 (kq ≤ k3) ∧ Aside0 (Kd.S (Kd.slice 33 (Kd.int .u32)) 133 w' w.heap.size (fun k_=>some k_ ≠ ((.slice Ao121 x10_3.length co121) : Value).ownBlock ∧ some k_ ≠ (v164 : Value).ownBlock) (.slice (some ad162) x6_1.length co137) x6_1) ∧ Aside0 (Kd.R (Kd.int .u32) 33 w' w.heap.size (fun k_=>some k_ ≠ (v164 : Value).ownBlock) (.slice Ao121 x10_3.length co121) x10_4) ∧ Aside0 (Kd.R (Kd.int .u32) 33 w' w.heap.size (fun k_=>some k_ ≠ ((.slice Ao121 x10_3.length co121) : Value).ownBlock) v164 t163) ∧ Aside0 (w'.heap[gb134]? = some (.cells #[.int .i64 (ji12)] 3 (0,0))) ∧ Aside0 (w'.heap[gb139]? = some (.cells #[.int .i64 ((rd_T128 l0 x27_1).f0),.int .i64 ((rd_T128 l0 x27_1).f1),.int .i64 ((rd_T128 l0 x27_1).f2)] 128 (0,0))) ∧ Aside0 (Below w.heap.size w w'))
                       case atStart=>exact ⟨(x10_3),(0),(by first|rfl|(simp;done)|(simp [*];done)),H',⟨Nat.le_refl _⟩,⟨by (try simp only [hl10_2]);(try simp only [hl10_3]);(with_reducible repeat (first|apply Kd.S_alloc|apply Kd.S_drewN|apply Kd.S_drew));exact HO_6.out⟩,⟨by (try simp only [hl10_2]);(try simp only [hl10_3]);(with_reducible repeat (first|apply Kd.R_alloc|apply Kd.R_drewN|apply Kd.R_drew));exact Kd.R_mono HO_10.out (fun _ hk=>hk.2)⟩,⟨by (try simp only [hl10_2]);(try simp only [hl10_3]);(with_reducible repeat (first|apply Kd.R_alloc|apply Kd.R_drewN|apply Kd.R_drew));exact Kd.R_mono HO165.out (fun _ hk=>hk.1.2)⟩,⟨by (try simp only [hl10_2]);(try simp only [hl10_3]);(with_reducible repeat (first|refine blk_drewN ?_ _|refine blk_drew ?_|refine blk_alloc ?_ _));exact BK134.out⟩,⟨by (try simp only [hl10_2]);(try simp only [hl10_3]);(with_reducible repeat (first|refine blk_drewN ?_ _|refine blk_drew ?_|refine blk_alloc ?_ _));exact BK139.out⟩,⟨by repeat (first|(with_reducible first|exact HB.out|apply below_alloc|apply pw_below_drewN|apply below_drew1|refine below_set ?_ GE134.out|refine below_set ?_ GE139.out)|exact HB.out)⟩⟩
                       case round =>
                        clear H'
                        try clear c1
                        try clear p1
                        try clear q1
                        try clear hx1
                        try clear p2
                        try clear q2
                        try clear hx2
                        try clear hf2
                        try clear c3
                        try clear p3
                        try clear q3
                        try clear hx3
                        try clear hf3
                        try clear c4
                        try clear c5
                        try clear p5
                        try clear q5
                        try clear hx5
                        try clear hf5
                        try clear c6
                        try clear p6
                        try clear q6
                        try clear hx6
                        try clear hf6
                        try clear c7
                        try clear p7
                        try clear q7
                        try clear hx7
                        try clear hf7
                        try clear c8
                        try clear hx8
                        try clear hf8
                        try clear c9
                        try clear c10
                        try clear p10
                        try clear q10
                        try clear hx10
                        try clear hf10
                        try clear c11
                        try clear p11
                        try clear q11
                        try clear hx11
                        try clear hf11
                        try clear c12
                        try clear p12
                        try clear q12
                        try clear hx12
                        try clear hf12
                        try clear c13
                        try clear p13
                        try clear q13
                        try clear hx13
                        try clear p14
                        try clear q14
                        try clear hx14
                        try clear c15
                        try clear p15
                        try clear q15
                        try clear hx15
                        try clear c16
                        try clear p16
                        try clear q16
                        try clear hx16
                        try clear p28
                        try clear q28
                        try clear hx28
                        try clear hf28
                        try clear c31
                        try clear c31b0
                        try clear c32
                        try clear c32b0
                        try clear c33
                        try clear p33
                        try clear q33
                        try clear hx33
                        try clear hf33
                        try clear c34
                        try clear hx34
                        try clear hf34
                        try clear c36
                        try clear c36b0
                        try clear c36b1
                        try clear c38
                        try clear c44
                        try clear c44b0
                        try clear c45
                        try clear c45b0
                        try clear c46
                        try clear c46b0
                        try clear c47
                        try clear c47b0
                        try clear c47b1
                        try clear c49
                        try clear c49b0
                        try clear c49b1
                        try clear c51
                        try clear c51b0
                        try clear p52
                        try clear q52
                        try clear hx52
                        try clear hf52
                        try clear c53
                        try clear c57
                        try clear c59
                        try clear c59b0
                        try clear c60
                        try clear c60b0
                        try clear c61
                        try clear p61
                        try clear q61
                        try clear hx61
                        try clear hf61
                        try clear c63
                        try clear hx63
                        try clear hf63
                        try clear p64
                        try clear c65
                        try clear c65b0
                        try clear c65b1
                        try clear c66
                        try clear c66b0
                        try clear c67
                        try clear c67b0
                        try clear c68
                        try clear c68b0
                        try clear c69
                        try clear c69b0
                        try clear c71
                        try clear c71b0
                        try clear c72
                        try clear p72
                        try clear q72
                        try clear hx72
                        try clear hf72
                        try clear c74
                        try clear c84
                        try clear hx84
                        try clear hf84
                        try clear c86
                        try clear c86b0
                        try clear c86b1
                        try clear c88
                        try clear c95
                        try clear c95b0
                        try clear c96
                        try clear c96b0
                        try clear c97
                        try clear c97b0
                        try clear c98
                        try clear c98b0
                        try clear c99
                        try clear c99b0
                        try clear c100
                        try clear c100b0
                        try clear c101
                        try clear c101b0
                        try clear c102
                        try clear c102b0
                        try clear c103
                        try clear c103b0
                        try clear p104
                        try clear q104
                        try clear hx104
                        try clear hf104
                        try clear c108
                        try clear c108b0
                        try clear c109
                        try clear c109b0
                        try clear c110
                        try clear p110
                        try clear q110
                        try clear hx110
                        try clear hf110
                        try clear c111
                        try clear hx111
                        try clear hf111
                        try clear c113
                        try clear c113b0
                        try clear c113b1
                        try clear c115
                        try clear c122
                        try clear c122b0
                        try clear c123
                        try clear c123b0
                        try clear c123b1
                        try clear c125
                        try clear c125b0
                        try clear p126
                        try clear q126
                        try clear hx126
                        try clear hf126
                        try clear c129
                        try clear c131
                        try clear c131b0
                        try clear c132
                        try clear c132b0
                        try clear c133
                        try clear c133b0
                        try clear c135
                        try clear p138
                        try clear q138
                        try clear hx138
                        try clear hcz116_0
                        try clear hcz116_1
                        try clear hcz116_2
                        try clear hcz117_0
                        try clear hcz120_0
                        try clear hcz120_1
                        try clear hcz120_2
                        try clear hcz130_0
                        try clear hcz136_0
                        try clear hcz136_1
                        try clear hcz136_2
                        try clear hcz18_0
                        try clear hcz18_1
                        try clear hcz18_2
                        try clear hcz19_0
                        try clear hcz22_0
                        try clear hcz22_1
                        try clear hcz22_2
                        try clear hcz39_0
                        try clear hcz39_1
                        try clear hcz39_2
                        try clear hcz40_0
                        try clear hcz43_0
                        try clear hcz43_1
                        try clear hcz43_2
                        try clear hcz54_0
                        try clear hcz54_1
                        try clear hcz54_2
                        try clear hcz58_0
                        try clear hcz58_1
                        try clear hcz58_2
                        try clear hcz6_0
                        try clear hcz75_0
                        try clear hcz75_1
                        try clear hcz75_2
                        try clear hcz76_0
                        try clear hcz79_0
                        try clear hcz79_1
                        try clear hcz79_2
                        try clear hcz89_0
                        try clear hcz89_1
                        try clear hcz89_2
                        try clear hcz90_0
                        try clear hcz93_0
                        try clear hcz93_1
                        try clear hcz93_2
                        try clear hfz116_0
                        try clear hfz116_1
                        try clear hfz116_2
                        try clear hfz117_0
                        try clear hfz120_0
                        try clear hfz120_1
                        try clear hfz120_2
                        try clear hfz130_0
                        try clear hfz136_0
                        try clear hfz136_1
                        try clear hfz136_2
                        try clear hfz18_0
                        try clear hfz18_1
                        try clear hfz18_2
                        try clear hfz19_0
                        try clear hfz22_0
                        try clear hfz22_1
                        try clear hfz22_2
                        try clear hfz39_0
                        try clear hfz39_1
                        try clear hfz39_2
                        try clear hfz40_0
                        try clear hfz43_0
                        try clear hfz43_1
                        try clear hfz43_2
                        try clear hfz54_0
                        try clear hfz54_1
                        try clear hfz54_2
                        try clear hfz58_0
                        try clear hfz58_1
                        try clear hfz58_2
                        try clear hfz6_0
                        try clear hfz75_0
                        try clear hfz75_1
                        try clear hfz75_2
                        try clear hfz76_0
                        try clear hfz79_0
                        try clear hfz79_1
                        try clear hfz79_2
                        try clear hfz89_0
                        try clear hfz89_1
                        try clear hfz89_2
                        try clear hfz90_0
                        try clear hfz93_0
                        try clear hfz93_1
                        try clear hfz93_2
                        try clear hx104_0
                        try clear hx110_0
                        try clear hx111_0
                        try clear hx126_0
                        try clear hx138_0
                        try clear hx138_1
                        try clear hx138_2
                        try clear hx145_0
                        try clear hx148_0
                        try clear hx149_0
                        try clear hx154_0
                        try clear hx155_0
                        try clear hx156_0
                        try clear hx157_0
                        try clear hx162_0
                        try clear hx28_0
                        try clear hx33_0
                        try clear hx34_0
                        try clear hx52_0
                        try clear hx61_0
                        try clear hx63_0
                        try clear hx72_0
                        try clear hx84_0
                        try clear p1
                        try clear p10
                        try clear p104
                        try clear p11
                        try clear p110
                        try clear p12
                        try clear p126
                        try clear p13
                        try clear p138
                        try clear p14
                        try clear p145
                        try clear p148
                        try clear p149
                        try clear p15
                        try clear p154
                        try clear p155
                        try clear p156
                        try clear p157
                        try clear p162
                        try clear p2
                        try clear p28
                        try clear p3
                        try clear p33
                        try clear p5
                        try clear p52
                        try clear p6
                        try clear p61
                        try clear p64
                        try clear p7
                        try clear p72
                        try clear q1
                        try clear q10
                        try clear q104
                        try clear q11
                        try clear q110
                        try clear q12
                        try clear q126
                        try clear q13
                        try clear q138
                        try clear q14
                        try clear q145
                        try clear q148
                        try clear q149
                        try clear q15
                        try clear q154
                        try clear q155
                        try clear q156
                        try clear q157
                        try clear q162
                        try clear q2
                        try clear q28
                        try clear q3
                        try clear q33
                        try clear q5
                        try clear q52
                        try clear q6
                        try clear q61
                        try clear q7
                        try clear q72
                        obtain ⟨x10_4,x137_4,rfl,HA,HK4,HO_6,HO_10,HO_16,BK134,BK139,HB⟩:=hrel
                        have hl10_4:=(Kd.R_reads' HO_10.out).1
                        rw [hl10_4] at HO_10
                        (try simp only [hl10_4])
                        (try simp only [hl10_4] at BK134)
                        (try simp only [hl10_4] at BK139)
                        (try simp only [hl10_4] at HO_6)
                        (try simp only [hl10_4] at HO_16)
                        cases gk with
                        | zero=>exact absurd HA.out (by simp [sentence_spans.l6])
                        | succ k4 =>
                         have H:=HA.out
                         clear HA
                         simp only [sentence_spans.l6] at H
                         by_cases c139 : x137_4 < (x10_3.length : Int)
                         ·rw [if_pos c139] at H
                          have c139b0 : decide (x137_4 < (x10_3.length : Int)) = true:=decide_eq_true c139
                          (try (have c139b0h:=c139b0;simp only [hl10_2,hl10_3,hl10_4] at c139b0h))
                          clear c139
                          by_cases c140 : 0 ≤ x137_4
                          ·rw [if_pos c140] at H
                           have c140b0 : decide (0 ≤ x137_4) = true:=decide_eq_true c140
                           clear c140
                           by_cases c141 : x137_4 < (x10_4.length : Int)
                           ·rw [if_pos c141] at H
                            have c141b0 : decide (x137_4 < (x10_4.length : Int)) = true:=decide_eq_true c141
                            (try (have c141b0h:=c141b0;simp only [hl10_2,hl10_3,hl10_4] at c141b0h))
                            clear c141
                            by_cases c142 : x137_4 < (t163.length : Int)
                            ·rw [if_pos c142] at H
                             have c142b0 : decide (x137_4 < (t163.length : Int)) = true:=decide_eq_true c142
                             (try (have c142b0h:=c142b0;simp only [hl10_2,hl10_3,hl10_4] at c142b0h))
                             clear c142
                             obtain ⟨y168,hy168⟩ : ∃ y_ : List Int,y_ = (x10_4.set (x137_4 : Int).toNat (Go.bits .or .u32 (rd x10_4 x137_4) (rd t163 x137_4))):=⟨_,rfl⟩
                             replace H : (sentence_spans.l6 k4 l1 x6_1 x27_1 y168 t163 l0 (l0.length : Int) x27_1 (ji12) x125_3 (x10_3.length : Int) (wrap64 (x137_4 + 1)) (ji12) ((rd_T128 l0 x27_1).f0) ((rd_T128 l0 x27_1).f1) ((rd_T128 l0 x27_1).f2)) = some r:=by first|(rw [hy168];with_reducible exact H)|(have H2_:=(Option.bind_some _ _).symm.trans H;rw [hy168];with_reducible exact H2_)|(have H2_:=(Option.bind_some _ _).symm.trans H;with_reducible exact H2_)|with_reducible exact H|(rw [hy168];exact H)|exact H
                             have Ny168:=Aside0.mk hy168
                             clear hy168
                             have H':=Aside0.mk H
                             clear H
                             try go_wp2
                             have n0_:=Aside0.mk (Kd.S_drew HO_6.out)
                             have n1_:=Aside0.mk (Kd.R_drew HO_10.out)
                             have n2_:=Aside0.mk (Kd.R_drew HO_16.out)
                             have n3_:=Aside0.mk (blk_drew BK134.out)
                             have n4_:=Aside0.mk (blk_drew BK139.out)
                             have n5_:=Aside0.mk (below_drew1 HB.out)
                             clear HO_6
                             clear HO_10
                             clear HO_16
                             clear BK134
                             clear BK139
                             clear HB
                             have HO_6:=n0_
                             have HO_10:=n1_
                             have HO_16:=n2_
                             have BK134:=n3_
                             have BK139:=n4_
                             have HB:=n5_
                             clear n0_ n1_ n2_ n3_ n4_ n5_
                             have p166 : 0 ≤ (x137_4 : Int):=of_decide_eq_true (by first|(with_reducible assumption)|assumption)
                             have q166 : x137_4 < (x10_4.length : Int):=of_decide_eq_true (by first|(with_reducible assumption)|assumption)
                             obtain ⟨ad166,e166,hx166_0⟩:=Kd.at_int (Kd.R_reads' HO_10.out).2.2 x137_4 p166 q166
                             cases e166
                             replace p166:=eq_true p166
                             replace q166:=eq_true q166
                             obtain ⟨Ao145,co145,eo145⟩:=Kd.R_slice HO_16.out
                             (first|subst eo145|(injection eo145 with f1_ f2_ f3_;have f4_:=f1_.symm;have f5_:=f3_.symm;clear f1_ f2_ f3_;subst f4_;subst f5_))
                             have p167 : 0 ≤ (x137_4 : Int):=of_decide_eq_true (by first|(with_reducible assumption)|assumption)
                             have q167 : x137_4 < (t163.length : Int):=of_decide_eq_true (by first|(with_reducible assumption)|assumption)
                             obtain ⟨ad167,e167,hx167_0⟩:=Kd.at_int (Kd.R_reads' HO_16.out).2.2 x137_4 p167 q167
                             cases e167
                             replace p167:=eq_true p167
                             replace q167:=eq_true q167
                             have p143 : 0 ≤ (x137_4 : Int):=of_decide_eq_true (by first|(with_reducible assumption)|assumption)
                             have q143 : (x137_4 : Int) < ((x10_4.length : Int) : Int):=of_decide_eq_true (by first|(with_reducible assumption)|assumption)
                             obtain ⟨go143,co143,eo143,gb143,gl143,cl143,HG143⟩:=Kd.R_form HO_10.out (by omega)
                             (first|cases eo143|(injection eo143 with ea_ en_ ec_;(first|subst ea_|(injection ea_ with ea_;subst ea_));subst ec_;clear en_))
                             have GB143:=Aside0.mk gb143
                             have GG143:=Aside0.mk HG143
                             clear gb143 gl143 HG143
                             (first|simp only [add_plain] at hx166_0|skip)
                             obtain ⟨hx143_0,hf143_0⟩:=Kd.R_celln 0 HO_10.out (x137_4 : Int) p143 q143
                             replace p143:=eq_true p143
                             replace q143:=eq_true q143
                             have HP146:=Kd.R_putn HO_10.out (x137_4 : Int) (Go.bits .or .u32 (rd x10_4 x137_4) (rd t163 x137_4))
                             rw [← Ny168.out] at HP146
                             have HQ146:=Aside0.mk HP146
                             clear HP146
                             refine start_ (n:=11) (S:=fun w'=>w'.cell? ⟨go143,(x137_4).toNat,none⟩ = some (.int .u32 (rd x10_4 x137_4)) ∧ w'.cell? (ad167.add (x137_4).toNat) = some (.int .u32 (rd t163 x137_4))) (ds:=[10]) #[false,false,false,false,false,false,false,false,false,false,false] (by kernel_rfl) rfl rfl ⟨hx166_0,hx167_0⟩ (fun hHeld=>?_);refine with_tabW sentence_spans.tab42 sentence_spans.bits42 (fun HT_ HW_=>?_)
                             generalize wr.drew = w144 at HO_6 HO_10 HO_16 BK134 BK139 HB GG143 HQ146 hf143_0 hx143_0 hx166_0 hx167_0 hHeld ⊢
                             refine pure_ (i:=0) (N:=some 140) (v:=?_) (a':=?_) #[true,false,false,false,false,false,false,false,false,false,false] rfl rfl (any_of HT_.out (by kernel_rfl)) (fun _ _ _ h=>h) (Or.inl ⟨by rfl,?_⟩) ?_ ?_
                             rotate_left
                             ·intro w'
                              go_simp
                              with_reducible rfl
                             rotate_left
                             ·simp only [Act.put,List.setIfInBounds_toArray,List.set_cons_zero,List.set_cons_succ,i64_w,i32_w]
                              rfl
                             refine pure_ (i:=1) (N:=some 141) (v:=?_) (a':=?_) #[true,true,false,false,false,false,false,false,false,false,false] rfl rfl (any_of HT_.out (by kernel_rfl)) (fun _ _ _ h=>h) (Or.inl ⟨by rfl,?_⟩) ?_ ?_
                             rotate_left
                             ·intro w'
                              go_simp
                              with_reducible rfl
                             rotate_left
                             ·simp only [Act.put,List.setIfInBounds_toArray,List.set_cons_zero,List.set_cons_succ,i64_w,i32_w]
                              rfl
                             refine pure_ (i:=2) (N:=some 142) (v:=?_) (a':=?_) #[true,true,true,false,false,false,false,false,false,false,false] rfl rfl (any_of HT_.out (by kernel_rfl)) (fun _ _ _ h=>h) (Or.inl ⟨by rfl,?_⟩) ?_ ?_
                             rotate_left
                             ·intro w'
                              go_simp
                              with_reducible rfl
                             rotate_left
                             ·simp only [Act.put,List.setIfInBounds_toArray,List.set_cons_zero,List.set_cons_succ,i64_w,i32_w]
                              rfl
                             refine pure_ (i:=4) (N:=some 144) (v:=?_) (a':=?_) #[true,true,true,false,true,false,false,false,false,false,false] rfl rfl (any_of HT_.out (by kernel_rfl)) (fun _ _ _ h=>h) (Or.inl ⟨by rfl,?_⟩) ?_ ?_
                             rotate_left
                             ·intro w'
                              go_simp
                              with_reducible rfl
                             rotate_left
                             ·simp only [Act.put,List.setIfInBounds_toArray,List.set_cons_zero,List.set_cons_succ,i64_w,i32_w]
                              rfl
                             refine pure_ (i:=5) (N:=some 145) (v:=?_) (a':=?_) #[true,true,true,false,true,true,false,false,false,false,false] rfl rfl (any_of HT_.out (by kernel_rfl)) (fun _ _ _ h=>h) (Or.inl ⟨by rfl,?_⟩) ?_ ?_
                             rotate_left
                             ·intro w'
                              go_simp
                              with_reducible rfl
                             rotate_left
                             ·simp only [Act.put,List.setIfInBounds_toArray,List.set_cons_zero,List.set_cons_succ,i64_w,i32_w]
                              rfl
                             refine pure_ (i:=6) (N:=some 146) (v:=?_) (a':=?_) #[true,true,true,false,true,true,true,false,false,false,false] rfl rfl (any_of HT_.out (by kernel_rfl)) (fun _ _ _ h=>h) (Or.inl ⟨by rfl,?_⟩) ?_ ?_
                             rotate_left
                             ·intro w'
                              go_simp
                              with_reducible rfl
                             rotate_left
                             ·simp only [Act.put,List.setIfInBounds_toArray,List.set_cons_zero,List.set_cons_succ,i64_w,i32_w]
                              rfl
                             refine take_ (i:=3) (N:=some 143) (v:=?_) (a':=?_) #[true,true,true,true,true,true,true,false,false,false,false] rfl rfl (take_ofW HT_.out HW_.out (by kernel_rfl)) (fun _ _ _ h=>h) (Or.inl ⟨by rfl,?_⟩) hHeld ?_ ?_
                             rotate_left
                             ·rintro w' ⟨s0,s1⟩
                              go_simp
                              with_reducible rfl
                             rotate_left
                             ·simp only [Act.put,List.setIfInBounds_toArray,List.set_cons_zero,List.set_cons_succ,i64_w,i32_w]
                              rfl
                             refine take_ (i:=7) (N:=some 147) (v:=?_) (a':=?_) #[true,true,true,true,true,true,true,true,false,false,false] rfl rfl (take_ofW HT_.out HW_.out (by kernel_rfl)) (fun _ _ _ h=>h) (Or.inl ⟨by rfl,?_⟩) hHeld ?_ ?_
                             rotate_left
                             ·rintro w' ⟨s0,s1⟩
                              go_simp
                              with_reducible rfl
                             rotate_left
                             ·simp only [Act.put,List.setIfInBounds_toArray,List.set_cons_zero,List.set_cons_succ,i64_w,i32_w]
                              rfl
                             refine pure_ (i:=8) (N:=some 148) (v:=?_) (a':=?_) #[true,true,true,true,true,true,true,true,true,false,false] rfl rfl (any_of HT_.out (by kernel_rfl)) (fun _ _ _ h=>h) (Or.inl ⟨by rfl,?_⟩) ?_ ?_
                             rotate_left
                             ·intro w'
                              go_simp
                              with_reducible rfl
                             rotate_left
                             ·simp only [Act.put,List.setIfInBounds_toArray,List.set_cons_zero,List.set_cons_succ,i64_w,i32_w]
                              rfl
                             refine pure_ (i:=9) (N:=some 149) (v:=?_) (a':=?_) #[true,true,true,true,true,true,true,true,true,true,false] rfl rfl (any_of HT_.out (by kernel_rfl)) (fun _ _ _ h=>h) (Or.inl ⟨by rfl,?_⟩) ?_ ?_
                             rotate_left
                             ·intro w'
                              go_simp
                              with_reducible rfl
                             rotate_left
                             ·simp only [Act.put,List.setIfInBounds_toArray,List.set_cons_zero,List.set_cons_succ,i64_w,i32_w]
                              rfl
                             refine last_ (i:=10) (N:=none) #[true,true,true,true,true,true,true,true,true,true,true] rfl rfl (one_of HT_.out (by kernel_rfl)) (by decide) (fun K hK=>?_)
                             refine skip_ (w1:=?_) (by rfl) rfl ?_ ?_
                             rotate_left
                             ·go_simp
                              rfl
                             refine hK.out _ _ ?_
                             clear hK K
                             refine done_ (done_of HT_.out (by kernel_rfl)) ?_
                             try go_wp2
                             (try simp only [← hl10_4])
                             first|go_roundg k4|((simp only [← hji12]);go_roundg k4)
                             case measure=>have:=HK1.out;have:=HK2.out;have:=HK3.out;have:=HK4.out;omega
                             case rel=>exact ⟨(y168),(wrap64 (x137_4 + 1)),(by first|rfl|(simp;done)|(simp [*];done)),(by first|exact H'|((simp only [hji12]);exact H')|(have h_:=H'.out;simp only [← hji12] at h_ ⊢;exact ⟨h_⟩)),⟨by have:=HK1.out;have:=HK2.out;have:=HK3.out;have:=HK4.out;omega⟩,⟨by (try simp only [hl10_2]);(try simp only [hl10_3]);(try simp only [hl10_4]);(with_reducible repeat (first|apply Kd.S_alloc|apply Kd.S_drewN|apply Kd.S_drew));exact Kd.S_mono (Kd.S_far (p:=⟨go143,(x137_4 : Int).toNat,none⟩) (Kd.S_mono HO_6.out (fun k_ hk=>(⟨hk,fun e_=>hk.1 (by rw [e_];rfl)⟩ : _ ∧ k_ ≠ go143))) (fun _ hk=>hk.2) (.int .u32 (Go.bits .or .u32 (rd x10_4 x137_4) (rd t163 x137_4)))) (fun _ hk=>⟨hk.1.1,hk.1.2⟩)⟩,⟨by (try simp only [hl10_2]);(try simp only [hl10_3]);(try simp only [hl10_4]);(with_reducible repeat (first|apply Kd.R_alloc|apply Kd.R_drewN|apply Kd.R_drew));exact HQ146.out⟩,⟨by (try simp only [hl10_2]);(try simp only [hl10_3]);(try simp only [hl10_4]);(with_reducible repeat (first|apply Kd.R_alloc|apply Kd.R_drewN|apply Kd.R_drew));exact Kd.R_mono (Kd.R_far (p:=⟨go143,(x137_4 : Int).toNat,none⟩) (Kd.R_mono HO_16.out (fun k_ hk=>(⟨hk,fun e_=>hk (by rw [e_];rfl)⟩ : _ ∧ k_ ≠ go143))) (fun _ hk=>hk.2) (.int .u32 (Go.bits .or .u32 (rd x10_4 x137_4) (rd t163 x137_4)))) (fun _ hk=>hk.1)⟩,⟨by (try simp only [hl10_2]);(try simp only [hl10_3]);(try simp only [hl10_4]);(with_reducible repeat (first|refine blk_drewN ?_ _|refine blk_drew ?_|refine blk_alloc ?_ _));refine blk_far ?_ (by have h_:=Kd.R_ne HO_10.out BK134.out (by decide);intro e_;exact h_ (by first|(rw [e_];rfl)|(have e2_:=e_;dsimp only at e2_;first|(rw [e2_];rfl)|(rw [← e2_];rfl)|(subst e2_;rfl)))) _;(with_reducible repeat (first|refine blk_drewN ?_ _|refine blk_drew ?_|refine blk_alloc ?_ _));(first|exact BK134.out|(have h_:=BK134.out;simp only [← hji12] at h_;exact h_))⟩,⟨by (try simp only [hl10_2]);(try simp only [hl10_3]);(try simp only [hl10_4]);(with_reducible repeat (first|refine blk_drewN ?_ _|refine blk_drew ?_|refine blk_alloc ?_ _));refine blk_far ?_ (by have h_:=Kd.R_ne HO_10.out BK139.out (by decide);intro e_;exact h_ (by first|(rw [e_];rfl)|(have e2_:=e_;dsimp only at e2_;first|(rw [e2_];rfl)|(rw [← e2_];rfl)|(subst e2_;rfl)))) _;(with_reducible repeat (first|refine blk_drewN ?_ _|refine blk_drew ?_|refine blk_alloc ?_ _));(first|exact BK139.out|(have h_:=BK139.out;simp only [← hji12] at h_;exact h_))⟩,⟨by repeat (first|(with_reducible first|exact HB.out|apply below_alloc|apply pw_below_drewN|apply below_drew1|refine below_set ?_ GB143.out|refine below_set ?_ GE134.out|refine below_set ?_ GE139.out)|exact HB.out)⟩⟩
                            ·rw [if_neg c142] at H
                             exact absurd H (by simp)
                           ·rw [if_neg c141] at H
                            exact absurd H (by simp)
                          ·rw [if_neg c140] at H
                           exact absurd H (by simp)
                         ·rw [if_neg c139] at H
                          have c139b0 : decide (x137_4 < (x10_3.length : Int)) = false:=decide_eq_false c139
                          (try (have c139b0h:=c139b0;simp only [hl10_2,hl10_3,hl10_4] at c139b0h))
                          clear c139
                          have H':=Aside0.mk H
                          clear H
                          go_wp2
                          (try simp only [← hl10_3,← hl10_4])
                          first|go_roundg k4|((simp only [← hji12]);go_roundg k4)
                          case measure=>have:=HK1.out;have:=HK2.out;have:=HK3.out;have:=HK4.out;omega
                          case rel=>exact ⟨(x10_4),(wrap64 (x125_3 + 1)),(by first|rfl|(simp;done)|(simp [*];done)),(by first|exact H'|((simp only [hji12]);exact H')|(have h_:=H'.out;simp only [← hji12] at h_ ⊢;exact ⟨h_⟩)),⟨by have:=HK1.out;have:=HK2.out;have:=HK3.out;have:=HK4.out;omega⟩,⟨by (try simp only [hl10_2]);(try simp only [hl10_3]);(try simp only [hl10_4]);(with_reducible repeat (first|apply Kd.S_alloc|apply Kd.S_drewN|apply Kd.S_drew));exact Kd.S_mono HO_6.out (fun _ hk=>hk.1)⟩,⟨by (try simp only [hl10_2]);(try simp only [hl10_3]);(try simp only [hl10_4]);(with_reducible repeat (first|apply Kd.R_alloc|apply Kd.R_drewN|apply Kd.R_drew));exact Kd.R_mono HO_10.out (fun _ hk=>trivial)⟩,⟨by (try simp only [hl10_2]);(try simp only [hl10_3]);(try simp only [hl10_4]);(with_reducible repeat (first|refine blk_drewN ?_ _|refine blk_drew ?_|refine blk_alloc ?_ _));(first|exact BK134.out|(have h_:=BK134.out;simp only [← hji12] at h_;exact h_))⟩,⟨by (try simp only [hl10_2]);(try simp only [hl10_3]);(try simp only [hl10_4]);(with_reducible repeat (first|refine blk_drewN ?_ _|refine blk_drew ?_|refine blk_alloc ?_ _));(first|exact BK139.out|(have h_:=BK139.out;simp only [← hji12] at h_;exact h_))⟩,⟨by repeat (first|(with_reducible first|exact HB.out|apply below_alloc|apply pw_below_drewN|apply below_drew1|refine below_set ?_ GE134.out|refine below_set ?_ GE139.out)|exact HB.out)⟩⟩
                      ·rw [if_neg c133] at H
                       exact absurd H (by simp)
                     ·rw [if_neg c132] at H
                      exact absurd H (by simp)
                    ·rw [if_neg c131] at H
                     have c131b0 : decide (x125_3 < (ji12)) = false:=decide_eq_false c131
                     clear c131
                     by_cases c147 : 0 ≤ x27_1
                     ·rw [if_pos c147] at H
                      have c147b0 : decide (0 ≤ x27_1) = true:=decide_eq_true c147
                      clear c147
                      by_cases c148 : x27_1 < (x6_1.length : Int)
                      ·rw [if_pos c148] at H
                       have c148b0 : decide (x27_1 < (x6_1.length : Int)) = true:=decide_eq_true c148
                       (try (have c148b0h:=c148b0;simp only [hl10_2,hl10_3] at c148b0h))
                       clear c148
                       obtain ⟨y161,hy161⟩ : ∃ y_ : List (List Int),y_ = (x6_1.set (x27_1 : Int).toNat x10_3):=⟨_,rfl⟩
                       replace H : (sentence_spans.l0 k3 l1 y161 l0 (l0.length : Int) (wrap64 (x27_1 + 1)) (ji12)) = some r:=by first|(rw [hy161];with_reducible exact H)|(have H2_:=(Option.bind_some _ _).symm.trans H;rw [hy161];with_reducible exact H2_)|(have H2_:=(Option.bind_some _ _).symm.trans H;with_reducible exact H2_)|with_reducible exact H|(rw [hy161];exact H)|exact H
                       have Ny161:=Aside0.mk hy161
                       clear hy161
                       have H':=Aside0.mk H
                       clear H
                       have p149 : 0 ≤ (x27_1 : Int):=of_decide_eq_true (by first|(with_reducible assumption)|assumption)
                       have q149 : (x27_1 : Int) < ((x6_1.length : Int) : Int):=of_decide_eq_true (by first|(with_reducible assumption)|assumption)
                       obtain ⟨go149,co149,eo149,gb149,gl149,cl149,HG149⟩:=Kd.S_form HO_6.out (by omega)
                       (first|cases eo149|(injection eo149 with ea_ en_ ec_;(first|subst ea_|(injection ea_ with ea_;subst ea_));subst ec_;clear en_))
                       have GB149:=Aside0.mk gb149
                       have GG149:=Aside0.mk HG149
                       clear gb149 gl149 HG149
                       obtain ⟨_,ce149,hcl149,hM149,hcc149,hfr149,_,_⟩:=Kd.S_elem HO_6.out [] (x27_1 : Int) p149 q149
                       obtain ⟨ve149_0,rfl,ge149_0⟩:=id hM149
                       have hx149_0:=hcc149 0 _ rfl
                       have hf149_0:=hfr149 0
                       (try simp only [show ((Kd.slice 33 (Kd.int .u32))).sz = 1 from rfl,Nat.mul_one,Nat.add_zero] at hx149_0)
                       (try simp only [show ((Kd.slice 33 (Kd.int .u32))).sz = 1 from rfl,Nat.mul_one,Nat.add_zero] at hf149_0)
                       clear hcl149 hcc149 hfr149 hM149
                       replace p149:=eq_true p149
                       replace q149:=eq_true q149
                       have HX150:=Aside0.mk (show Kd.S (Kd.slice 33 (Kd.int .u32)) 133 wr w.heap.size (fun k_=>((fun _=>True)) k_ ∧ ¬ ((fun k_=>some k_ = (.slice Ao121 x10_3.length co121 : Value).ownBlock)) k_) (.slice (some ⟨go149,0,none⟩) x6_1.length co149) x6_1 from (by (with_reducible repeat (first|apply Kd.S_alloc|apply Kd.S_drewN|apply Kd.S_drew));exact Kd.S_mono HO_6.out (fun k_ hk=>⟨trivial,fun e_=>hk e_⟩)))
                       obtain ⟨oki150,ce150,hcl150,hM150,hcc150,hfr150,hoki150,hH150⟩:=Kd.S_elem HX150.out [] (x27_1 : Int) (of_decide_eq_true (by first|(with_reducible assumption)|assumption)) (by have h_ : (x27_1 : Int) < ((x6_1.length : Int) : Int):=of_decide_eq_true (by first|(with_reducible assumption)|assumption);first|exact h_|(have e_:=(Kd.S_reads' HO_6.out).1;omega)|simpa using h_)
                       obtain ⟨ve150_0,rfl,ge150_0⟩:=id hM150
                       have HP150:=Kd.S_seg hH150 (of_decide_eq_true (by first|(with_reducible assumption)|assumption)) (by have h_ : (x27_1 : Int) < ((x6_1.length : Int) : Int):=of_decide_eq_true (by first|(with_reducible assumption)|assumption);first|exact h_|(have e_:=(Kd.S_reads' HO_6.out).1;omega)|simpa using h_) (seg:=[.slice Ao121 x10_3.length co121]) (j:=0) (show 1 ≤ 1 from by decide) (x':=x10_3) (Kd.M_row (Kd.R_mono (Kd.R_tight rfl (Kd.R_mono (ok':=fun k_=>((fun _=>True)) k_ ∧ k_ ≠ go149) (Kd.R_apart' (HO_10.out) (Kd.S_typed HO_6.out) (by decide)) (fun k_ hk=>⟨trivial,fun e_=>(hk.2) (by rw [e_];rfl)⟩))) (fun _ h_=>Or.inr (h_)))) (fun _ hk=>hk) (fun k_ hk_=>((Kd.R_mono (ok':=fun k_=>((fun _=>True)) k_ ∧ k_ ≠ go149) (Kd.R_apart' (HO_10.out) (Kd.S_typed HO_6.out) (by decide)) (fun k_ hk=>⟨trivial,fun e_=>(hk.2) (by rw [e_];rfl)⟩))).1 k_ hk_.symm)
                       have hx150_0:=hcc150 0 _ rfl
                       (try simp only [show ((Kd.slice 33 (Kd.int .u32))).sz = 1 from rfl,Nat.mul_one,Nat.add_zero] at hx150_0)
                       have hf150_0:=hfr150 0
                       (try simp only [show ((Kd.slice 33 (Kd.int .u32))).sz = 1 from rfl,Nat.mul_one,Nat.add_zero] at hf150_0)
                       clear hcl150 hcc150 hfr150 hM150 hoki150 hH150
                       (try simp only [show ((Kd.slice 33 (Kd.int .u32))).sz = 1 from rfl,Nat.mul_one,Nat.add_zero] at HP150)
                       go_wp2_with (first|((with_reducible refine gate_store (t:=133) (p:=155) rfl ?_);refine store_event (t:=133) (p:=155) (v:=?vo_w151) (w1:=(wr.setCell ⟨go149,(x27_1 : Int).toNat,none⟩ (.slice Ao121 x10_3.length co121))) ?hg ?ho ?hn ?hr ?_;(case ho=>rfl);(case hg=>rfl);(case hn=>rfl);(case hr=>first|(go_simp;done)|(go_simp;rfl));intro w151 hw;have hg : wr.grownBy w151 (some go149):=(by rw [hw];exact HP150.2);have hp_ : Kd.S (Kd.slice 33 (Kd.int .u32)) 133 w151 w.heap.size (fun _=>True) (.slice (some ⟨go149,0,none⟩) x6_1.length co149) y161:=(by rw [hw,Ny161.out];exact HP150.1);clear HP150;have n0_:=Aside0.mk (hp_);have n1_:=Aside0.mk (blk_grown (g:=gb134) (o:=.cells #[.int .i64 (ji12)] 3 (0,0)) (by (with_reducible repeat (first|refine blk_drewN ?_ _|refine blk_drew ?_|refine blk_alloc ?_ _));exact BK134.out) hg (Kd.S_ne HO_6.out BK134.out (by decide)));have n2_:=Aside0.mk (blk_grown (g:=gb139) (o:=.cells #[.int .i64 ((rd_T128 l0 x27_1).f0),.int .i64 ((rd_T128 l0 x27_1).f1),.int .i64 ((rd_T128 l0 x27_1).f2)] 128 (0,0)) (by (with_reducible repeat (first|refine blk_drewN ?_ _|refine blk_drew ?_|refine blk_alloc ?_ _));exact BK139.out) hg (Kd.S_ne HO_6.out BK139.out (by decide)));have n3_:=Aside0.mk ((by rw [hw];exact below_set (HB.out) GB149.out : Below w.heap.size w w151));clear HO_6;clear BK134;clear BK139;clear HB;clear HO_10;have HO_6:=n0_;have BK134:=n1_;have BK139:=n2_;have HB:=n3_;clear n0_ n1_ n2_ n3_;clear hg hw hp_))
                       (try simp only [← hl10_2,← hl10_3])
                       first|go_roundg k3|((simp only [← hji12]);go_roundg k3)
                       case measure=>have:=HK1.out;have:=HK2.out;have:=HK3.out;omega
                       case rel=>exact ⟨(y161),(wrap64 (x27_1 + 1)),(by first|rfl|(simp;done)|(simp [*];done)),(by first|exact H'|((simp only [hji12]);exact H')|(have h_:=H'.out;simp only [← hji12] at h_ ⊢;exact ⟨h_⟩)),⟨by have:=HK1.out;have:=HK2.out;have:=HK3.out;omega⟩,⟨by (try simp only [hl10_2]);(try simp only [hl10_3]);(with_reducible repeat (first|apply Kd.S_alloc|apply Kd.S_drewN|apply Kd.S_drew));exact HO_6.out⟩,⟨by (try simp only [hl10_2]);(try simp only [hl10_3]);(with_reducible repeat (first|refine blk_drewN ?_ _|refine blk_drew ?_|refine blk_alloc ?_ _));(first|exact BK134.out|(have h_:=BK134.out;simp only [← hji12] at h_;exact h_))⟩,⟨by repeat (first|(with_reducible first|exact HB.out|apply below_alloc|apply pw_below_drewN|apply below_drew1|refine below_set ?_ GE134.out|refine below_set ?_ GE139.out)|exact HB.out)⟩⟩
                      ·rw [if_neg c148] at H
                       exact absurd H (by simp)
                     ·rw [if_neg c147] at H
                      exact absurd H (by simp)
              ·rw [if_neg c113] at H
               have c113b0 : (((rd_T128 l0 x27_1).f0) == 6) = false:=beq_eq_false_iff_ne.mpr c113
               have c113b1 : (((rd_T128 l0 x27_1).f0) != 6) = true:=bne_iff_ne.mpr c113
               by_cases c152 : x27_1 < (x6_1.length : Int)
               ·rw [if_pos c152] at H
                have c152b0 : decide (x27_1 < (x6_1.length : Int)) = true:=decide_eq_true c152
                clear c152
                obtain ⟨y169,hy169⟩ : ∃ y_ : List (List Int),y_ = (x6_1.set (x27_1 : Int).toNat y140):=⟨_,rfl⟩
                replace H : (sentence_spans.l0 k1 l1 y169 l0 (l0.length : Int) (wrap64 (x27_1 + 1)) (ji12)) = some r:=by first|(rw [hy169];with_reducible exact H)|(have H2_:=(Option.bind_some _ _).symm.trans H;rw [hy169];with_reducible exact H2_)|(have H2_:=(Option.bind_some _ _).symm.trans H;with_reducible exact H2_)|with_reducible exact H|(rw [hy169];exact H)|exact H
                have Ny169:=Aside0.mk hy169
                clear hy169
                have H':=Aside0.mk H
                clear H
                have p138 : 0 ≤ (x27_1 : Int):=of_decide_eq_true (by first|(with_reducible assumption)|assumption)
                have q138 : x27_1 < (l0.length : Int):=of_decide_eq_true (by first|(with_reducible assumption)|assumption)
                obtain ⟨ad138,e138,hx138_0,hx138_1,hx138_2⟩:=at_T128 HR0.out x27_1 p138 q138
                cases e138
                replace hx138_0:=(HB.out.cell (World.block_lt_of_cell? w _ hx138_0)).trans hx138_0
                replace hx138_1:=(HB.out.cell (World.block_lt_of_cell? w _ hx138_1)).trans hx138_1
                replace hx138_2:=(HB.out.cell (World.block_lt_of_cell? w _ hx138_2)).trans hx138_2
                replace p138:=eq_true p138
                replace q138:=eq_true q138
                go_wp2_with (first|((with_reducible refine gate_dst (N:=9) rfl ?_);refine box_event ?hg (N:=9) ?hd (cs:=#[.int .i64 0,.int .i64 0,.int .i64 0]) (t:=128) ?hr ?_;(case hd=>rfl);(case hg=>rfl);(case hr=>first|(go_simp;done)|(go_simp;rfl));intro gb139 hg w154 hbox hb;have n0_:=Aside0.mk (Kd.S_below (by (with_reducible repeat (first|apply Kd.S_alloc|apply Kd.S_drewN|apply Kd.S_drew));exact HO_6.out) hb);have n1_:=Aside0.mk (blk_below (g:=gb134) (o:=.cells #[.int .i64 (ji12)] 3 (0,0)) (by (with_reducible repeat (first|refine blk_drewN ?_ _|refine blk_drew ?_|refine blk_alloc ?_ _));exact BK134.out) hb);have n2_:=Aside0.mk (below_step (by repeat (first|(with_reducible first|exact HB.out|apply below_alloc|apply pw_below_drewN|apply below_drew1|refine below_set ?_ GE134.out)|exact HB.out)) hb);have n3_:=Aside0.mk (hbox);have n4_:=Aside0.mk ((by rw [hg];exact (below_size (by repeat (first|(with_reducible first|exact HB.out|apply below_alloc|apply pw_below_drewN|apply below_drew1|refine below_set ?_ GE134.out)|exact HB.out))) : w.heap.size ≤ gb139));have n5_:=Aside0.mk ((by rw [hg];exact (below_size (by repeat (first|(with_reducible first|exact HB.out|apply below_alloc|apply pw_below_drewN|apply below_drew1|refine below_set ?_ GE134.out)|exact HB.out))) : w.heap.size ≤ gb139));have n6_:=Aside0.mk ((by rw [hg];exact Nat.ne_of_lt (blk_lt (g:=gb134) (o:=.cells #[.int .i64 (ji12)] 3 (0,0)) (by (with_reducible repeat (first|refine blk_drewN ?_ _|refine blk_drew ?_|refine blk_alloc ?_ _));exact BK134.out)) : gb134 ≠ gb139));have n7_:=Aside0.mk ((by rw [hg];exact Nat.ne_of_gt (blk_lt (g:=gb134) (o:=.cells #[.int .i64 (ji12)] 3 (0,0)) (by (with_reducible repeat (first|refine blk_drewN ?_ _|refine blk_drew ?_|refine blk_alloc ?_ _));exact BK134.out)) : gb139 ≠ gb134));clear HO_6;clear BK134;clear HB;have HO_6:=n0_;have BK134:=n1_;have HB:=n2_;have BK139:=n3_;have GW139:=n4_;have GE139:=n5_;have NB134_139:=n6_;have NB139_134:=n7_;clear n0_ n1_ n2_ n3_ n4_ n5_ n6_ n7_;clear hb hbox hg;have hnb155:=NB139_134.out;have hnc155:=NB134_139.out;have hcz156_0 : w154.cell? ⟨gb139,0,none⟩ = some (.int .i64 0):=(blk_cell BK139.out 0).trans rfl;have hcz156_1 : w154.cell? ⟨gb139,1,none⟩ = some (.int .i64 0):=(blk_cell BK139.out 1).trans rfl;have hcz156_2 : w154.cell? ⟨gb139,2,none⟩ = some (.int .i64 0):=(blk_cell BK139.out 2).trans rfl;have hfz156_0:=blk_frozen BK139.out 0;have hfz156_1:=blk_frozen BK139.out 1;have hfz156_2:=blk_frozen BK139.out 2;have hcz157_0 : w154.cell? ⟨gb134,0,none⟩ = some (.int .i64 (ji12)):=(blk_cell BK134.out 0).trans rfl;have hfz157_0:=blk_frozen BK134.out 0)|((with_reducible refine gate_dst (N:=33) rfl ?_);refine Kd.R_make (Kd.int .u32) _ 33 rfl (N:=33) rfl 133 _ _ rfl (ji12) rfl rfl Try.underlying133 (.int .u32 0) 4 info33 rfl (by decide) (by omega) 0 (ok:=fun _=>True) (okp:=fun _=>True) rfl (fun _ hk=>hk) trivial (of_decide_eq_true (by first|(with_reducible assumption)|assumption)) (Nat.le_trans (Nat.mul_le_mul_right _ (of_decide_eq_true (by first|(with_reducible assumption)|assumption) : (ji12).toNat ≤ 70368744177664)) (by omega)) (Below.refl _ _) (Nat.le_refl _) ?_;intro v141 w158 ho159 hb hg_ hnew_;clear hg_ hnew_;(first|rw [← Ny140.out] at ho159|(simp only [Int.reduceToNat] at ho159;rw [← Ny140.out] at ho159));have n0_:=Aside0.mk (Kd.S_elder' (by (with_reducible repeat (first|apply Kd.S_alloc|apply Kd.S_drewN|apply Kd.S_drew));exact (Kd.S_mono (Kd.S_far (p:=⟨gb139,2,none⟩) (Kd.S_far (p:=⟨gb139,1,none⟩) (Kd.S_far (p:=⟨gb139,0,none⟩) (Kd.S_types HO_6.out BK139.out (by decide)) (fun _ hk=>hk.2) (.int .i64 ((rd_T128 l0 x27_1).f0))) (fun _ hk=>hk.2) (.int .i64 ((rd_T128 l0 x27_1).f1))) (fun _ hk=>hk.2) (.int .i64 ((rd_T128 l0 x27_1).f2))) (fun _ h_=>h_.1))) (Kd.R_base ho159) hb);have n1_:=Aside0.mk (Kd.R_lower ho159 (below_size (by repeat (first|(with_reducible first|exact HB.out|apply below_alloc|apply pw_below_drewN|apply below_drew1|refine below_set ?_ GE134.out|refine below_set ?_ GE139.out)|exact HB.out))));have n2_:=Aside0.mk (blk_below (g:=gb134) (o:=.cells #[.int .i64 (ji12)] 3 (0,0)) (by (with_reducible repeat (first|refine blk_drewN ?_ _|refine blk_drew ?_|refine blk_alloc ?_ _));refine blk_far ?_ NB134_139.out _;(with_reducible repeat (first|refine blk_drewN ?_ _|refine blk_drew ?_|refine blk_alloc ?_ _));refine blk_far ?_ NB134_139.out _;(with_reducible repeat (first|refine blk_drewN ?_ _|refine blk_drew ?_|refine blk_alloc ?_ _));refine blk_far ?_ NB134_139.out _;(with_reducible repeat (first|refine blk_drewN ?_ _|refine blk_drew ?_|refine blk_alloc ?_ _));exact BK134.out) hb);have n3_:=Aside0.mk (blk_below (g:=gb139) (o:=.cells #[.int .i64 ((rd_T128 l0 x27_1).f0),.int .i64 ((rd_T128 l0 x27_1).f1),.int .i64 ((rd_T128 l0 x27_1).f2)] 128 (0,0)) (by (with_reducible repeat (first|refine blk_drewN ?_ _|refine blk_drew ?_|refine blk_alloc ?_ _));refine blk_put (cs:=#[.int .i64 ((rd_T128 l0 x27_1).f0),.int .i64 ((rd_T128 l0 x27_1).f1),.int .i64 0]) ?_ 2 _ rfl;(with_reducible repeat (first|refine blk_drewN ?_ _|refine blk_drew ?_|refine blk_alloc ?_ _));refine blk_put (cs:=#[.int .i64 ((rd_T128 l0 x27_1).f0),.int .i64 0,.int .i64 0]) ?_ 1 _ rfl;(with_reducible repeat (first|refine blk_drewN ?_ _|refine blk_drew ?_|refine blk_alloc ?_ _));refine blk_put (cs:=#[.int .i64 0,.int .i64 0,.int .i64 0]) ?_ 0 _ rfl;(with_reducible repeat (first|refine blk_drewN ?_ _|refine blk_drew ?_|refine blk_alloc ?_ _));exact BK139.out) hb);have n4_:=Aside0.mk (below_step (by repeat (first|(with_reducible first|exact HB.out|apply below_alloc|apply pw_below_drewN|apply below_drew1|refine below_set ?_ GE134.out|refine below_set ?_ GE139.out)|exact HB.out)) hb);clear HO_6;clear BK134;clear BK139;clear HB;have HO_6:=n0_;have HO142:=n1_;have BK134:=n2_;have BK139:=n3_;have HB:=n4_;clear n0_ n1_ n2_ n3_ n4_;clear hb ho159;have hcz160_0 : w158.cell? ⟨gb139,0,none⟩ = some (.int .i64 ((rd_T128 l0 x27_1).f0)):=(blk_cell BK139.out 0).trans rfl;have hcz160_1 : w158.cell? ⟨gb139,1,none⟩ = some (.int .i64 ((rd_T128 l0 x27_1).f1)):=(blk_cell BK139.out 1).trans rfl;have hcz160_2 : w158.cell? ⟨gb139,2,none⟩ = some (.int .i64 ((rd_T128 l0 x27_1).f2)):=(blk_cell BK139.out 2).trans rfl;have hfz160_0:=blk_frozen BK139.out 0;have hfz160_1:=blk_frozen BK139.out 1;have hfz160_2:=blk_frozen BK139.out 2;have p153 : 0 ≤ (x27_1 : Int):=of_decide_eq_true (by first|(with_reducible assumption)|assumption);have q153 : (x27_1 : Int) < ((x6_1.length : Int) : Int):=of_decide_eq_true (by first|(with_reducible assumption)|assumption);obtain ⟨go153,co153,eo153,gb153,gl153,cl153,HG153⟩:=Kd.S_form HO_6.out (by omega);(first|cases eo153|(injection eo153 with ea_ en_ ec_;(first|subst ea_|(injection ea_ with ea_;subst ea_));subst ec_;clear en_));have GB153:=Aside0.mk gb153;have GG153:=Aside0.mk HG153;clear gb153 gl153 HG153;obtain ⟨_,ce153,hcl153,hM153,hcc153,hfr153,_,_⟩:=Kd.S_elem HO_6.out [] (x27_1 : Int) p153 q153;obtain ⟨ve153_0,rfl,ge153_0⟩:=id hM153;have hx153_0:=hcc153 0 _ rfl;have hf153_0:=hfr153 0;(try simp only [show ((Kd.slice 33 (Kd.int .u32))).sz = 1 from rfl,Nat.mul_one,Nat.add_zero] at hx153_0);(try simp only [show ((Kd.slice 33 (Kd.int .u32))).sz = 1 from rfl,Nat.mul_one,Nat.add_zero] at hf153_0);clear hcl153 hcc153 hfr153 hM153;replace p153:=eq_true p153;replace q153:=eq_true q153;obtain ⟨Ao161,co161,eo161⟩:=Kd.R_slice HO142.out;subst eo161;have n_:=Aside0.mk (Kd.S_mono (ok':=(fun k_=>some k_ ≠ (.slice Ao161 y140.length co161 : Value).ownBlock)) HO_6.out (fun k_ hk=>hk.2));clear HO_6;have HO_6:=n_;clear n_;have HX162:=Aside0.mk (show Kd.S (Kd.slice 33 (Kd.int .u32)) 133 w158 w.heap.size (fun k_=>((fun _=>True)) k_ ∧ ¬ ((fun k_=>some k_ = (.slice Ao161 y140.length co161 : Value).ownBlock)) k_) (.slice (some ⟨go153,0,none⟩) x6_1.length co153) x6_1 from (by (with_reducible repeat (first|apply Kd.S_alloc|apply Kd.S_drewN|apply Kd.S_drew));exact Kd.S_mono HO_6.out (fun k_ hk=>⟨trivial,fun e_=>hk e_⟩)));obtain ⟨oki162,ce162,hcl162,hM162,hcc162,hfr162,hoki162,hH162⟩:=Kd.S_elem HX162.out [] (x27_1 : Int) (of_decide_eq_true (by first|(with_reducible assumption)|assumption)) (by have h_ : (x27_1 : Int) < ((x6_1.length : Int) : Int):=of_decide_eq_true (by first|(with_reducible assumption)|assumption);first|exact h_|(have e_:=(Kd.S_reads' HO_6.out).1;omega)|simpa using h_);obtain ⟨ve162_0,rfl,ge162_0⟩:=id hM162;have HP162:=Kd.S_seg hH162 (of_decide_eq_true (by first|(with_reducible assumption)|assumption)) (by have h_ : (x27_1 : Int) < ((x6_1.length : Int) : Int):=of_decide_eq_true (by first|(with_reducible assumption)|assumption);first|exact h_|(have e_:=(Kd.S_reads' HO_6.out).1;omega)|simpa using h_) (seg:=[.slice Ao161 y140.length co161]) (j:=0) (show 1 ≤ 1 from by decide) (x':=y140) (Kd.M_row (Kd.R_mono (Kd.R_tight rfl (Kd.R_mono (ok':=fun k_=>((fun _=>True)) k_ ∧ k_ ≠ go153) (Kd.R_apart' (HO142.out) (Kd.S_typed HO_6.out) (by decide)) (fun k_ hk=>⟨trivial,fun e_=>(hk.2) (by rw [e_];rfl)⟩))) (fun _ h_=>Or.inr (h_)))) (fun _ hk=>hk) (fun k_ hk_=>((Kd.R_mono (ok':=fun k_=>((fun _=>True)) k_ ∧ k_ ≠ go153) (Kd.R_apart' (HO142.out) (Kd.S_typed HO_6.out) (by decide)) (fun k_ hk=>⟨trivial,fun e_=>(hk.2) (by rw [e_];rfl)⟩))).1 k_ hk_.symm);have hx162_0:=hcc162 0 _ rfl;(try simp only [show ((Kd.slice 33 (Kd.int .u32))).sz = 1 from rfl,Nat.mul_one,Nat.add_zero] at hx162_0);have hf162_0:=hfr162 0;(try simp only [show ((Kd.slice 33 (Kd.int .u32))).sz = 1 from rfl,Nat.mul_one,Nat.add_zero] at hf162_0);clear hcl162 hcc162 hfr162 hM162 hoki162 hH162;(try simp only [show ((Kd.slice 33 (Kd.int .u32))).sz = 1 from rfl,Nat.mul_one,Nat.add_zero] at HP162))|((with_reducible refine gate_store (t:=133) (p:=155) rfl ?_);refine store_event (t:=133) (p:=155) (v:=?vo_w163) (w1:=(w158.setCell ⟨go153,(x27_1 : Int).toNat,none⟩ (.slice Ao161 y140.length co161))) ?hg ?ho ?hn ?hr ?_;(case ho=>rfl);(case hg=>rfl);(case hn=>rfl);(case hr=>first|(go_simp;done)|(go_simp;rfl));intro w163 hw;have hg : w158.grownBy w163 (some go153):=(by rw [hw];exact HP162.2);have hp_ : Kd.S (Kd.slice 33 (Kd.int .u32)) 133 w163 w.heap.size (fun _=>True) (.slice (some ⟨go153,0,none⟩) x6_1.length co153) y169:=(by rw [hw,Ny169.out];exact HP162.1);clear HP162;have n0_:=Aside0.mk (hp_);have n1_:=Aside0.mk (blk_grown (g:=gb134) (o:=.cells #[.int .i64 (ji12)] 3 (0,0)) (by (with_reducible repeat (first|refine blk_drewN ?_ _|refine blk_drew ?_|refine blk_alloc ?_ _));exact BK134.out) hg (Kd.S_ne HO_6.out BK134.out (by decide)));have n2_:=Aside0.mk (blk_grown (g:=gb139) (o:=.cells #[.int .i64 ((rd_T128 l0 x27_1).f0),.int .i64 ((rd_T128 l0 x27_1).f1),.int .i64 ((rd_T128 l0 x27_1).f2)] 128 (0,0)) (by (with_reducible repeat (first|refine blk_drewN ?_ _|refine blk_drew ?_|refine blk_alloc ?_ _));exact BK139.out) hg (Kd.S_ne HO_6.out BK139.out (by decide)));have n3_:=Aside0.mk ((by rw [hw];exact below_set (HB.out) GB153.out : Below w.heap.size w w163));clear HO_6;clear BK134;clear BK139;clear HB;clear HO142;have HO_6:=n0_;have BK134:=n1_;have BK139:=n2_;have HB:=n3_;clear n0_ n1_ n2_ n3_;clear hg hw hp_))
                first|go_roundg k1|((simp only [← hji12]);go_roundg k1)
                case measure=>have:=HK1.out;omega
                case rel=>exact ⟨(y169),(wrap64 (x27_1 + 1)),(by first|rfl|(simp;done)|(simp [*];done)),(by first|exact H'|((simp only [hji12]);exact H')|(have h_:=H'.out;simp only [← hji12] at h_ ⊢;exact ⟨h_⟩)),⟨by have:=HK1.out;omega⟩,⟨by (with_reducible repeat (first|apply Kd.S_alloc|apply Kd.S_drewN|apply Kd.S_drew));exact HO_6.out⟩,⟨by (with_reducible repeat (first|refine blk_drewN ?_ _|refine blk_drew ?_|refine blk_alloc ?_ _));(first|exact BK134.out|(have h_:=BK134.out;simp only [← hji12] at h_;exact h_))⟩,⟨by repeat (first|(with_reducible first|exact HB.out|apply below_alloc|apply pw_below_drewN|apply below_drew1|refine below_set ?_ GE134.out|refine below_set ?_ GE139.out)|exact HB.out)⟩⟩
               ·rw [if_neg c152] at H
                exact absurd H (by simp)
         ·rw [if_neg c14] at H
          exact absurd H (by simp)
        ·rw [if_neg c13] at H
         exact absurd H (by simp)
       ·rw [if_neg c11] at H
        exact absurd H (by simp)
      ·rw [if_neg c10] at H
       exact absurd H (by simp)
     ·rw [if_neg c9] at H
      have c9b0 : decide (x27_1 < (l0.length : Int)) = false:=decide_eq_false c9
      clear c9
      obtain rfl:=Option.some.inj H
      go_wp2
      go_ret
      exact ⟨_,by first|rfl|(simp [errW_none,errW_some] <;> rfl)|(simp [*,errW_none,errW_some] <;> rfl),by (with_reducible repeat (first|apply Kd.S_alloc|apply Kd.S_drewN|apply Kd.S_drew));exact HO_6.out,by repeat (first|(with_reducible first|exact HB.out|apply below_alloc|apply pw_below_drewN|apply below_drew1|refine below_set ?_ GE134.out)|exact HB.out)⟩
  ·rw [if_neg c4] at H
   exact absurd H (by simp)
 ·rw [if_neg c3] at H
  exact absurd H (by simp)
end Go.Proofs.Ytkalcljgcigdgaa.GS
