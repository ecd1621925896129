-- Written by ext.py, a program of this session.
import Derived.Test.YtlkeemcapemkiaaGA0
namespace Go.Proofs.Ytlkeemcapemkiaa.GA
open Go.RowKit Go.Proofs.YtlkeemcapemkiaaW.PrintWords Go.Proofs.YtlkeemcapemkiaaW.PrintLast Go.Proofs.YtlkeemcapemkiaaW.PrintMore
attribute [local go_sem] max2_int min2_int max_two min_two max_three min_three max_four min_four cellIs_set   -- for this text's walks alone
set_option linter.unusedVariables false
set_option linter.unusedSimpArgs false
/-! ### coppicerref_TurnerCheck: function 12 -/
mutual
def coppicerref_TurnerCheck.j0 : Nat → Bool → Int → Int → Int → List (List Int) → List (List (List Int)) → Int → Option (Int)
 | 0,_,_,_,_,_,_,_=>none
 | k + 1,x39,x177000,x177001,x177002,x177003,x177004,x177005=>if x39 = true then (some 1) else (if (x177003.length : Int) = x177000 then (coppicerref_TurnerCheck.j1 k ((x177004.length : Int) != x177000) x177000 x177001 x177002 x177003 x177004 x177005) else (coppicerref_TurnerCheck.j1 k true x177000 x177001 x177002 x177003 x177004 x177005))
def coppicerref_TurnerCheck.j1 : Nat → Bool → Int → Int → Int → List (List Int) → List (List (List Int)) → Int → Option (Int)
 | 0,_,_,_,_,_,_,_=>none
 | k + 1,x53,x177000,x177001,x177002,x177003,x177004,x177005=>if x53 = true then (some 3) else (coppicerref_TurnerCheck.l0 k 0 x177000 x177001 x177002 x177003 x177004 x177005)
def coppicerref_TurnerCheck.l0 : Nat → Int → Int → Int → Int → List (List Int) → List (List (List Int)) → Int → Option (Int)
 | 0,_,_,_,_,_,_,_=>none
 | k + 1,x3,x177000,x177001,x177002,x177003,x177004,x177005=>if x3 < x177000 then (if 0 ≤ x3 then (if x3 < (x177003.length : Int) then (if ((rd_L1 x177003 x3).length : Int) = x177001 then (if x3 < (x177004.length : Int) then (if ((rd_L2 x177004 x3).length : Int) = x177001 then (coppicerref_TurnerCheck.l0 k (wrap64 (x3 + 1)) x177000 x177001 x177002 x177003 x177004 x177005) else (some 3)) else (none)) else (some 3)) else (none)) else (none)) else (coppicerref_TurnerCheck.l1 k 0 x177000 x177001 x177002 x177003 x177004 x177005)
def coppicerref_TurnerCheck.l1 : Nat → Int → Int → Int → Int → List (List Int) → List (List (List Int)) → Int → Option (Int)
 | 0,_,_,_,_,_,_,_=>none
 | k + 1,x4,x177000,x177001,x177002,x177003,x177004,x177005=>if x4 < x177000 then (if 0 ≤ x4 then (if x4 < (x177004.length : Int) then (coppicerref_TurnerCheck.l2 k x4 (rd_L2 x177004 x4) ((rd_L2 x177004 x4).length : Int) 0 x177000 x177001 x177002 x177003 x177004 x177005) else (none)) else (none)) else (if x177005 < 0 then (coppicerref_TurnerCheck.j5 k true x177000 x177001 x177002 x177003 x177004 x177005) else (coppicerref_TurnerCheck.j5 k (decide (x177005 ≥ x177000)) x177000 x177001 x177002 x177003 x177004 x177005))
def coppicerref_TurnerCheck.l2 : Nat → Int → List (List Int) → Int → Int → Int → Int → Int → List (List Int) → List (List (List Int)) → Int → Option (Int)
 | 0,_,_,_,_,_,_,_,_,_,_=>none
 | k + 1,x4,x90,x91,x92,x177000,x177001,x177002,x177003,x177004,x177005=>if x92 < x91 then (if 0 ≤ x92 then (if x92 < (x90.length : Int) then (if ((rd_L1 x90 x92).length : Int) > 4 then (some 1) else (coppicerref_TurnerCheck.l2 k x4 x90 x91 (wrap64 (x92 + 1)) x177000 x177001 x177002 x177003 x177004 x177005)) else (none)) else (none)) else (coppicerref_TurnerCheck.l1 k (wrap64 (x4 + 1)) x177000 x177001 x177002 x177003 x177004 x177005)
def coppicerref_TurnerCheck.j5 : Nat → Bool → Int → Int → Int → List (List Int) → List (List (List Int)) → Int → Option (Int)
 | 0,_,_,_,_,_,_,_=>none
 | k + 1,x7,x177000,x177001,x177002,x177003,x177004,x177005=>coppicerref_TurnerCheck.l3 k x7 0 x177000 x177001 x177002 x177003 x177004 x177005
def coppicerref_TurnerCheck.l3 : Nat → Bool → Int → Int → Int → Int → List (List Int) → List (List (List Int)) → Int → Option (Int)
 | 0,_,_,_,_,_,_,_,_=>none
 | k + 1,x7,x8,x177000,x177001,x177002,x177003,x177004,x177005=>if x8 < x177000 then (coppicerref_TurnerCheck.l4 k x7 x8 0 x177000 x177001 x177002 x177003 x177004 x177005) else (if x7 = true then (some 2) else (some 0))
def coppicerref_TurnerCheck.l4 : Nat → Bool → Int → Int → Int → Int → Int → List (List Int) → List (List (List Int)) → Int → Option (Int)
 | 0,_,_,_,_,_,_,_,_,_=>none
 | k + 1,x7,x8,x9,x177000,x177001,x177002,x177003,x177004,x177005=>if x9 < x177001 then (if x7 = true then (coppicerref_TurnerCheck.j8 k true x8 x9 x177000 x177001 x177002 x177003 x177004 x177005) else (if 0 ≤ x8 then (if x8 < (x177003.length : Int) then (if 0 ≤ x9 then (if x9 < ((rd_L1 x177003 x8).length : Int) then (if (rd (rd_L1 x177003 x8) x9) < 0 then (coppicerref_TurnerCheck.j8 k true x8 x9 x177000 x177001 x177002 x177003 x177004 x177005) else (coppicerref_TurnerCheck.j8 k (decide ((rd (rd_L1 x177003 x8) x9) ≥ x177000)) x8 x9 x177000 x177001 x177002 x177003 x177004 x177005)) else (none)) else (none)) else (none)) else (none))) else (coppicerref_TurnerCheck.l3 k x7 (wrap64 (x8 + 1)) x177000 x177001 x177002 x177003 x177004 x177005)
def coppicerref_TurnerCheck.j8 : Nat → Bool → Int → Int → Int → Int → Int → List (List Int) → List (List (List Int)) → Int → Option (Int)
 | 0,_,_,_,_,_,_,_,_,_=>none
 | k + 1,x7,x8,x9,x177000,x177001,x177002,x177003,x177004,x177005=>if 0 ≤ x8 then (if x8 < (x177004.length : Int) then (if 0 ≤ x9 then (if x9 < ((rd_L2 x177004 x8).length : Int) then (coppicerref_TurnerCheck.l5 k x7 x8 x9 (rd_L1 (rd_L2 x177004 x8) x9) ((rd_L1 (rd_L2 x177004 x8) x9).length : Int) 0 x177000 x177001 x177002 x177003 x177004 x177005) else (none)) else (none)) else (none)) else (none)
def coppicerref_TurnerCheck.l5 : Nat → Bool → Int → Int → List Int → Int → Int → Int → Int → Int → List (List Int) → List (List (List Int)) → Int → Option (Int)
 | 0,_,_,_,_,_,_,_,_,_,_,_,_=>none
 | k + 1,x7,x8,x9,x154,x155,x156,x177000,x177001,x177002,x177003,x177004,x177005=>if x156 < x155 then (if 0 ≤ x156 then (if x156 < (x154.length : Int) then (if x7 = true then (coppicerref_TurnerCheck.l5 k true x8 x9 x154 x155 (wrap64 (x156 + 1)) x177000 x177001 x177002 x177003 x177004 x177005) else (if (rd x154 x156) < 0 then (coppicerref_TurnerCheck.l5 k true x8 x9 x154 x155 (wrap64 (x156 + 1)) x177000 x177001 x177002 x177003 x177004 x177005) else (coppicerref_TurnerCheck.l5 k (decide ((rd x154 x156) ≥ x177002)) x8 x9 x154 x155 (wrap64 (x156 + 1)) x177000 x177001 x177002 x177003 x177004 x177005))) else (none)) else (none)) else (coppicerref_TurnerCheck.l4 k x7 x8 (wrap64 (x9 + 1)) x177000 x177001 x177002 x177003 x177004 x177005)
end
def coppicerref_TurnerCheck.f (k : Nat) (a0_0 : Int) (a0_1 : Int) (a0_2 : Int) (l0_3 : List (List Int)) (l0_4 : List (List (List Int))) (a0_5 : Int) : Option (Int):=if a0_0 < 1 then (coppicerref_TurnerCheck.j0 k true a0_0 a0_1 a0_2 l0_3 l0_4 a0_5) else (if a0_0 > 7 then (coppicerref_TurnerCheck.j0 k true a0_0 a0_1 a0_2 l0_3 l0_4 a0_5) else (if a0_1 < 1 then (coppicerref_TurnerCheck.j0 k true a0_0 a0_1 a0_2 l0_3 l0_4 a0_5) else (if a0_1 > 3 then (coppicerref_TurnerCheck.j0 k true a0_0 a0_1 a0_2 l0_3 l0_4 a0_5) else (if a0_2 < 1 then (coppicerref_TurnerCheck.j0 k true a0_0 a0_1 a0_2 l0_3 l0_4 a0_5) else (coppicerref_TurnerCheck.j0 k (decide (a0_2 > 3)) a0_0 a0_1 a0_2 l0_3 l0_4 a0_5)))))
theorem coppicerref_TurnerCheck.mono_l : ∀ k,(∀ y0 y1 y2 y3 y4 y5 y6,LeO (coppicerref_TurnerCheck.j0 k y0 y1 y2 y3 y4 y5 y6) (coppicerref_TurnerCheck.j0 (k + 1) y0 y1 y2 y3 y4 y5 y6)) ∧ (∀ y0 y1 y2 y3 y4 y5 y6,LeO (coppicerref_TurnerCheck.j1 k y0 y1 y2 y3 y4 y5 y6) (coppicerref_TurnerCheck.j1 (k + 1) y0 y1 y2 y3 y4 y5 y6)) ∧ (∀ y0 y1 y2 y3 y4 y5 y6,LeO (coppicerref_TurnerCheck.l0 k y0 y1 y2 y3 y4 y5 y6) (coppicerref_TurnerCheck.l0 (k + 1) y0 y1 y2 y3 y4 y5 y6)) ∧ (∀ y0 y1 y2 y3 y4 y5 y6,LeO (coppicerref_TurnerCheck.l1 k y0 y1 y2 y3 y4 y5 y6) (coppicerref_TurnerCheck.l1 (k + 1) y0 y1 y2 y3 y4 y5 y6)) ∧ (∀ y0 y1 y2 y3 y4 y5 y6 y7 y8 y9,LeO (coppicerref_TurnerCheck.l2 k y0 y1 y2 y3 y4 y5 y6 y7 y8 y9) (coppicerref_TurnerCheck.l2 (k + 1) y0 y1 y2 y3 y4 y5 y6 y7 y8 y9)) ∧ (∀ y0 y1 y2 y3 y4 y5 y6,LeO (coppicerref_TurnerCheck.j5 k y0 y1 y2 y3 y4 y5 y6) (coppicerref_TurnerCheck.j5 (k + 1) y0 y1 y2 y3 y4 y5 y6)) ∧ (∀ y0 y1 y2 y3 y4 y5 y6 y7,LeO (coppicerref_TurnerCheck.l3 k y0 y1 y2 y3 y4 y5 y6 y7) (coppicerref_TurnerCheck.l3 (k + 1) y0 y1 y2 y3 y4 y5 y6 y7)) ∧ (∀ y0 y1 y2 y3 y4 y5 y6 y7 y8,LeO (coppicerref_TurnerCheck.l4 k y0 y1 y2 y3 y4 y5 y6 y7 y8) (coppicerref_TurnerCheck.l4 (k + 1) y0 y1 y2 y3 y4 y5 y6 y7 y8)) ∧ (∀ y0 y1 y2 y3 y4 y5 y6 y7 y8,LeO (coppicerref_TurnerCheck.j8 k y0 y1 y2 y3 y4 y5 y6 y7 y8) (coppicerref_TurnerCheck.j8 (k + 1) y0 y1 y2 y3 y4 y5 y6 y7 y8)) ∧ (∀ y0 y1 y2 y3 y4 y5 y6 y7 y8 y9 y10 y11,LeO (coppicerref_TurnerCheck.l5 k y0 y1 y2 y3 y4 y5 y6 y7 y8 y9 y10 y11) (coppicerref_TurnerCheck.l5 (k + 1) y0 y1 y2 y3 y4 y5 y6 y7 y8 y9 y10 y11))
 | 0=>⟨fun _ _ _ _ _ _ _ r h=>by simp [coppicerref_TurnerCheck.j0] at h,fun _ _ _ _ _ _ _ r h=>by simp [coppicerref_TurnerCheck.j1] at h,fun _ _ _ _ _ _ _ r h=>by simp [coppicerref_TurnerCheck.l0] at h,fun _ _ _ _ _ _ _ r h=>by simp [coppicerref_TurnerCheck.l1] at h,fun _ _ _ _ _ _ _ _ _ _ r h=>by simp [coppicerref_TurnerCheck.l2] at h,fun _ _ _ _ _ _ _ r h=>by simp [coppicerref_TurnerCheck.j5] at h,fun _ _ _ _ _ _ _ _ r h=>by simp [coppicerref_TurnerCheck.l3] at h,fun _ _ _ _ _ _ _ _ _ r h=>by simp [coppicerref_TurnerCheck.l4] at h,fun _ _ _ _ _ _ _ _ _ r h=>by simp [coppicerref_TurnerCheck.j8] at h,fun _ _ _ _ _ _ _ _ _ _ _ _ r h=>by simp [coppicerref_TurnerCheck.l5] at h⟩
 | k + 1=>by
  obtain ⟨ih0,ih1,ih2,ih3,ih4,ih5,ih6,ih7,ih8,ih9⟩:=coppicerref_TurnerCheck.mono_l k
  refine ⟨?_,?_,?_,?_,?_,?_,?_,?_,?_,?_⟩
  ·intro y0 y1 y2 y3 y4 y5 y6
   unfold coppicerref_TurnerCheck.j0
   repeat' first
   | (with_reducible exact ih0 _ _ _ _ _ _ _)
   | (with_reducible exact ih1 _ _ _ _ _ _ _)
   | (with_reducible exact ih2 _ _ _ _ _ _ _)
   | (with_reducible exact ih3 _ _ _ _ _ _ _)
   | (with_reducible exact ih4 _ _ _ _ _ _ _ _ _ _)
   | (with_reducible exact ih5 _ _ _ _ _ _ _)
   | (with_reducible exact ih6 _ _ _ _ _ _ _ _)
   | (with_reducible exact ih7 _ _ _ _ _ _ _ _ _)
   | (with_reducible exact ih8 _ _ _ _ _ _ _ _ _)
   | (with_reducible exact ih9 _ _ _ _ _ _ _ _ _ _ _ _)
   | (with_reducible exact LeO.refl _)
   | (with_reducible exact LeO.none _)
   | (with_reducible refine LeO.ite ?_ ?_)
   | (with_reducible refine LeO.bind ?_ (fun _=>?_))
   | exact ih0 _ _ _ _ _ _ _
   | exact ih1 _ _ _ _ _ _ _
   | exact ih2 _ _ _ _ _ _ _
   | exact ih3 _ _ _ _ _ _ _
   | exact ih4 _ _ _ _ _ _ _ _ _ _
   | exact ih5 _ _ _ _ _ _ _
   | exact ih6 _ _ _ _ _ _ _ _
   | exact ih7 _ _ _ _ _ _ _ _ _
   | exact ih8 _ _ _ _ _ _ _ _ _
   | exact ih9 _ _ _ _ _ _ _ _ _ _ _ _
   | exact LeO.none _
   | refine LeO.ite ?_ ?_
   | refine LeO.bind ?_ (fun _=>?_)
  ·intro y0 y1 y2 y3 y4 y5 y6
   unfold coppicerref_TurnerCheck.j1
   repeat' first
   | (with_reducible exact ih0 _ _ _ _ _ _ _)
   | (with_reducible exact ih1 _ _ _ _ _ _ _)
   | (with_reducible exact ih2 _ _ _ _ _ _ _)
   | (with_reducible exact ih3 _ _ _ _ _ _ _)
   | (with_reducible exact ih4 _ _ _ _ _ _ _ _ _ _)
   | (with_reducible exact ih5 _ _ _ _ _ _ _)
   | (with_reducible exact ih6 _ _ _ _ _ _ _ _)
   | (with_reducible exact ih7 _ _ _ _ _ _ _ _ _)
   | (with_reducible exact ih8 _ _ _ _ _ _ _ _ _)
   | (with_reducible exact ih9 _ _ _ _ _ _ _ _ _ _ _ _)
   | (with_reducible exact LeO.refl _)
   | (with_reducible exact LeO.none _)
   | (with_reducible refine LeO.ite ?_ ?_)
   | (with_reducible refine LeO.bind ?_ (fun _=>?_))
   | exact ih0 _ _ _ _ _ _ _
   | exact ih1 _ _ _ _ _ _ _
   | exact ih2 _ _ _ _ _ _ _
   | exact ih3 _ _ _ _ _ _ _
   | exact ih4 _ _ _ _ _ _ _ _ _ _
   | exact ih5 _ _ _ _ _ _ _
   | exact ih6 _ _ _ _ _ _ _ _
   | exact ih7 _ _ _ _ _ _ _ _ _
   | exact ih8 _ _ _ _ _ _ _ _ _
   | exact ih9 _ _ _ _ _ _ _ _ _ _ _ _
   | exact LeO.none _
   | refine LeO.ite ?_ ?_
   | refine LeO.bind ?_ (fun _=>?_)
  ·intro y0 y1 y2 y3 y4 y5 y6
   unfold coppicerref_TurnerCheck.l0
   repeat' first
   | (with_reducible exact ih0 _ _ _ _ _ _ _)
   | (with_reducible exact ih1 _ _ _ _ _ _ _)
   | (with_reducible exact ih2 _ _ _ _ _ _ _)
   | (with_reducible exact ih3 _ _ _ _ _ _ _)
   | (with_reducible exact ih4 _ _ _ _ _ _ _ _ _ _)
   | (with_reducible exact ih5 _ _ _ _ _ _ _)
   | (with_reducible exact ih6 _ _ _ _ _ _ _ _)
   | (with_reducible exact ih7 _ _ _ _ _ _ _ _ _)
   | (with_reducible exact ih8 _ _ _ _ _ _ _ _ _)
   | (with_reducible exact ih9 _ _ _ _ _ _ _ _ _ _ _ _)
   | (with_reducible exact LeO.refl _)
   | (with_reducible exact LeO.none _)
   | (with_reducible refine LeO.ite ?_ ?_)
   | (with_reducible refine LeO.bind ?_ (fun _=>?_))
   | exact ih0 _ _ _ _ _ _ _
   | exact ih1 _ _ _ _ _ _ _
   | exact ih2 _ _ _ _ _ _ _
   | exact ih3 _ _ _ _ _ _ _
   | exact ih4 _ _ _ _ _ _ _ _ _ _
   | exact ih5 _ _ _ _ _ _ _
   | exact ih6 _ _ _ _ _ _ _ _
   | exact ih7 _ _ _ _ _ _ _ _ _
   | exact ih8 _ _ _ _ _ _ _ _ _
   | exact ih9 _ _ _ _ _ _ _ _ _ _ _ _
   | exact LeO.none _
   | refine LeO.ite ?_ ?_
   | refine LeO.bind ?_ (fun _=>?_)
  ·intro y0 y1 y2 y3 y4 y5 y6
   unfold coppicerref_TurnerCheck.l1
   repeat' first
   | (with_reducible exact ih0 _ _ _ _ _ _ _)
   | (with_reducible exact ih1 _ _ _ _ _ _ _)
   | (with_reducible exact ih2 _ _ _ _ _ _ _)
   | (with_reducible exact ih3 _ _ _ _ _ _ _)
   | (with_reducible exact ih4 _ _ _ _ _ _ _ _ _ _)
   | (with_reducible exact ih5 _ _ _ _ _ _ _)
   | (with_reducible exact ih6 _ _ _ _ _ _ _ _)
   | (with_reducible exact ih7 _ _ _ _ _ _ _ _ _)
   | (with_reducible exact ih8 _ _ _ _ _ _ _ _ _)
   | (with_reducible exact ih9 _ _ _ _ _ _ _ _ _ _ _ _)
   | (with_reducible exact LeO.refl _)
   | (with_reducible exact LeO.none _)
   | (with_reducible refine LeO.ite ?_ ?_)
   | (with_reducible refine LeO.bind ?_ (fun _=>?_))
   | exact ih0 _ _ _ _ _ _ _
   | exact ih1 _ _ _ _ _ _ _
   | exact ih2 _ _ _ _ _ _ _
   | exact ih3 _ _ _ _ _ _ _
   | exact ih4 _ _ _ _ _ _ _ _ _ _
   | exact ih5 _ _ _ _ _ _ _
   | exact ih6 _ _ _ _ _ _ _ _
   | exact ih7 _ _ _ _ _ _ _ _ _
   | exact ih8 _ _ _ _ _ _ _ _ _
   | exact ih9 _ _ _ _ _ _ _ _ _ _ _ _
   | exact LeO.none _
   | refine LeO.ite ?_ ?_
   | refine LeO.bind ?_ (fun _=>?_)
  ·intro y0 y1 y2 y3 y4 y5 y6 y7 y8 y9
   unfold coppicerref_TurnerCheck.l2
   repeat' first
   | (with_reducible exact ih0 _ _ _ _ _ _ _)
   | (with_reducible exact ih1 _ _ _ _ _ _ _)
   | (with_reducible exact ih2 _ _ _ _ _ _ _)
   | (with_reducible exact ih3 _ _ _ _ _ _ _)
   | (with_reducible exact ih4 _ _ _ _ _ _ _ _ _ _)
   | (with_reducible exact ih5 _ _ _ _ _ _ _)
   | (with_reducible exact ih6 _ _ _ _ _ _ _ _)
   | (with_reducible exact ih7 _ _ _ _ _ _ _ _ _)
   | (with_reducible exact ih8 _ _ _ _ _ _ _ _ _)
   | (with_reducible exact ih9 _ _ _ _ _ _ _ _ _ _ _ _)
   | (with_reducible exact LeO.refl _)
   | (with_reducible exact LeO.none _)
   | (with_reducible refine LeO.ite ?_ ?_)
   | (with_reducible refine LeO.bind ?_ (fun _=>?_))
   | exact ih0 _ _ _ _ _ _ _
   | exact ih1 _ _ _ _ _ _ _
   | exact ih2 _ _ _ _ _ _ _
   | exact ih3 _ _ _ _ _ _ _
   | exact ih4 _ _ _ _ _ _ _ _ _ _
   | exact ih5 _ _ _ _ _ _ _
   | exact ih6 _ _ _ _ _ _ _ _
   | exact ih7 _ _ _ _ _ _ _ _ _
   | exact ih8 _ _ _ _ _ _ _ _ _
   | exact ih9 _ _ _ _ _ _ _ _ _ _ _ _
   | exact LeO.none _
   | refine LeO.ite ?_ ?_
   | refine LeO.bind ?_ (fun _=>?_)
  ·intro y0 y1 y2 y3 y4 y5 y6
   unfold coppicerref_TurnerCheck.j5
   repeat' first
   | (with_reducible exact ih0 _ _ _ _ _ _ _)
   | (with_reducible exact ih1 _ _ _ _ _ _ _)
   | (with_reducible exact ih2 _ _ _ _ _ _ _)
   | (with_reducible exact ih3 _ _ _ _ _ _ _)
   | (with_reducible exact ih4 _ _ _ _ _ _ _ _ _ _)
   | (with_reducible exact ih5 _ _ _ _ _ _ _)
   | (with_reducible exact ih6 _ _ _ _ _ _ _ _)
   | (with_reducible exact ih7 _ _ _ _ _ _ _ _ _)
   | (with_reducible exact ih8 _ _ _ _ _ _ _ _ _)
   | (with_reducible exact ih9 _ _ _ _ _ _ _ _ _ _ _ _)
   | (with_reducible exact LeO.refl _)
   | (with_reducible exact LeO.none _)
   | (with_reducible refine LeO.ite ?_ ?_)
   | (with_reducible refine LeO.bind ?_ (fun _=>?_))
   | exact ih0 _ _ _ _ _ _ _
   | exact ih1 _ _ _ _ _ _ _
   | exact ih2 _ _ _ _ _ _ _
   | exact ih3 _ _ _ _ _ _ _
   | exact ih4 _ _ _ _ _ _ _ _ _ _
   | exact ih5 _ _ _ _ _ _ _
   | exact ih6 _ _ _ _ _ _ _ _
   | exact ih7 _ _ _ _ _ _ _ _ _
   | exact ih8 _ _ _ _ _ _ _ _ _
   | exact ih9 _ _ _ _ _ _ _ _ _ _ _ _
   | exact LeO.none _
   | refine LeO.ite ?_ ?_
   | refine LeO.bind ?_ (fun _=>?_)
  ·intro y0 y1 y2 y3 y4 y5 y6 y7
   unfold coppicerref_TurnerCheck.l3
   repeat' first
   | (with_reducible exact ih0 _ _ _ _ _ _ _)
   | (with_reducible exact ih1 _ _ _ _ _ _ _)
   | (with_reducible exact ih2 _ _ _ _ _ _ _)
   | (with_reducible exact ih3 _ _ _ _ _ _ _)
   | (with_reducible exact ih4 _ _ _ _ _ _ _ _ _ _)
   | (with_reducible exact ih5 _ _ _ _ _ _ _)
   | (with_reducible exact ih6 _ _ _ _ _ _ _ _)
   | (with_reducible exact ih7 _ _ _ _ _ _ _ _ _)
   | (with_reducible exact ih8 _ _ _ _ _ _ _ _ _)
   | (with_reducible exact ih9 _ _ _ _ _ _ _ _ _ _ _ _)
   | (with_reducible exact LeO.refl _)
   | (with_reducible exact LeO.none _)
   | (with_reducible refine LeO.ite ?_ ?_)
   | (with_reducible refine LeO.bind ?_ (fun _=>?_))
   | exact ih0 _ _ _ _ _ _ _
   | exact ih1 _ _ _ _ _ _ _
   | exact ih2 _ _ _ _ _ _ _
   | exact ih3 _ _ _ _ _ _ _
   | exact ih4 _ _ _ _ _ _ _ _ _ _
   | exact ih5 _ _ _ _ _ _ _
   | exact ih6 _ _ _ _ _ _ _ _
   | exact ih7 _ _ _ _ _ _ _ _ _
   | exact ih8 _ _ _ _ _ _ _ _ _
   | exact ih9 _ _ _ _ _ _ _ _ _ _ _ _
   | exact LeO.none _
   | refine LeO.ite ?_ ?_
   | refine LeO.bind ?_ (fun _=>?_)
  ·intro y0 y1 y2 y3 y4 y5 y6 y7 y8
   unfold coppicerref_TurnerCheck.l4
   repeat' first
   | (with_reducible exact ih0 _ _ _ _ _ _ _)
   | (with_reducible exact ih1 _ _ _ _ _ _ _)
   | (with_reducible exact ih2 _ _ _ _ _ _ _)
   | (with_reducible exact ih3 _ _ _ _ _ _ _)
   | (with_reducible exact ih4 _ _ _ _ _ _ _ _ _ _)
   | (with_reducible exact ih5 _ _ _ _ _ _ _)
   | (with_reducible exact ih6 _ _ _ _ _ _ _ _)
   | (with_reducible exact ih7 _ _ _ _ _ _ _ _ _)
   | (with_reducible exact ih8 _ _ _ _ _ _ _ _ _)
   | (with_reducible exact ih9 _ _ _ _ _ _ _ _ _ _ _ _)
   | (with_reducible exact LeO.refl _)
   | (with_reducible exact LeO.none _)
   | (with_reducible refine LeO.ite ?_ ?_)
   | (with_reducible refine LeO.bind ?_ (fun _=>?_))
   | exact ih0 _ _ _ _ _ _ _
   | exact ih1 _ _ _ _ _ _ _
   | exact ih2 _ _ _ _ _ _ _
   | exact ih3 _ _ _ _ _ _ _
   | exact ih4 _ _ _ _ _ _ _ _ _ _
   | exact ih5 _ _ _ _ _ _ _
   | exact ih6 _ _ _ _ _ _ _ _
   | exact ih7 _ _ _ _ _ _ _ _ _
   | exact ih8 _ _ _ _ _ _ _ _ _
   | exact ih9 _ _ _ _ _ _ _ _ _ _ _ _
   | exact LeO.none _
   | refine LeO.ite ?_ ?_
   | refine LeO.bind ?_ (fun _=>?_)
  ·intro y0 y1 y2 y3 y4 y5 y6 y7 y8
   unfold coppicerref_TurnerCheck.j8
   repeat' first
   | (with_reducible exact ih0 _ _ _ _ _ _ _)
   | (with_reducible exact ih1 _ _ _ _ _ _ _)
   | (with_reducible exact ih2 _ _ _ _ _ _ _)
   | (with_reducible exact ih3 _ _ _ _ _ _ _)
   | (with_reducible exact ih4 _ _ _ _ _ _ _ _ _ _)
   | (with_reducible exact ih5 _ _ _ _ _ _ _)
   | (with_reducible exact ih6 _ _ _ _ _ _ _ _)
   | (with_reducible exact ih7 _ _ _ _ _ _ _ _ _)
   | (with_reducible exact ih8 _ _ _ _ _ _ _ _ _)
   | (with_reducible exact ih9 _ _ _ _ _ _ _ _ _ _ _ _)
   | (with_reducible exact LeO.refl _)
   | (with_reducible exact LeO.none _)
   | (with_reducible refine LeO.ite ?_ ?_)
   | (with_reducible refine LeO.bind ?_ (fun _=>?_))
   | exact ih0 _ _ _ _ _ _ _
   | exact ih1 _ _ _ _ _ _ _
   | exact ih2 _ _ _ _ _ _ _
   | exact ih3 _ _ _ _ _ _ _
   | exact ih4 _ _ _ _ _ _ _ _ _ _
   | exact ih5 _ _ _ _ _ _ _
   | exact ih6 _ _ _ _ _ _ _ _
   | exact ih7 _ _ _ _ _ _ _ _ _
   | exact ih8 _ _ _ _ _ _ _ _ _
   | exact ih9 _ _ _ _ _ _ _ _ _ _ _ _
   | exact LeO.none _
   | refine LeO.ite ?_ ?_
   | refine LeO.bind ?_ (fun _=>?_)
  ·intro y0 y1 y2 y3 y4 y5 y6 y7 y8 y9 y10 y11
   unfold coppicerref_TurnerCheck.l5
   repeat' first
   | (with_reducible exact ih0 _ _ _ _ _ _ _)
   | (with_reducible exact ih1 _ _ _ _ _ _ _)
   | (with_reducible exact ih2 _ _ _ _ _ _ _)
   | (with_reducible exact ih3 _ _ _ _ _ _ _)
   | (with_reducible exact ih4 _ _ _ _ _ _ _ _ _ _)
   | (with_reducible exact ih5 _ _ _ _ _ _ _)
   | (with_reducible exact ih6 _ _ _ _ _ _ _ _)
   | (with_reducible exact ih7 _ _ _ _ _ _ _ _ _)
   | (with_reducible exact ih8 _ _ _ _ _ _ _ _ _)
   | (with_reducible exact ih9 _ _ _ _ _ _ _ _ _ _ _ _)
   | (with_reducible exact LeO.refl _)
   | (with_reducible exact LeO.none _)
   | (with_reducible refine LeO.ite ?_ ?_)
   | (with_reducible refine LeO.bind ?_ (fun _=>?_))
   | exact ih0 _ _ _ _ _ _ _
   | exact ih1 _ _ _ _ _ _ _
   | exact ih2 _ _ _ _ _ _ _
   | exact ih3 _ _ _ _ _ _ _
   | exact ih4 _ _ _ _ _ _ _ _ _ _
   | exact ih5 _ _ _ _ _ _ _
   | exact ih6 _ _ _ _ _ _ _ _
   | exact ih7 _ _ _ _ _ _ _ _ _
   | exact ih8 _ _ _ _ _ _ _ _ _
   | exact ih9 _ _ _ _ _ _ _ _ _ _ _ _
   | exact LeO.none _
   | refine LeO.ite ?_ ?_
   | refine LeO.bind ?_ (fun _=>?_)
theorem coppicerref_TurnerCheck.mono : ∀ a0 a1 a2 a3 a4 a5 k,LeO (coppicerref_TurnerCheck.f k a0 a1 a2 a3 a4 a5) (coppicerref_TurnerCheck.f (k + 1) a0 a1 a2 a3 a4 a5):=by
 intro a0 a1 a2 a3 a4 a5 k
 obtain ⟨ih0,ih1,ih2,ih3,ih4,ih5,ih6,ih7,ih8,ih9⟩:=coppicerref_TurnerCheck.mono_l k
 unfold coppicerref_TurnerCheck.f
 repeat' first
   | (with_reducible exact ih0 _ _ _ _ _ _ _)
   | (with_reducible exact ih1 _ _ _ _ _ _ _)
   | (with_reducible exact ih2 _ _ _ _ _ _ _)
   | (with_reducible exact ih3 _ _ _ _ _ _ _)
   | (with_reducible exact ih4 _ _ _ _ _ _ _ _ _ _)
   | (with_reducible exact ih5 _ _ _ _ _ _ _)
   | (with_reducible exact ih6 _ _ _ _ _ _ _ _)
   | (with_reducible exact ih7 _ _ _ _ _ _ _ _ _)
   | (with_reducible exact ih8 _ _ _ _ _ _ _ _ _)
   | (with_reducible exact ih9 _ _ _ _ _ _ _ _ _ _ _ _)
   | (with_reducible exact LeO.refl _)
   | (with_reducible exact LeO.none _)
   | (with_reducible refine LeO.ite ?_ ?_)
   | (with_reducible refine LeO.bind ?_ (fun _=>?_))
   | exact ih0 _ _ _ _ _ _ _
   | exact ih1 _ _ _ _ _ _ _
   | exact ih2 _ _ _ _ _ _ _
   | exact ih3 _ _ _ _ _ _ _
   | exact ih4 _ _ _ _ _ _ _ _ _ _
   | exact ih5 _ _ _ _ _ _ _
   | exact ih6 _ _ _ _ _ _ _ _
   | exact ih7 _ _ _ _ _ _ _ _ _
   | exact ih8 _ _ _ _ _ _ _ _ _
   | exact ih9 _ _ _ _ _ _ _ _ _ _ _ _
   | exact LeO.none _
   | refine LeO.ite ?_ ?_
   | refine LeO.bind ?_ (fun _=>?_)
set_option maxHeartbeats 8000000 in
set_option maxRecDepth 100000 in
theorem coppicerref_TurnerCheck.calls (k : Nat) (a0_0 : Int) (a0_1 : Int) (a0_2 : Int) (A0_3 : Option Addr) (c0_3 : Nat) (l0_3 : List (List Int)) (A0_4 : Option Addr) (c0_4 : Nat) (l0_4 : List (List (List Int))) (a0_5 : Int) (r : Int) (w : World) (hr0_3 : Kd.C (Kd.slice 3 (Kd.int .i64)) w A0_3 l0_3.length l0_3) (hc0_3 : l0_3.length ≤ c0_3) (hr0_4 : Kd.C (Kd.slice 26 (Kd.slice 3 (Kd.int .i64))) w A0_4 l0_4.length l0_4) (hc0_4 : l0_4.length ≤ c0_4) (h : coppicerref_TurnerCheck.f k a0_0 a0_1 a0_2 l0_3 l0_4 a0_5 = some r) :
  Calls Try.prog 12 #[.agg #[.int .i64 a0_0,.int .i64 a0_1,.int .i64 a0_2,.slice A0_3 l0_3.length c0_3,.slice A0_4 l0_4.length c0_4,.int .i64 a0_5]] w fun e w'=>e = .returned (.int .i64 r) ∧ Below w.heap.size w w':=by
 have hu25:=Try.underlying25
 have HR0_3:=Aside0.mk hr0_3
 have HC0_3:=Aside0.mk hc0_3
 clear hr0_3 hc0_3
 have HR0_4:=Aside0.mk hr0_4
 have HC0_4:=Aside0.mk hc0_4
 clear hr0_4 hc0_4
 have HB:=Aside0.mk (Below.refl w.heap.size w)
 have H : (if a0_0 < 1 then (coppicerref_TurnerCheck.j0 k true a0_0 a0_1 a0_2 l0_3 l0_4 a0_5) else (if a0_0 > 7 then (coppicerref_TurnerCheck.j0 k true a0_0 a0_1 a0_2 l0_3 l0_4 a0_5) else (if a0_1 < 1 then (coppicerref_TurnerCheck.j0 k true a0_0 a0_1 a0_2 l0_3 l0_4 a0_5) else (if a0_1 > 3 then (coppicerref_TurnerCheck.j0 k true a0_0 a0_1 a0_2 l0_3 l0_4 a0_5) else (if a0_2 < 1 then (coppicerref_TurnerCheck.j0 k true a0_0 a0_1 a0_2 l0_3 l0_4 a0_5) else (coppicerref_TurnerCheck.j0 k (decide (a0_2 > 3)) a0_0 a0_1 a0_2 l0_3 l0_4 a0_5)))))) = some r:=h
 clear h
 have HC2:=Aside0.mk H
 clear H
 go_enter Try.func12,Try.ntmps12
 go_upto_region 1 with (first|((with_reducible refine gate_dst (N:=1) rfl ?_);(try (refine gate_guard (by rfl) ?_;dsimp only));refine box_event ?hg (N:=1) ?hd (cs:=#[.int .i64 a0_0,.int .i64 a0_1,.int .i64 a0_2,.slice A0_3 l0_3.length c0_3,.slice A0_4 l0_4.length c0_4,.int .i64 a0_5]) (t:=25) ?hr ?_;(case hd=>rfl);(case hg=>rfl);(case hr=>first|(go_simp;done)|(go_simp;rfl));intro gb176 hg w3 hbox hb;have n0_:=Aside0.mk (below_step (by repeat (first|(with_reducible first|exact HB.out|apply below_alloc|apply pw_below_drewN|apply below_drew1)|exact HB.out)) hb);have n1_:=Aside0.mk (hbox);have n2_:=Aside0.mk ((by rw [hg];exact (below_size (by repeat (first|(with_reducible first|exact HB.out|apply below_alloc|apply pw_below_drewN|apply below_drew1)|exact HB.out))) : w.heap.size ≤ gb176));have n3_:=Aside0.mk ((by rw [hg];exact (below_size (by repeat (first|(with_reducible first|exact HB.out|apply below_alloc|apply pw_below_drewN|apply below_drew1)|exact HB.out))) : w.heap.size ≤ gb176));clear HB;have HB:=n0_;have BK176:=n1_;have GW176:=n2_;have GE176:=n3_;clear n0_ n1_ n2_ n3_;clear hb hbox hg))
 repeat (go_quiet (first|((with_reducible refine gate_dst (N:=1) rfl ?_);(try (refine gate_guard (by rfl) ?_;dsimp only));refine box_event ?hg (N:=1) ?hd (cs:=#[.int .i64 a0_0,.int .i64 a0_1,.int .i64 a0_2,.slice A0_3 l0_3.length c0_3,.slice A0_4 l0_4.length c0_4,.int .i64 a0_5]) (t:=25) ?hr ?_;(case hd=>rfl);(case hg=>rfl);(case hr=>first|(go_simp;done)|(go_simp;rfl));intro gb176 hg w3 hbox hb;have n0_:=Aside0.mk (below_step (by repeat (first|(with_reducible first|exact HB.out|apply below_alloc|apply pw_below_drewN|apply below_drew1)|exact HB.out)) hb);have n1_:=Aside0.mk (hbox);have n2_:=Aside0.mk ((by rw [hg];exact (below_size (by repeat (first|(with_reducible first|exact HB.out|apply below_alloc|apply pw_below_drewN|apply below_drew1)|exact HB.out))) : w.heap.size ≤ gb176));have n3_:=Aside0.mk ((by rw [hg];exact (below_size (by repeat (first|(with_reducible first|exact HB.out|apply below_alloc|apply pw_below_drewN|apply below_drew1)|exact HB.out))) : w.heap.size ≤ gb176));clear HB;have HB:=n0_;have BK176:=n1_;have GW176:=n2_;have GE176:=n3_;clear n0_ n1_ n2_ n3_;clear hb hbox hg));go_upto_region 1 with (first|((with_reducible refine gate_dst (N:=1) rfl ?_);(try (refine gate_guard (by rfl) ?_;dsimp only));refine box_event ?hg (N:=1) ?hd (cs:=#[.int .i64 a0_0,.int .i64 a0_1,.int .i64 a0_2,.slice A0_3 l0_3.length c0_3,.slice A0_4 l0_4.length c0_4,.int .i64 a0_5]) (t:=25) ?hr ?_;(case hd=>rfl);(case hg=>rfl);(case hr=>first|(go_simp;done)|(go_simp;rfl));intro gb176 hg w3 hbox hb;have n0_:=Aside0.mk (below_step (by repeat (first|(with_reducible first|exact HB.out|apply below_alloc|apply pw_below_drewN|apply below_drew1)|exact HB.out)) hb);have n1_:=Aside0.mk (hbox);have n2_:=Aside0.mk ((by rw [hg];exact (below_size (by repeat (first|(with_reducible first|exact HB.out|apply below_alloc|apply pw_below_drewN|apply below_drew1)|exact HB.out))) : w.heap.size ≤ gb176));have n3_:=Aside0.mk ((by rw [hg];exact (below_size (by repeat (first|(with_reducible first|exact HB.out|apply below_alloc|apply pw_below_drewN|apply below_drew1)|exact HB.out))) : w.heap.size ≤ gb176));clear HB;have HB:=n0_;have BK176:=n1_;have GW176:=n2_;have GE176:=n3_;clear n0_ n1_ n2_ n3_;clear hb hbox hg)))
 (try simp only [Act.put,List.setIfInBounds_toArray,List.set_cons_zero,List.set_cons_succ])
 go_cut [39] (fun v39 wc=>∃ (kq : Nat) (x39_1 : Bool),v39 = .bool x39_1 ∧ Aside0 (coppicerref_TurnerCheck.j0 kq x39_1 a0_0 a0_1 a0_2 l0_3 l0_4 a0_5 = some r) ∧ Aside0 (kq ≤ k) ∧ Aside0 (wc.heap[gb176]? = some (.cells #[.int .i64 a0_0,.int .i64 a0_1,.int .i64 a0_2,(.slice A0_3 l0_3.length c0_3),(.slice A0_4 l0_4.length c0_4),.int .i64 a0_5] 25 (0,0))) ∧ Aside0 (Below w.heap.size w wc))
 case first =>
  have H:=HC2.out
  clear HC2
  by_cases c4 : a0_0 < 1
  ·rw [if_pos c4] at H
   have c4b0 : decide (a0_0 < 1) = true:=decide_eq_true c4
   clear c4
   (first|rw [c4b0]|(simp only [i64_w,i32_w];rw [c4b0])|skip)
   have H':=Aside0.mk H
   clear H
   have hcz5_0 : w3.cell? ⟨gb176,0,none⟩ = some (.int .i64 a0_0):=(blk_cell BK176.out 0).trans rfl
   have hcz5_1 : w3.cell? ⟨gb176,1,none⟩ = some (.int .i64 a0_1):=(blk_cell BK176.out 1).trans rfl
   have hcz5_2 : w3.cell? ⟨gb176,2,none⟩ = some (.int .i64 a0_2):=(blk_cell BK176.out 2).trans rfl
   have hcz5_3 : w3.cell? ⟨gb176,3,none⟩ = some (.slice A0_3 l0_3.length c0_3):=(blk_cell BK176.out 3).trans rfl
   have hcz5_4 : w3.cell? ⟨gb176,4,none⟩ = some (.slice A0_4 l0_4.length c0_4):=(blk_cell BK176.out 4).trans rfl
   have hcz5_5 : w3.cell? ⟨gb176,5,none⟩ = some (.int .i64 a0_5):=(blk_cell BK176.out 5).trans rfl
   have hfz5_0:=blk_frozen BK176.out 0
   have hfz5_1:=blk_frozen BK176.out 1
   have hfz5_2:=blk_frozen BK176.out 2
   have hfz5_3:=blk_frozen BK176.out 3
   have hfz5_4:=blk_frozen BK176.out 4
   have hfz5_5:=blk_frozen BK176.out 5
   go_wp2
   repeat (go_quiet (fail);try go_wp2)
   go_meet
   case rel=>exact ⟨_,(true),(by first|rfl|(simp;done)|(simp [*];done)),H',⟨by first|omega|exact Nat.le_refl _⟩,⟨by (with_reducible repeat (first|refine blk_drewN ?_ _|refine blk_drew ?_|refine blk_alloc ?_ _));exact BK176.out⟩,⟨by repeat (first|(with_reducible first|exact HB.out|apply below_alloc|apply pw_below_drewN|apply below_drew1|refine below_set ?_ GE176.out)|exact HB.out)⟩⟩
  ·rw [if_neg c4] at H
   have c4b0 : decide (a0_0 < 1) = false:=decide_eq_false c4
   clear c4
   (first|rw [c4b0]|(simp only [i64_w,i32_w];rw [c4b0])|skip)
   by_cases c6 : a0_0 > 7
   ·rw [if_pos c6] at H
    have c6b0 : decide (7 < a0_0) = true:=decide_eq_true c6
    clear c6
    have H':=Aside0.mk H
    clear H
    have hcz7_0 : w3.cell? ⟨gb176,0,none⟩ = some (.int .i64 a0_0):=(blk_cell BK176.out 0).trans rfl
    have hcz7_1 : w3.cell? ⟨gb176,1,none⟩ = some (.int .i64 a0_1):=(blk_cell BK176.out 1).trans rfl
    have hcz7_2 : w3.cell? ⟨gb176,2,none⟩ = some (.int .i64 a0_2):=(blk_cell BK176.out 2).trans rfl
    have hcz7_3 : w3.cell? ⟨gb176,3,none⟩ = some (.slice A0_3 l0_3.length c0_3):=(blk_cell BK176.out 3).trans rfl
    have hcz7_4 : w3.cell? ⟨gb176,4,none⟩ = some (.slice A0_4 l0_4.length c0_4):=(blk_cell BK176.out 4).trans rfl
    have hcz7_5 : w3.cell? ⟨gb176,5,none⟩ = some (.int .i64 a0_5):=(blk_cell BK176.out 5).trans rfl
    have hfz7_0:=blk_frozen BK176.out 0
    have hfz7_1:=blk_frozen BK176.out 1
    have hfz7_2:=blk_frozen BK176.out 2
    have hfz7_3:=blk_frozen BK176.out 3
    have hfz7_4:=blk_frozen BK176.out 4
    have hfz7_5:=blk_frozen BK176.out 5
    go_wp2
    repeat (go_quiet (fail);try go_wp2)
    go_meet
    case rel=>exact ⟨_,(true),(by first|rfl|(simp;done)|(simp [*];done)),H',⟨by first|omega|exact Nat.le_refl _⟩,⟨by (with_reducible repeat (first|refine blk_drewN ?_ _|refine blk_drew ?_|refine blk_alloc ?_ _));exact BK176.out⟩,⟨by repeat (first|(with_reducible first|exact HB.out|apply below_alloc|apply pw_below_drewN|apply below_drew1|refine below_set ?_ GE176.out)|exact HB.out)⟩⟩
   ·rw [if_neg c6] at H
    have c6b0 : decide (7 < a0_0) = false:=decide_eq_false c6
    clear c6
    by_cases c8 : a0_1 < 1
    ·rw [if_pos c8] at H
     have c8b0 : decide (a0_1 < 1) = true:=decide_eq_true c8
     clear c8
     have H':=Aside0.mk H
     clear H
     have hcz9_0 : w3.cell? ⟨gb176,0,none⟩ = some (.int .i64 a0_0):=(blk_cell BK176.out 0).trans rfl
     have hcz9_1 : w3.cell? ⟨gb176,1,none⟩ = some (.int .i64 a0_1):=(blk_cell BK176.out 1).trans rfl
     have hcz9_2 : w3.cell? ⟨gb176,2,none⟩ = some (.int .i64 a0_2):=(blk_cell BK176.out 2).trans rfl
     have hcz9_3 : w3.cell? ⟨gb176,3,none⟩ = some (.slice A0_3 l0_3.length c0_3):=(blk_cell BK176.out 3).trans rfl
     have hcz9_4 : w3.cell? ⟨gb176,4,none⟩ = some (.slice A0_4 l0_4.length c0_4):=(blk_cell BK176.out 4).trans rfl
     have hcz9_5 : w3.cell? ⟨gb176,5,none⟩ = some (.int .i64 a0_5):=(blk_cell BK176.out 5).trans rfl
     have hfz9_0:=blk_frozen BK176.out 0
     have hfz9_1:=blk_frozen BK176.out 1
     have hfz9_2:=blk_frozen BK176.out 2
     have hfz9_3:=blk_frozen BK176.out 3
     have hfz9_4:=blk_frozen BK176.out 4
     have hfz9_5:=blk_frozen BK176.out 5
     go_wp2
     repeat (go_quiet (fail);try go_wp2)
     go_meet
     case rel=>exact ⟨_,(true),(by first|rfl|(simp;done)|(simp [*];done)),H',⟨by first|omega|exact Nat.le_refl _⟩,⟨by (with_reducible repeat (first|refine blk_drewN ?_ _|refine blk_drew ?_|refine blk_alloc ?_ _));exact BK176.out⟩,⟨by repeat (first|(with_reducible first|exact HB.out|apply below_alloc|apply pw_below_drewN|apply below_drew1|refine below_set ?_ GE176.out)|exact HB.out)⟩⟩
    ·rw [if_neg c8] at H
     have c8b0 : decide (a0_1 < 1) = false:=decide_eq_false c8
     clear c8
     by_cases c10 : a0_1 > 3
     ·rw [if_pos c10] at H
      have c10b0 : decide (3 < a0_1) = true:=decide_eq_true c10
      clear c10
      have H':=Aside0.mk H
      clear H
      have hcz11_0 : w3.cell? ⟨gb176,0,none⟩ = some (.int .i64 a0_0):=(blk_cell BK176.out 0).trans rfl
      have hcz11_1 : w3.cell? ⟨gb176,1,none⟩ = some (.int .i64 a0_1):=(blk_cell BK176.out 1).trans rfl
      have hcz11_2 : w3.cell? ⟨gb176,2,none⟩ = some (.int .i64 a0_2):=(blk_cell BK176.out 2).trans rfl
      have hcz11_3 : w3.cell? ⟨gb176,3,none⟩ = some (.slice A0_3 l0_3.length c0_3):=(blk_cell BK176.out 3).trans rfl
      have hcz11_4 : w3.cell? ⟨gb176,4,none⟩ = some (.slice A0_4 l0_4.length c0_4):=(blk_cell BK176.out 4).trans rfl
      have hcz11_5 : w3.cell? ⟨gb176,5,none⟩ = some (.int .i64 a0_5):=(blk_cell BK176.out 5).trans rfl
      have hfz11_0:=blk_frozen BK176.out 0
      have hfz11_1:=blk_frozen BK176.out 1
      have hfz11_2:=blk_frozen BK176.out 2
      have hfz11_3:=blk_frozen BK176.out 3
      have hfz11_4:=blk_frozen BK176.out 4
      have hfz11_5:=blk_frozen BK176.out 5
      go_wp2
      repeat (go_quiet (fail);try go_wp2)
      go_meet
      case rel=>exact ⟨_,(true),(by first|rfl|(simp;done)|(simp [*];done)),H',⟨by first|omega|exact Nat.le_refl _⟩,⟨by (with_reducible repeat (first|refine blk_drewN ?_ _|refine blk_drew ?_|refine blk_alloc ?_ _));exact BK176.out⟩,⟨by repeat (first|(with_reducible first|exact HB.out|apply below_alloc|apply pw_below_drewN|apply below_drew1|refine below_set ?_ GE176.out)|exact HB.out)⟩⟩
     ·rw [if_neg c10] at H
      have c10b0 : decide (3 < a0_1) = false:=decide_eq_false c10
      clear c10
      by_cases c12 : a0_2 < 1
      ·rw [if_pos c12] at H
       have c12b0 : decide (a0_2 < 1) = true:=decide_eq_true c12
       clear c12
       have H':=Aside0.mk H
       clear H
       have hcz13_0 : w3.cell? ⟨gb176,0,none⟩ = some (.int .i64 a0_0):=(blk_cell BK176.out 0).trans rfl
       have hcz13_1 : w3.cell? ⟨gb176,1,none⟩ = some (.int .i64 a0_1):=(blk_cell BK176.out 1).trans rfl
       have hcz13_2 : w3.cell? ⟨gb176,2,none⟩ = some (.int .i64 a0_2):=(blk_cell BK176.out 2).trans rfl
       have hcz13_3 : w3.cell? ⟨gb176,3,none⟩ = some (.slice A0_3 l0_3.length c0_3):=(blk_cell BK176.out 3).trans rfl
       have hcz13_4 : w3.cell? ⟨gb176,4,none⟩ = some (.slice A0_4 l0_4.length c0_4):=(blk_cell BK176.out 4).trans rfl
       have hcz13_5 : w3.cell? ⟨gb176,5,none⟩ = some (.int .i64 a0_5):=(blk_cell BK176.out 5).trans rfl
       have hfz13_0:=blk_frozen BK176.out 0
       have hfz13_1:=blk_frozen BK176.out 1
       have hfz13_2:=blk_frozen BK176.out 2
       have hfz13_3:=blk_frozen BK176.out 3
       have hfz13_4:=blk_frozen BK176.out 4
       have hfz13_5:=blk_frozen BK176.out 5
       go_wp2
       repeat (go_quiet (fail);try go_wp2)
       go_meet
       case rel=>exact ⟨_,(true),(by first|rfl|(simp;done)|(simp [*];done)),H',⟨by first|omega|exact Nat.le_refl _⟩,⟨by (with_reducible repeat (first|refine blk_drewN ?_ _|refine blk_drew ?_|refine blk_alloc ?_ _));exact BK176.out⟩,⟨by repeat (first|(with_reducible first|exact HB.out|apply below_alloc|apply pw_below_drewN|apply below_drew1|refine below_set ?_ GE176.out)|exact HB.out)⟩⟩
      ·rw [if_neg c12] at H
       have c12b0 : decide (a0_2 < 1) = false:=decide_eq_false c12
       clear c12
       have H':=Aside0.mk H
       clear H
       have hcz14_0 : w3.cell? ⟨gb176,0,none⟩ = some (.int .i64 a0_0):=(blk_cell BK176.out 0).trans rfl
       have hcz14_1 : w3.cell? ⟨gb176,1,none⟩ = some (.int .i64 a0_1):=(blk_cell BK176.out 1).trans rfl
       have hcz14_2 : w3.cell? ⟨gb176,2,none⟩ = some (.int .i64 a0_2):=(blk_cell BK176.out 2).trans rfl
       have hcz14_3 : w3.cell? ⟨gb176,3,none⟩ = some (.slice A0_3 l0_3.length c0_3):=(blk_cell BK176.out 3).trans rfl
       have hcz14_4 : w3.cell? ⟨gb176,4,none⟩ = some (.slice A0_4 l0_4.length c0_4):=(blk_cell BK176.out 4).trans rfl
       have hcz14_5 : w3.cell? ⟨gb176,5,none⟩ = some (.int .i64 a0_5):=(blk_cell BK176.out 5).trans rfl
       have hfz14_0:=blk_frozen BK176.out 0
       have hfz14_1:=blk_frozen BK176.out 1
       have hfz14_2:=blk_frozen BK176.out 2
       have hfz14_3:=blk_frozen BK176.out 3
       have hfz14_4:=blk_frozen BK176.out 4
       have hfz14_5:=blk_frozen BK176.out 5
       go_wp2
       repeat (go_quiet (fail);try go_wp2)
       go_meet
       case rel=>exact ⟨_,(decide (a0_2 > 3)),(by first|rfl|(simp;done)|(simp [*];done)),H',⟨by first|omega|exact Nat.le_refl _⟩,⟨by (with_reducible repeat (first|refine blk_drewN ?_ _|refine blk_drew ?_|refine blk_alloc ?_ _));exact BK176.out⟩,⟨by repeat (first|(with_reducible first|exact HB.out|apply below_alloc|apply pw_below_drewN|apply below_drew1|refine below_set ?_ GE176.out)|exact HB.out)⟩⟩
 case rest =>
  clear HC2
  try clear c1
  try clear p2
  try clear c4
  try clear c4b0
  try clear c6
  try clear c6b0
  try clear c8
  try clear c8b0
  try clear c10
  try clear c10b0
  try clear c12
  try clear c12b0
  try clear hcz11_0
  try clear hcz11_1
  try clear hcz11_2
  try clear hcz11_3
  try clear hcz11_4
  try clear hcz11_5
  try clear hcz13_0
  try clear hcz13_1
  try clear hcz13_2
  try clear hcz13_3
  try clear hcz13_4
  try clear hcz13_5
  try clear hcz14_0
  try clear hcz14_1
  try clear hcz14_2
  try clear hcz14_3
  try clear hcz14_4
  try clear hcz14_5
  try clear hcz5_0
  try clear hcz5_1
  try clear hcz5_2
  try clear hcz5_3
  try clear hcz5_4
  try clear hcz5_5
  try clear hcz7_0
  try clear hcz7_1
  try clear hcz7_2
  try clear hcz7_3
  try clear hcz7_4
  try clear hcz7_5
  try clear hcz9_0
  try clear hcz9_1
  try clear hcz9_2
  try clear hcz9_3
  try clear hcz9_4
  try clear hcz9_5
  try clear hfz11_0
  try clear hfz11_1
  try clear hfz11_2
  try clear hfz11_3
  try clear hfz11_4
  try clear hfz11_5
  try clear hfz13_0
  try clear hfz13_1
  try clear hfz13_2
  try clear hfz13_3
  try clear hfz13_4
  try clear hfz13_5
  try clear hfz14_0
  try clear hfz14_1
  try clear hfz14_2
  try clear hfz14_3
  try clear hfz14_4
  try clear hfz14_5
  try clear hfz5_0
  try clear hfz5_1
  try clear hfz5_2
  try clear hfz5_3
  try clear hfz5_4
  try clear hfz5_5
  try clear hfz7_0
  try clear hfz7_1
  try clear hfz7_2
  try clear hfz7_3
  try clear hfz7_4
  try clear hfz7_5
  try clear hfz9_0
  try clear hfz9_1
  try clear hfz9_2
  try clear hfz9_3
  try clear hfz9_4
  try clear hfz9_5
  obtain ⟨kq,x39_1,rfl,HA,HJ1,BK176,HB⟩:=hcut
  cases kq with
  | zero=>exact absurd HA.out (by simp [coppicerref_TurnerCheck.j0])
  | succ kj1 =>
   have H:=HA.out
   clear HA
   simp only [coppicerref_TurnerCheck.j0] at H
   by_cases c15 : x39_1 = true
   ·subst c15
    have H1 : (some 1) = some r:=by rw [if_pos rfl] at H;exact H
    clear H
    have H:=H1
    clear H1
    obtain rfl:=Option.some.inj H
    go_wp2
    repeat (go_quiet (fail);try go_wp2)
    go_ret
    exact ⟨by first|rfl|(simp [errW_none,errW_some] <;> rfl)|(simp [*,errW_none,errW_some] <;> rfl),by repeat (first|(with_reducible first|exact HB.out|apply below_alloc|apply pw_below_drewN|apply below_drew1|refine below_set ?_ GE176.out)|exact HB.out)⟩
   ·replace c15:=Bool.eq_false_iff.mpr c15
    subst c15
    have H1 : (if (l0_3.length : Int) = a0_0 then (coppicerref_TurnerCheck.j1 kj1 ((l0_4.length : Int) != a0_0) a0_0 a0_1 a0_2 l0_3 l0_4 a0_5) else (coppicerref_TurnerCheck.j1 kj1 true a0_0 a0_1 a0_2 l0_3 l0_4 a0_5)) = some r:=by rw [if_neg (show ¬ (false = true) by decide)] at H;exact H
    clear H
    have H:=H1
    clear H1
    have HC16:=Aside0.mk H
    clear H
    go_upto_region 3 with (fail)
    repeat (go_quiet (fail);go_upto_region 3 with (fail))
    go_cut [53] (fun v53 wc=>∃ (kq : Nat) (x53_15 : Bool),v53 = .bool x53_15 ∧ Aside0 (coppicerref_TurnerCheck.j1 kq x53_15 a0_0 a0_1 a0_2 l0_3 l0_4 a0_5 = some r) ∧ Aside0 (kq ≤ kj1) ∧ Aside0 (wc.heap[gb176]? = some (.cells #[.int .i64 a0_0,.int .i64 a0_1,.int .i64 a0_2,(.slice A0_3 l0_3.length c0_3),(.slice A0_4 l0_4.length c0_4),.int .i64 a0_5] 25 (0,0))) ∧ Aside0 (Below w.heap.size w wc))
    case first =>
     have H:=HC16.out
     clear HC16
     by_cases c17 : (l0_3.length : Int) = a0_0
     ·rw [if_pos c17] at H
      have c17b0 : ((l0_3.length : Int) == a0_0) = true:=beq_iff_eq.mpr c17
      have c17b1 : ((l0_3.length : Int) != a0_0) = false:=bne_eq_false_iff_eq.mpr c17
      clear c17
      (first|rw [c17b0]|(simp only [i64_w,i32_w];rw [c17b0])|skip)
      have H':=Aside0.mk H
      clear H
      have hcz18_0 : wc.cell? ⟨gb176,0,none⟩ = some (.int .i64 a0_0):=(blk_cell BK176.out 0).trans rfl
      have hcz18_1 : wc.cell? ⟨gb176,1,none⟩ = some (.int .i64 a0_1):=(blk_cell BK176.out 1).trans rfl
      have hcz18_2 : wc.cell? ⟨gb176,2,none⟩ = some (.int .i64 a0_2):=(blk_cell BK176.out 2).trans rfl
      have hcz18_3 : wc.cell? ⟨gb176,3,none⟩ = some (.slice A0_3 l0_3.length c0_3):=(blk_cell BK176.out 3).trans rfl
      have hcz18_4 : wc.cell? ⟨gb176,4,none⟩ = some (.slice A0_4 l0_4.length c0_4):=(blk_cell BK176.out 4).trans rfl
      have hcz18_5 : wc.cell? ⟨gb176,5,none⟩ = some (.int .i64 a0_5):=(blk_cell BK176.out 5).trans rfl
      have hfz18_0:=blk_frozen BK176.out 0
      have hfz18_1:=blk_frozen BK176.out 1
      have hfz18_2:=blk_frozen BK176.out 2
      have hfz18_3:=blk_frozen BK176.out 3
      have hfz18_4:=blk_frozen BK176.out 4
      have hfz18_5:=blk_frozen BK176.out 5
      go_wp2
      repeat (go_quiet (fail);try go_wp2)
      go_meet
      case rel=>exact ⟨_,(((l0_4.length : Int) != a0_0)),(by first|rfl|(simp;done)|(simp [*];done)),H',⟨by have:=HJ1.out;first|omega|exact Nat.le_refl _⟩,⟨by (with_reducible repeat (first|refine blk_drewN ?_ _|refine blk_drew ?_|refine blk_alloc ?_ _));exact BK176.out⟩,⟨by repeat (first|(with_reducible first|exact HB.out|apply below_alloc|apply pw_below_drewN|apply below_drew1|refine below_set ?_ GE176.out)|exact HB.out)⟩⟩
     ·rw [if_neg c17] at H
      have c17b0 : ((l0_3.length : Int) == a0_0) = false:=beq_eq_false_iff_ne.mpr c17
      have c17b1 : ((l0_3.length : Int) != a0_0) = true:=bne_iff_ne.mpr c17
      (first|rw [c17b0]|(simp only [i64_w,i32_w];rw [c17b0])|skip)
      have H':=Aside0.mk H
      clear H
      have hcz19_0 : wc.cell? ⟨gb176,0,none⟩ = some (.int .i64 a0_0):=(blk_cell BK176.out 0).trans rfl
      have hcz19_1 : wc.cell? ⟨gb176,1,none⟩ = some (.int .i64 a0_1):=(blk_cell BK176.out 1).trans rfl
      have hcz19_2 : wc.cell? ⟨gb176,2,none⟩ = some (.int .i64 a0_2):=(blk_cell BK176.out 2).trans rfl
      have hcz19_3 : wc.cell? ⟨gb176,3,none⟩ = some (.slice A0_3 l0_3.length c0_3):=(blk_cell BK176.out 3).trans rfl
      have hcz19_4 : wc.cell? ⟨gb176,4,none⟩ = some (.slice A0_4 l0_4.length c0_4):=(blk_cell BK176.out 4).trans rfl
      have hcz19_5 : wc.cell? ⟨gb176,5,none⟩ = some (.int .i64 a0_5):=(blk_cell BK176.out 5).trans rfl
      have hfz19_0:=blk_frozen BK176.out 0
      have hfz19_1:=blk_frozen BK176.out 1
      have hfz19_2:=blk_frozen BK176.out 2
      have hfz19_3:=blk_frozen BK176.out 3
      have hfz19_4:=blk_frozen BK176.out 4
      have hfz19_5:=blk_frozen BK176.out 5
      go_wp2
      repeat (go_quiet (fail);try go_wp2)
      go_meet
      case rel=>exact ⟨_,(true),(by first|rfl|(simp;done)|(simp [*];done)),H',⟨by have:=HJ1.out;first|omega|exact Nat.le_refl _⟩,⟨by (with_reducible repeat (first|refine blk_drewN ?_ _|refine blk_drew ?_|refine blk_alloc ?_ _));exact BK176.out⟩,⟨by repeat (first|(with_reducible first|exact HB.out|apply below_alloc|apply pw_below_drewN|apply below_drew1|refine below_set ?_ GE176.out)|exact HB.out)⟩⟩
    case rest =>
     clear HC16
     try clear c1
     try clear p2
     try clear c4
     try clear c4b0
     try clear c6
     try clear c6b0
     try clear c8
     try clear c8b0
     try clear c10
     try clear c10b0
     try clear c12
     try clear c12b0
     try clear c15
     try clear c17
     try clear c17b0
     try clear c17b1
     try clear hcz11_0
     try clear hcz11_1
     try clear hcz11_2
     try clear hcz11_3
     try clear hcz11_4
     try clear hcz11_5
     try clear hcz13_0
     try clear hcz13_1
     try clear hcz13_2
     try clear hcz13_3
     try clear hcz13_4
     try clear hcz13_5
     try clear hcz14_0
     try clear hcz14_1
     try clear hcz14_2
     try clear hcz14_3
     try clear hcz14_4
     try clear hcz14_5
     try clear hcz18_0
     try clear hcz18_1
     try clear hcz18_2
     try clear hcz18_3
     try clear hcz18_4
     try clear hcz18_5
     try clear hcz19_0
     try clear hcz19_1
     try clear hcz19_2
     try clear hcz19_3
     try clear hcz19_4
     try clear hcz19_5
     try clear hcz5_0
     try clear hcz5_1
     try clear hcz5_2
     try clear hcz5_3
     try clear hcz5_4
     try clear hcz5_5
     try clear hcz7_0
     try clear hcz7_1
     try clear hcz7_2
     try clear hcz7_3
     try clear hcz7_4
     try clear hcz7_5
     try clear hcz9_0
     try clear hcz9_1
     try clear hcz9_2
     try clear hcz9_3
     try clear hcz9_4
     try clear hcz9_5
     try clear hfz11_0
     try clear hfz11_1
     try clear hfz11_2
     try clear hfz11_3
     try clear hfz11_4
     try clear hfz11_5
     try clear hfz13_0
     try clear hfz13_1
     try clear hfz13_2
     try clear hfz13_3
     try clear hfz13_4
     try clear hfz13_5
     try clear hfz14_0
     try clear hfz14_1
     try clear hfz14_2
     try clear hfz14_3
     try clear hfz14_4
     try clear hfz14_5
     try clear hfz18_0
     try clear hfz18_1
     try clear hfz18_2
     try clear hfz18_3
     try clear hfz18_4
     try clear hfz18_5
     try clear hfz19_0
     try clear hfz19_1
     try clear hfz19_2
     try clear hfz19_3
     try clear hfz19_4
     try clear hfz19_5
     try clear hfz5_0
     try clear hfz5_1
     try clear hfz5_2
     try clear hfz5_3
     try clear hfz5_4
     try clear hfz5_5
     try clear hfz7_0
     try clear hfz7_1
     try clear hfz7_2
     try clear hfz7_3
     try clear hfz7_4
     try clear hfz7_5
     try clear hfz9_0
     try clear hfz9_1
     try clear hfz9_2
     try clear hfz9_3
     try clear hfz9_4
     try clear hfz9_5
     try clear p2
     obtain ⟨kq,x53_15,rfl,HA,HJ15,BK176,HB⟩:=hcut
     cases kq with
     | zero=>exact absurd HA.out (by simp [coppicerref_TurnerCheck.j1])
     | succ kj15 =>
      have H:=HA.out
      clear HA
      simp only [coppicerref_TurnerCheck.j1] at H
      by_cases c20 : x53_15 = true
      ·subst c20
       have H1 : (some 3) = some r:=by rw [if_pos rfl] at H;exact H
       clear H
       have H:=H1
       clear H1
       obtain rfl:=Option.some.inj H
       go_wp2
       repeat (go_quiet (fail);try go_wp2)
       go_ret
       exact ⟨by first|rfl|(simp [errW_none,errW_some] <;> rfl)|(simp [*,errW_none,errW_some] <;> rfl),by repeat (first|(with_reducible first|exact HB.out|apply below_alloc|apply pw_below_drewN|apply below_drew1|refine below_set ?_ GE176.out)|exact HB.out)⟩
      ·replace c20:=Bool.eq_false_iff.mpr c20
       subst c20
       have H1 : (coppicerref_TurnerCheck.l0 kj15 0 a0_0 a0_1 a0_2 l0_3 l0_4 a0_5) = some r:=by rw [if_neg (show ¬ (false = true) by decide)] at H;exact H
       clear H
       have H:=H1
       clear H1
       have H':=Aside0.mk H
       clear H
       go_wp2
       repeat (go_quiet (fail);try go_wp2)
       go_loopg [3] kj15 (fun kq v3 w'=>∃ (x3_3 : Int),v3 = .int .i64 x3_3 ∧ Aside0 (coppicerref_TurnerCheck.l0 kq x3_3 a0_0 a0_1 a0_2 l0_3 l0_4 a0_5 = some r) ∧ Aside0 (kq ≤ kj15) ∧ Aside0 (w'.heap[gb176]? = some (.cells #[.int .i64 a0_0,.int .i64 a0_1,.int .i64 a0_2,(.slice A0_3 l0_3.length c0_3),(.slice A0_4 l0_4.length c0_4),.int .i64 a0_5] 25 (0,0))) ∧ Aside0 (Below w.heap.size w w'))
       case atStart=>exact ⟨(0),(by first|rfl|(simp;done)|(simp [*];done)),H',⟨Nat.le_refl _⟩,⟨by (with_reducible repeat (first|refine blk_drewN ?_ _|refine blk_drew ?_|refine blk_alloc ?_ _));exact BK176.out⟩,⟨by repeat (first|(with_reducible first|exact HB.out|apply below_alloc|apply pw_below_drewN|apply below_drew1|refine below_set ?_ GE176.out)|exact HB.out)⟩⟩
       case round =>
        clear H'
        try clear c1
        try clear c2
        try clear p2
        try clear c4
        try clear c4b0
        try clear c6
        try clear c6b0
        try clear c8
        try clear c8b0
        try clear c10
        try clear c10b0
        try clear c12
        try clear c12b0
        try clear c15
        try clear c17
        try clear c17b0
        try clear c17b1
        try clear c20
        try clear hcz11_0
        try clear hcz11_1
        try clear hcz11_2
        try clear hcz11_3
        try clear hcz11_4
        try clear hcz11_5
        try clear hcz13_0
        try clear hcz13_1
        try clear hcz13_2
        try clear hcz13_3
        try clear hcz13_4
        try clear hcz13_5
        try clear hcz14_0
        try clear hcz14_1
        try clear hcz14_2
        try clear hcz14_3
        try clear hcz14_4
        try clear hcz14_5
        try clear hcz18_0
        try clear hcz18_1
        try clear hcz18_2
        try clear hcz18_3
        try clear hcz18_4
        try clear hcz18_5
        try clear hcz19_0
        try clear hcz19_1
        try clear hcz19_2
        try clear hcz19_3
        try clear hcz19_4
        try clear hcz19_5
        try clear hcz5_0
        try clear hcz5_1
        try clear hcz5_2
        try clear hcz5_3
        try clear hcz5_4
        try clear hcz5_5
        try clear hcz7_0
        try clear hcz7_1
        try clear hcz7_2
        try clear hcz7_3
        try clear hcz7_4
        try clear hcz7_5
        try clear hcz9_0
        try clear hcz9_1
        try clear hcz9_2
        try clear hcz9_3
        try clear hcz9_4
        try clear hcz9_5
        try clear hfz11_0
        try clear hfz11_1
        try clear hfz11_2
        try clear hfz11_3
        try clear hfz11_4
        try clear hfz11_5
        try clear hfz13_0
        try clear hfz13_1
        try clear hfz13_2
        try clear hfz13_3
        try clear hfz13_4
        try clear hfz13_5
        try clear hfz14_0
        try clear hfz14_1
        try clear hfz14_2
        try clear hfz14_3
        try clear hfz14_4
        try clear hfz14_5
        try clear hfz18_0
        try clear hfz18_1
        try clear hfz18_2
        try clear hfz18_3
        try clear hfz18_4
        try clear hfz18_5
        try clear hfz19_0
        try clear hfz19_1
        try clear hfz19_2
        try clear hfz19_3
        try clear hfz19_4
        try clear hfz19_5
        try clear hfz5_0
        try clear hfz5_1
        try clear hfz5_2
        try clear hfz5_3
        try clear hfz5_4
        try clear hfz5_5
        try clear hfz7_0
        try clear hfz7_1
        try clear hfz7_2
        try clear hfz7_3
        try clear hfz7_4
        try clear hfz7_5
        try clear hfz9_0
        try clear hfz9_1
        try clear hfz9_2
        try clear hfz9_3
        try clear hfz9_4
        try clear hfz9_5
        try clear p2
        obtain ⟨x3_3,rfl,HA,HK3,BK176,HB⟩:=hrel
        cases gk with
        | zero=>exact absurd HA.out (by simp [coppicerref_TurnerCheck.l0])
        | succ k3 =>
         have H:=HA.out
         clear HA
         simp only [coppicerref_TurnerCheck.l0] at H
         by_cases c21 : x3_3 < a0_0
         ·rw [if_pos c21] at H
          have c21b0 : decide (x3_3 < a0_0) = true:=decide_eq_true c21
          clear c21
          by_cases c22 : 0 ≤ x3_3
          ·rw [if_pos c22] at H
           have c22b0 : decide (0 ≤ x3_3) = true:=decide_eq_true c22
           clear c22
           by_cases c23 : x3_3 < (l0_3.length : Int)
           ·rw [if_pos c23] at H
            have c23b0 : decide (x3_3 < (l0_3.length : Int)) = true:=decide_eq_true c23
            clear c23
            by_cases c24 : ((rd_L1 l0_3 x3_3).length : Int) = a0_1
            ·rw [if_pos c24] at H
             have c24b0 : (((rd_L1 l0_3 x3_3).length : Int) == a0_1) = true:=beq_iff_eq.mpr c24
             have c24b1 : (((rd_L1 l0_3 x3_3).length : Int) != a0_1) = false:=bne_eq_false_iff_eq.mpr c24
             clear c24
             by_cases c25 : x3_3 < (l0_4.length : Int)
             ·rw [if_pos c25] at H
              have c25b0 : decide (x3_3 < (l0_4.length : Int)) = true:=decide_eq_true c25
              clear c25
              by_cases c26 : ((rd_L2 l0_4 x3_3).length : Int) = a0_1
              ·rw [if_pos c26] at H
               have c26b0 : (((rd_L2 l0_4 x3_3).length : Int) == a0_1) = true:=beq_iff_eq.mpr c26
               have c26b1 : (((rd_L2 l0_4 x3_3).length : Int) != a0_1) = false:=bne_eq_false_iff_eq.mpr c26
               clear c26
               have H':=Aside0.mk H
               clear H
               have hcz27_0 : wr.cell? ⟨gb176,0,none⟩ = some (.int .i64 a0_0):=(blk_cell BK176.out 0).trans rfl
               have hcz27_1 : wr.cell? ⟨gb176,1,none⟩ = some (.int .i64 a0_1):=(blk_cell BK176.out 1).trans rfl
               have hcz27_2 : wr.cell? ⟨gb176,2,none⟩ = some (.int .i64 a0_2):=(blk_cell BK176.out 2).trans rfl
               have hcz27_3 : wr.cell? ⟨gb176,3,none⟩ = some (.slice A0_3 l0_3.length c0_3):=(blk_cell BK176.out 3).trans rfl
               have hcz27_4 : wr.cell? ⟨gb176,4,none⟩ = some (.slice A0_4 l0_4.length c0_4):=(blk_cell BK176.out 4).trans rfl
               have hcz27_5 : wr.cell? ⟨gb176,5,none⟩ = some (.int .i64 a0_5):=(blk_cell BK176.out 5).trans rfl
               have hfz27_0:=blk_frozen BK176.out 0
               have hfz27_1:=blk_frozen BK176.out 1
               have hfz27_2:=blk_frozen BK176.out 2
               have hfz27_3:=blk_frozen BK176.out 3
               have hfz27_4:=blk_frozen BK176.out 4
               have hfz27_5:=blk_frozen BK176.out 5
               have p177 : 0 ≤ (x3_3 : Int):=of_decide_eq_true (by first|(with_reducible assumption)|assumption)
               have q177 : x3_3 < (l0_3.length : Int):=of_decide_eq_true (by first|(with_reducible assumption)|assumption)
               obtain ⟨ad177,A177_0,c177_0,e177,hx177_0,hl177_0,hi177_0⟩:=at_L1 HR0_3.out x3_3 p177 q177
               cases e177
               replace hx177_0:=(HB.out.cell (World.block_lt_of_cell? w _ hx177_0)).trans hx177_0
               have HR177_0:=Aside0.mk hi177_0
               have HC177_0:=Aside0.mk hl177_0
               clear hi177_0 hl177_0
               replace p177:=eq_true p177
               replace q177:=eq_true q177
               have p178 : 0 ≤ (x3_3 : Int):=of_decide_eq_true (by first|(with_reducible assumption)|assumption)
               have q178 : x3_3 < (l0_4.length : Int):=of_decide_eq_true (by first|(with_reducible assumption)|assumption)
               obtain ⟨ad178,A178_0,c178_0,e178,hx178_0,hl178_0,hi178_0⟩:=at_L2 HR0_4.out x3_3 p178 q178
               cases e178
               replace hx178_0:=(HB.out.cell (World.block_lt_of_cell? w _ hx178_0)).trans hx178_0
               have HR178_0:=Aside0.mk hi178_0
               have HC178_0:=Aside0.mk hl178_0
               clear hi178_0 hl178_0
               replace p178:=eq_true p178
               replace q178:=eq_true q178
               go_wp2
               repeat (go_quiet (fail);try go_wp2)
               go_roundg k3
               case measure=>have:=HJ1.out;have:=HJ15.out;have:=HK3.out;omega
               case rel=>exact ⟨(wrap64 (x3_3 + 1)),(by first|rfl|(simp;done)|(simp [*];done)),H',⟨by have:=HJ1.out;have:=HJ15.out;have:=HK3.out;omega⟩,⟨by (with_reducible repeat (first|refine blk_drewN ?_ _|refine blk_drew ?_|refine blk_alloc ?_ _));exact BK176.out⟩,⟨by repeat (first|(with_reducible first|exact HB.out|apply below_alloc|apply pw_below_drewN|apply below_drew1|refine below_set ?_ GE176.out)|exact HB.out)⟩⟩
              ·rw [if_neg c26] at H
               have c26b0 : (((rd_L2 l0_4 x3_3).length : Int) == a0_1) = false:=beq_eq_false_iff_ne.mpr c26
               have c26b1 : (((rd_L2 l0_4 x3_3).length : Int) != a0_1) = true:=bne_iff_ne.mpr c26
               obtain rfl:=Option.some.inj H
               have hcz28_0 : wr.cell? ⟨gb176,0,none⟩ = some (.int .i64 a0_0):=(blk_cell BK176.out 0).trans rfl
               have hcz28_1 : wr.cell? ⟨gb176,1,none⟩ = some (.int .i64 a0_1):=(blk_cell BK176.out 1).trans rfl
               have hcz28_2 : wr.cell? ⟨gb176,2,none⟩ = some (.int .i64 a0_2):=(blk_cell BK176.out 2).trans rfl
               have hcz28_3 : wr.cell? ⟨gb176,3,none⟩ = some (.slice A0_3 l0_3.length c0_3):=(blk_cell BK176.out 3).trans rfl
               have hcz28_4 : wr.cell? ⟨gb176,4,none⟩ = some (.slice A0_4 l0_4.length c0_4):=(blk_cell BK176.out 4).trans rfl
               have hcz28_5 : wr.cell? ⟨gb176,5,none⟩ = some (.int .i64 a0_5):=(blk_cell BK176.out 5).trans rfl
               have hfz28_0:=blk_frozen BK176.out 0
               have hfz28_1:=blk_frozen BK176.out 1
               have hfz28_2:=blk_frozen BK176.out 2
               have hfz28_3:=blk_frozen BK176.out 3
               have hfz28_4:=blk_frozen BK176.out 4
               have hfz28_5:=blk_frozen BK176.out 5
               have p177 : 0 ≤ (x3_3 : Int):=of_decide_eq_true (by first|(with_reducible assumption)|assumption)
               have q177 : x3_3 < (l0_3.length : Int):=of_decide_eq_true (by first|(with_reducible assumption)|assumption)
               obtain ⟨ad177,A177_0,c177_0,e177,hx177_0,hl177_0,hi177_0⟩:=at_L1 HR0_3.out x3_3 p177 q177
               cases e177
               replace hx177_0:=(HB.out.cell (World.block_lt_of_cell? w _ hx177_0)).trans hx177_0
               have HR177_0:=Aside0.mk hi177_0
               have HC177_0:=Aside0.mk hl177_0
               clear hi177_0 hl177_0
               replace p177:=eq_true p177
               replace q177:=eq_true q177
               have p178 : 0 ≤ (x3_3 : Int):=of_decide_eq_true (by first|(with_reducible assumption)|assumption)
               have q178 : x3_3 < (l0_4.length : Int):=of_decide_eq_true (by first|(with_reducible assumption)|assumption)
               obtain ⟨ad178,A178_0,c178_0,e178,hx178_0,hl178_0,hi178_0⟩:=at_L2 HR0_4.out x3_3 p178 q178
               cases e178
               replace hx178_0:=(HB.out.cell (World.block_lt_of_cell? w _ hx178_0)).trans hx178_0
               have HR178_0:=Aside0.mk hi178_0
               have HC178_0:=Aside0.mk hl178_0
               clear hi178_0 hl178_0
               replace p178:=eq_true p178
               replace q178:=eq_true q178
               go_wp2
               repeat (go_quiet (fail);try go_wp2)
               go_ret
               exact ⟨by first|rfl|(simp [errW_none,errW_some] <;> rfl)|(simp [*,errW_none,errW_some] <;> rfl),by repeat (first|(with_reducible first|exact HB.out|apply below_alloc|apply pw_below_drewN|apply below_drew1|refine below_set ?_ GE176.out)|exact HB.out)⟩
             ·rw [if_neg c25] at H
              exact absurd H (by simp)
            ·rw [if_neg c24] at H
             have c24b0 : (((rd_L1 l0_3 x3_3).length : Int) == a0_1) = false:=beq_eq_false_iff_ne.mpr c24
             have c24b1 : (((rd_L1 l0_3 x3_3).length : Int) != a0_1) = true:=bne_iff_ne.mpr c24
             obtain rfl:=Option.some.inj H
             have hcz29_0 : wr.cell? ⟨gb176,0,none⟩ = some (.int .i64 a0_0):=(blk_cell BK176.out 0).trans rfl
             have hcz29_1 : wr.cell? ⟨gb176,1,none⟩ = some (.int .i64 a0_1):=(blk_cell BK176.out 1).trans rfl
             have hcz29_2 : wr.cell? ⟨gb176,2,none⟩ = some (.int .i64 a0_2):=(blk_cell BK176.out 2).trans rfl
             have hcz29_3 : wr.cell? ⟨gb176,3,none⟩ = some (.slice A0_3 l0_3.length c0_3):=(blk_cell BK176.out 3).trans rfl
             have hcz29_4 : wr.cell? ⟨gb176,4,none⟩ = some (.slice A0_4 l0_4.length c0_4):=(blk_cell BK176.out 4).trans rfl
             have hcz29_5 : wr.cell? ⟨gb176,5,none⟩ = some (.int .i64 a0_5):=(blk_cell BK176.out 5).trans rfl
             have hfz29_0:=blk_frozen BK176.out 0
             have hfz29_1:=blk_frozen BK176.out 1
             have hfz29_2:=blk_frozen BK176.out 2
             have hfz29_3:=blk_frozen BK176.out 3
             have hfz29_4:=blk_frozen BK176.out 4
             have hfz29_5:=blk_frozen BK176.out 5
             have p177 : 0 ≤ (x3_3 : Int):=of_decide_eq_true (by first|(with_reducible assumption)|assumption)
             have q177 : x3_3 < (l0_3.length : Int):=of_decide_eq_true (by first|(with_reducible assumption)|assumption)
             obtain ⟨ad177,A177_0,c177_0,e177,hx177_0,hl177_0,hi177_0⟩:=at_L1 HR0_3.out x3_3 p177 q177
             cases e177
             replace hx177_0:=(HB.out.cell (World.block_lt_of_cell? w _ hx177_0)).trans hx177_0
             have HR177_0:=Aside0.mk hi177_0
             have HC177_0:=Aside0.mk hl177_0
             clear hi177_0 hl177_0
             replace p177:=eq_true p177
             replace q177:=eq_true q177
             go_wp2
             repeat (go_quiet (fail);try go_wp2)
             go_ret
             exact ⟨by first|rfl|(simp [errW_none,errW_some] <;> rfl)|(simp [*,errW_none,errW_some] <;> rfl),by repeat (first|(with_reducible first|exact HB.out|apply below_alloc|apply pw_below_drewN|apply below_drew1|refine below_set ?_ GE176.out)|exact HB.out)⟩
           ·rw [if_neg c23] at H
            exact absurd H (by simp)
          ·rw [if_neg c22] at H
           exact absurd H (by simp)
         ·rw [if_neg c21] at H
          have c21b0 : decide (x3_3 < a0_0) = false:=decide_eq_false c21
          clear c21
          have H':=Aside0.mk H
          clear H
          have hcz30_0 : wr.cell? ⟨gb176,0,none⟩ = some (.int .i64 a0_0):=(blk_cell BK176.out 0).trans rfl
          have hcz30_1 : wr.cell? ⟨gb176,1,none⟩ = some (.int .i64 a0_1):=(blk_cell BK176.out 1).trans rfl
          have hcz30_2 : wr.cell? ⟨gb176,2,none⟩ = some (.int .i64 a0_2):=(blk_cell BK176.out 2).trans rfl
          have hcz30_3 : wr.cell? ⟨gb176,3,none⟩ = some (.slice A0_3 l0_3.length c0_3):=(blk_cell BK176.out 3).trans rfl
          have hcz30_4 : wr.cell? ⟨gb176,4,none⟩ = some (.slice A0_4 l0_4.length c0_4):=(blk_cell BK176.out 4).trans rfl
          have hcz30_5 : wr.cell? ⟨gb176,5,none⟩ = some (.int .i64 a0_5):=(blk_cell BK176.out 5).trans rfl
          have hfz30_0:=blk_frozen BK176.out 0
          have hfz30_1:=blk_frozen BK176.out 1
          have hfz30_2:=blk_frozen BK176.out 2
          have hfz30_3:=blk_frozen BK176.out 3
          have hfz30_4:=blk_frozen BK176.out 4
          have hfz30_5:=blk_frozen BK176.out 5
          go_wp2
          repeat (go_quiet (fail);try go_wp2)
          go_loopg [4] k3 (fun kq v4 w'=>∃ (x4_4 : Int),v4 = .int .i64 x4_4 ∧ Aside0 (coppicerref_TurnerCheck.l1 kq x4_4 a0_0 a0_1 a0_2 l0_3 l0_4 a0_5 = some r) ∧ Aside0 (kq ≤ k3) ∧ Aside0 (w'.heap[gb176]? = some (.cells #[.int .i64 a0_0,.int .i64 a0_1,.int .i64 a0_2,(.slice A0_3 l0_3.length c0_3),(.slice A0_4 l0_4.length c0_4),.int .i64 a0_5] 25 (0,0))) ∧ Aside0 (Below w.heap.size w w'))
          case atStart=>exact ⟨(0),(by first|rfl|(simp;done)|(simp [*];done)),H',⟨Nat.le_refl _⟩,⟨by (with_reducible repeat (first|refine blk_drewN ?_ _|refine blk_drew ?_|refine blk_alloc ?_ _));exact BK176.out⟩,⟨by repeat (first|(with_reducible first|exact HB.out|apply below_alloc|apply pw_below_drewN|apply below_drew1|refine below_set ?_ GE176.out)|exact HB.out)⟩⟩
          case round =>
           clear H'
           try clear c1
           try clear p1
           try clear q1
           try clear hx1
           try clear c2
           try clear p2
           try clear c4
           try clear c4b0
           try clear c6
           try clear c6b0
           try clear p6
           try clear c8
           try clear c8b0
           try clear c10
           try clear c10b0
           try clear c12
           try clear c12b0
           try clear c15
           try clear c17
           try clear c17b0
           try clear c17b1
           try clear p17
           try clear q17
           try clear hx17
           try clear c20
           try clear c21
           try clear c21b0
           try clear c22
           try clear c22b0
           try clear c23
           try clear c23b0
           try clear c24
           try clear c24b0
           try clear c24b1
           try clear c25
           try clear c25b0
           try clear c26
           try clear c26b0
           try clear c26b1
           try clear hcz11_0
           try clear hcz11_1
           try clear hcz11_2
           try clear hcz11_3
           try clear hcz11_4
           try clear hcz11_5
           try clear hcz13_0
           try clear hcz13_1
           try clear hcz13_2
           try clear hcz13_3
           try clear hcz13_4
           try clear hcz13_5
           try clear hcz14_0
           try clear hcz14_1
           try clear hcz14_2
           try clear hcz14_3
           try clear hcz14_4
           try clear hcz14_5
           try clear hcz18_0
           try clear hcz18_1
           try clear hcz18_2
           try clear hcz18_3
           try clear hcz18_4
           try clear hcz18_5
           try clear hcz19_0
           try clear hcz19_1
           try clear hcz19_2
           try clear hcz19_3
           try clear hcz19_4
           try clear hcz19_5
           try clear hcz27_0
           try clear hcz27_1
           try clear hcz27_2
           try clear hcz27_3
           try clear hcz27_4
           try clear hcz27_5
           try clear hcz28_0
           try clear hcz28_1
           try clear hcz28_2
           try clear hcz28_3
           try clear hcz28_4
           try clear hcz28_5
           try clear hcz29_0
           try clear hcz29_1
           try clear hcz29_2
           try clear hcz29_3
           try clear hcz29_4
           try clear hcz29_5
           try clear hcz30_0
           try clear hcz30_1
           try clear hcz30_2
           try clear hcz30_3
           try clear hcz30_4
           try clear hcz30_5
           try clear hcz5_0
           try clear hcz5_1
           try clear hcz5_2
           try clear hcz5_3
           try clear hcz5_4
           try clear hcz5_5
           try clear hcz7_0
           try clear hcz7_1
           try clear hcz7_2
           try clear hcz7_3
           try clear hcz7_4
           try clear hcz7_5
           try clear hcz9_0
           try clear hcz9_1
           try clear hcz9_2
           try clear hcz9_3
           try clear hcz9_4
           try clear hcz9_5
           try clear hfz11_0
           try clear hfz11_1
           try clear hfz11_2
           try clear hfz11_3
           try clear hfz11_4
           try clear hfz11_5
           try clear hfz13_0
           try clear hfz13_1
           try clear hfz13_2
           try clear hfz13_3
           try clear hfz13_4
           try clear hfz13_5
           try clear hfz14_0
           try clear hfz14_1
           try clear hfz14_2
           try clear hfz14_3
           try clear hfz14_4
           try clear hfz14_5
           try clear hfz18_0
           try clear hfz18_1
           try clear hfz18_2
           try clear hfz18_3
           try clear hfz18_4
           try clear hfz18_5
           try clear hfz19_0
           try clear hfz19_1
           try clear hfz19_2
           try clear hfz19_3
           try clear hfz19_4
           try clear hfz19_5
           try clear hfz27_0
           try clear hfz27_1
           try clear hfz27_2
           try clear hfz27_3
           try clear hfz27_4
           try clear hfz27_5
           try clear hfz28_0
           try clear hfz28_1
           try clear hfz28_2
           try clear hfz28_3
           try clear hfz28_4
           try clear hfz28_5
           try clear hfz29_0
           try clear hfz29_1
           try clear hfz29_2
           try clear hfz29_3
           try clear hfz29_4
           try clear hfz29_5
           try clear hfz30_0
           try clear hfz30_1
           try clear hfz30_2
           try clear hfz30_3
           try clear hfz30_4
           try clear hfz30_5
           try clear hfz5_0
           try clear hfz5_1
           try clear hfz5_2
           try clear hfz5_3
           try clear hfz5_4
           try clear hfz5_5
           try clear hfz7_0
           try clear hfz7_1
           try clear hfz7_2
           try clear hfz7_3
           try clear hfz7_4
           try clear hfz7_5
           try clear hfz9_0
           try clear hfz9_1
           try clear hfz9_2
           try clear hfz9_3
           try clear hfz9_4
           try clear hfz9_5
           try clear hx177_0
           try clear hx178_0
           try clear p177
           try clear p178
           try clear p2
           try clear q177
           try clear q178
           obtain ⟨x4_4,rfl,HA,HK4,BK176,HB⟩:=hrel
           cases gk with
           | zero=>exact absurd HA.out (by simp [coppicerref_TurnerCheck.l1])
           | succ k4 =>
            have H:=HA.out
            clear HA
            simp only [coppicerref_TurnerCheck.l1] at H
            by_cases c31 : x4_4 < a0_0
            ·rw [if_pos c31] at H
             have c31b0 : decide (x4_4 < a0_0) = true:=decide_eq_true c31
             clear c31
             by_cases c32 : 0 ≤ x4_4
             ·rw [if_pos c32] at H
              have c32b0 : decide (0 ≤ x4_4) = true:=decide_eq_true c32
              clear c32
              by_cases c33 : x4_4 < (l0_4.length : Int)
              ·rw [if_pos c33] at H
               have c33b0 : decide (x4_4 < (l0_4.length : Int)) = true:=decide_eq_true c33
               clear c33
               have H':=Aside0.mk H
               clear H
               have hcz34_0 : wr.cell? ⟨gb176,0,none⟩ = some (.int .i64 a0_0):=(blk_cell BK176.out 0).trans rfl
               have hcz34_1 : wr.cell? ⟨gb176,1,none⟩ = some (.int .i64 a0_1):=(blk_cell BK176.out 1).trans rfl
               have hcz34_2 : wr.cell? ⟨gb176,2,none⟩ = some (.int .i64 a0_2):=(blk_cell BK176.out 2).trans rfl
               have hcz34_3 : wr.cell? ⟨gb176,3,none⟩ = some (.slice A0_3 l0_3.length c0_3):=(blk_cell BK176.out 3).trans rfl
               have hcz34_4 : wr.cell? ⟨gb176,4,none⟩ = some (.slice A0_4 l0_4.length c0_4):=(blk_cell BK176.out 4).trans rfl
               have hcz34_5 : wr.cell? ⟨gb176,5,none⟩ = some (.int .i64 a0_5):=(blk_cell BK176.out 5).trans rfl
               have hfz34_0:=blk_frozen BK176.out 0
               have hfz34_1:=blk_frozen BK176.out 1
               have hfz34_2:=blk_frozen BK176.out 2
               have hfz34_3:=blk_frozen BK176.out 3
               have hfz34_4:=blk_frozen BK176.out 4
               have hfz34_5:=blk_frozen BK176.out 5
               have p179 : 0 ≤ (x4_4 : Int):=of_decide_eq_true (by first|(with_reducible assumption)|assumption)
               have q179 : x4_4 < (l0_4.length : Int):=of_decide_eq_true (by first|(with_reducible assumption)|assumption)
               obtain ⟨ad179,A179_0,c179_0,e179,hx179_0,hl179_0,hi179_0⟩:=at_L2 HR0_4.out x4_4 p179 q179
               cases e179
               replace hx179_0:=(HB.out.cell (World.block_lt_of_cell? w _ hx179_0)).trans hx179_0
               have HR179_0:=Aside0.mk hi179_0
               have HC179_0:=Aside0.mk hl179_0
               clear hi179_0 hl179_0
               replace p179:=eq_true p179
               replace q179:=eq_true q179
               go_wp2
               repeat (go_quiet (fail);try go_wp2)
               go_loopg [92] k4 (fun kq v92 w'=>∃ (x92_5 : Int),v92 = .int .i64 x92_5 ∧ Aside0 (coppicerref_TurnerCheck.l2 kq x4_4 (rd_L2 l0_4 x4_4) ((rd_L2 l0_4 x4_4).length : Int) x92_5 a0_0 a0_1 a0_2 l0_3 l0_4 a0_5 = some r) ∧ Aside0 (kq ≤ k4) ∧ Aside0 (w'.heap[gb176]? = some (.cells #[.int .i64 a0_0,.int .i64 a0_1,.int .i64 a0_2,(.slice A0_3 l0_3.length c0_3),(.slice (some ad179) l0_4.length c0_4),.int .i64 a0_5] 25 (0,0))) ∧ Aside0 (Below w.heap.size w w'))
               case atStart=>exact ⟨(0),(by first|rfl|(simp;done)|(simp [*];done)),H',⟨Nat.le_refl _⟩,⟨by (with_reducible repeat (first|refine blk_drewN ?_ _|refine blk_drew ?_|refine blk_alloc ?_ _));exact BK176.out⟩,⟨by repeat (first|(with_reducible first|exact HB.out|apply below_alloc|apply pw_below_drewN|apply below_drew1|refine below_set ?_ GE176.out)|exact HB.out)⟩⟩
               case round =>
                clear H'
                try clear c1
                try clear p1
                try clear q1
                try clear hx1
                try clear c2
                try clear p2
                try clear c3
                try clear c4
                try clear c4b0
                try clear c6
                try clear c6b0
                try clear p6
                try clear c8
                try clear c8b0
                try clear c10
                try clear c10b0
                try clear c12
                try clear c12b0
                try clear c15
                try clear c17
                try clear c17b0
                try clear c17b1
                try clear p17
                try clear q17
                try clear hx17
                try clear c20
                try clear c21
                try clear c21b0
                try clear c22
                try clear c22b0
                try clear c23
                try clear c23b0
                try clear c24
                try clear c24b0
                try clear c24b1
                try clear c25
                try clear c25b0
                try clear c26
                try clear c26b0
                try clear c26b1
                try clear c31
                try clear c31b0
                try clear c32
                try clear c32b0
                try clear c33
                try clear c33b0
                try clear hcz11_0
                try clear hcz11_1
                try clear hcz11_2
                try clear hcz11_3
                try clear hcz11_4
                try clear hcz11_5
                try clear hcz13_0
                try clear hcz13_1
                try clear hcz13_2
                try clear hcz13_3
                try clear hcz13_4
                try clear hcz13_5
                try clear hcz14_0
                try clear hcz14_1
                try clear hcz14_2
                try clear hcz14_3
                try clear hcz14_4
                try clear hcz14_5
                try clear hcz18_0
                try clear hcz18_1
                try clear hcz18_2
                try clear hcz18_3
                try clear hcz18_4
                try clear hcz18_5
                try clear hcz19_0
                try clear hcz19_1
                try clear hcz19_2
                try clear hcz19_3
                try clear hcz19_4
                try clear hcz19_5
                try clear hcz27_0
                try clear hcz27_1
                try clear hcz27_2
                try clear hcz27_3
                try clear hcz27_4
                try clear hcz27_5
                try clear hcz28_0
                try clear hcz28_1
                try clear hcz28_2
                try clear hcz28_3
                try clear hcz28_4
                try clear hcz28_5
                try clear hcz29_0
                try clear hcz29_1
                try clear hcz29_2
                try clear hcz29_3
                try clear hcz29_4
                try clear hcz29_5
                try clear hcz30_0
                try clear hcz30_1
                try clear hcz30_2
                try clear hcz30_3
                try clear hcz30_4
                try clear hcz30_5
                try clear hcz34_0
                try clear hcz34_1
                try clear hcz34_2
                try clear hcz34_3
                try clear hcz34_4
                try clear hcz34_5
                try clear hcz5_0
                try clear hcz5_1
                try clear hcz5_2
                try clear hcz5_3
                try clear hcz5_4
                try clear hcz5_5
                try clear hcz7_0
                try clear hcz7_1
                try clear hcz7_2
                try clear hcz7_3
                try clear hcz7_4
                try clear hcz7_5
                try clear hcz9_0
                try clear hcz9_1
                try clear hcz9_2
                try clear hcz9_3
                try clear hcz9_4
                try clear hcz9_5
                try clear hfz11_0
                try clear hfz11_1
                try clear hfz11_2
                try clear hfz11_3
                try clear hfz11_4
                try clear hfz11_5
                try clear hfz13_0
                try clear hfz13_1
                try clear hfz13_2
                try clear hfz13_3
                try clear hfz13_4
                try clear hfz13_5
                try clear hfz14_0
                try clear hfz14_1
                try clear hfz14_2
                try clear hfz14_3
                try clear hfz14_4
                try clear hfz14_5
                try clear hfz18_0
                try clear hfz18_1
                try clear hfz18_2
                try clear hfz18_3
                try clear hfz18_4
                try clear hfz18_5
                try clear hfz19_0
                try clear hfz19_1
                try clear hfz19_2
                try clear hfz19_3
                try clear hfz19_4
                try clear hfz19_5
                try clear hfz27_0
                try clear hfz27_1
                try clear hfz27_2
                try clear hfz27_3
                try clear hfz27_4
                try clear hfz27_5
                try clear hfz28_0
                try clear hfz28_1
                try clear hfz28_2
                try clear hfz28_3
                try clear hfz28_4
                try clear hfz28_5
                try clear hfz29_0
                try clear hfz29_1
                try clear hfz29_2
                try clear hfz29_3
                try clear hfz29_4
                try clear hfz29_5
                try clear hfz30_0
                try clear hfz30_1
                try clear hfz30_2
                try clear hfz30_3
                try clear hfz30_4
                try clear hfz30_5
                try clear hfz34_0
                try clear hfz34_1
                try clear hfz34_2
                try clear hfz34_3
                try clear hfz34_4
                try clear hfz34_5
                try clear hfz5_0
                try clear hfz5_1
                try clear hfz5_2
                try clear hfz5_3
                try clear hfz5_4
                try clear hfz5_5
                try clear hfz7_0
                try clear hfz7_1
                try clear hfz7_2
                try clear hfz7_3
                try clear hfz7_4
                try clear hfz7_5
                try clear hfz9_0
                try clear hfz9_1
                try clear hfz9_2
                try clear hfz9_3
                try clear hfz9_4
                try clear hfz9_5
                try clear hx177_0
                try clear hx178_0
                try clear hx179_0
                try clear p1
                try clear p17
                try clear p177
                try clear p178
                try clear p179
                try clear p2
                try clear p6
                try clear q1
                try clear q17
                try clear q177
                try clear q178
                try clear q179
                obtain ⟨x92_5,rfl,HA,HK5,BK176,HB⟩:=hrel
                cases gk with
                | zero=>exact absurd HA.out (by simp [coppicerref_TurnerCheck.l2])
                | succ k5 =>
                 have H:=HA.out
                 clear HA
                 simp only [coppicerref_TurnerCheck.l2] at H
                 by_cases c35 : x92_5 < ((rd_L2 l0_4 x4_4).length : Int)
                 ·rw [if_pos c35] at H
                  have c35b0 : decide (x92_5 < ((rd_L2 l0_4 x4_4).length : Int)) = true:=decide_eq_true c35
                  clear c35
                  by_cases c36 : 0 ≤ x92_5
                  ·rw [if_pos c36] at H
                   have c36b0 : decide (0 ≤ x92_5) = true:=decide_eq_true c36
                   clear c36
                   by_cases c37 : x92_5 < ((rd_L2 l0_4 x4_4).length : Int)
                   ·rw [if_pos c37] at H
                    have c37b0 : decide (x92_5 < ((rd_L2 l0_4 x4_4).length : Int)) = true:=decide_eq_true c37
                    clear c37
                    by_cases c38 : ((rd_L1 (rd_L2 l0_4 x4_4) x92_5).length : Int) > 4
                    ·rw [if_pos c38] at H
                     have c38b0 : decide (4 < ((rd_L1 (rd_L2 l0_4 x4_4) x92_5).length : Int)) = true:=decide_eq_true c38
                     have c38b1 : decide (4 < (rd_L1 (rd_L2 l0_4 x4_4) x92_5).length) = true:=decide_eq_true (by omega)
                     clear c38
                     obtain rfl:=Option.some.inj H
                     have p180 : 0 ≤ (x92_5 : Int):=of_decide_eq_true (by first|(with_reducible assumption)|assumption)
                     have q180 : x92_5 < ((rd_L2 l0_4 x4_4).length : Int):=of_decide_eq_true (by first|(with_reducible assumption)|assumption)
                     obtain ⟨ad180,A180_0,c180_0,e180,hx180_0,hl180_0,hi180_0⟩:=at_L1 HR179_0.out x92_5 p180 q180
                     cases e180
                     replace hx180_0:=(HB.out.cell (World.block_lt_of_cell? w _ hx180_0)).trans hx180_0
                     have HR180_0:=Aside0.mk hi180_0
                     have HC180_0:=Aside0.mk hl180_0
                     clear hi180_0 hl180_0
                     replace p180:=eq_true p180
                     replace q180:=eq_true q180
                     go_wp2
                     repeat (go_quiet (fail);try go_wp2)
                     go_ret
                     exact ⟨by first|rfl|(simp [errW_none,errW_some] <;> rfl)|(simp [*,errW_none,errW_some] <;> rfl),by repeat (first|(with_reducible first|exact HB.out|apply below_alloc|apply pw_below_drewN|apply below_drew1|refine below_set ?_ GE176.out)|exact HB.out)⟩
                    ·rw [if_neg c38] at H
                     have c38b0 : decide (4 < ((rd_L1 (rd_L2 l0_4 x4_4) x92_5).length : Int)) = false:=decide_eq_false c38
                     have c38b1 : decide (4 < (rd_L1 (rd_L2 l0_4 x4_4) x92_5).length) = false:=decide_eq_false (by omega)
                     clear c38
                     have H':=Aside0.mk H
                     clear H
                     have p180 : 0 ≤ (x92_5 : Int):=of_decide_eq_true (by first|(with_reducible assumption)|assumption)
                     have q180 : x92_5 < ((rd_L2 l0_4 x4_4).length : Int):=of_decide_eq_true (by first|(with_reducible assumption)|assumption)
                     obtain ⟨ad180,A180_0,c180_0,e180,hx180_0,hl180_0,hi180_0⟩:=at_L1 HR179_0.out x92_5 p180 q180
                     cases e180
                     replace hx180_0:=(HB.out.cell (World.block_lt_of_cell? w _ hx180_0)).trans hx180_0
                     have HR180_0:=Aside0.mk hi180_0
                     have HC180_0:=Aside0.mk hl180_0
                     clear hi180_0 hl180_0
                     replace p180:=eq_true p180
                     replace q180:=eq_true q180
                     go_wp2
                     repeat (go_quiet (fail);try go_wp2)
                     go_roundg k5
                     case measure=>have:=HJ1.out;have:=HJ15.out;have:=HK3.out;have:=HK4.out;have:=HK5.out;omega
                     case rel=>exact ⟨(wrap64 (x92_5 + 1)),(by first|rfl|(simp;done)|(simp [*];done)),H',⟨by have:=HJ1.out;have:=HJ15.out;have:=HK3.out;have:=HK4.out;have:=HK5.out;omega⟩,⟨by (with_reducible repeat (first|refine blk_drewN ?_ _|refine blk_drew ?_|refine blk_alloc ?_ _));exact BK176.out⟩,⟨by repeat (first|(with_reducible first|exact HB.out|apply below_alloc|apply pw_below_drewN|apply below_drew1|refine below_set ?_ GE176.out)|exact HB.out)⟩⟩
                   ·rw [if_neg c37] at H
                    exact absurd H (by simp)
                  ·rw [if_neg c36] at H
                   exact absurd H (by simp)
                 ·rw [if_neg c35] at H
                  have c35b0 : decide (x92_5 < ((rd_L2 l0_4 x4_4).length : Int)) = false:=decide_eq_false c35
                  clear c35
                  have H':=Aside0.mk H
                  clear H
                  go_wp2
                  repeat (go_quiet (fail);try go_wp2)
                  go_roundg k5
                  case measure=>have:=HJ1.out;have:=HJ15.out;have:=HK3.out;have:=HK4.out;have:=HK5.out;omega
                  case rel=>exact ⟨(wrap64 (x4_4 + 1)),(by first|rfl|(simp;done)|(simp [*];done)),H',⟨by have:=HJ1.out;have:=HJ15.out;have:=HK3.out;have:=HK4.out;have:=HK5.out;omega⟩,⟨by (with_reducible repeat (first|refine blk_drewN ?_ _|refine blk_drew ?_|refine blk_alloc ?_ _));exact BK176.out⟩,⟨by repeat (first|(with_reducible first|exact HB.out|apply below_alloc|apply pw_below_drewN|apply below_drew1|refine below_set ?_ GE176.out)|exact HB.out)⟩⟩
              ·rw [if_neg c33] at H
               exact absurd H (by simp)
             ·rw [if_neg c32] at H
              exact absurd H (by simp)
            ·rw [if_neg c31] at H
             have c31b0 : decide (x4_4 < a0_0) = false:=decide_eq_false c31
             clear c31
             have HC39:=Aside0.mk H
             clear H
             have hcz40_0 : wr.cell? ⟨gb176,0,none⟩ = some (.int .i64 a0_0):=(blk_cell BK176.out 0).trans rfl
             have hcz40_1 : wr.cell? ⟨gb176,1,none⟩ = some (.int .i64 a0_1):=(blk_cell BK176.out 1).trans rfl
             have hcz40_2 : wr.cell? ⟨gb176,2,none⟩ = some (.int .i64 a0_2):=(blk_cell BK176.out 2).trans rfl
             have hcz40_3 : wr.cell? ⟨gb176,3,none⟩ = some (.slice A0_3 l0_3.length c0_3):=(blk_cell BK176.out 3).trans rfl
             have hcz40_4 : wr.cell? ⟨gb176,4,none⟩ = some (.slice A0_4 l0_4.length c0_4):=(blk_cell BK176.out 4).trans rfl
             have hcz40_5 : wr.cell? ⟨gb176,5,none⟩ = some (.int .i64 a0_5):=(blk_cell BK176.out 5).trans rfl
             have hfz40_0:=blk_frozen BK176.out 0
             have hfz40_1:=blk_frozen BK176.out 1
             have hfz40_2:=blk_frozen BK176.out 2
             have hfz40_3:=blk_frozen BK176.out 3
             have hfz40_4:=blk_frozen BK176.out 4
             have hfz40_5:=blk_frozen BK176.out 5
             go_upto_region 19 with (fail)
             repeat (go_quiet (fail);go_upto_region 19 with (fail))
             go_cut [7] (fun v7 wc=>∃ (kq : Nat) (x7_38 : Bool),v7 = .bool x7_38 ∧ Aside0 (coppicerref_TurnerCheck.j5 kq x7_38 a0_0 a0_1 a0_2 l0_3 l0_4 a0_5 = some r) ∧ Aside0 (kq ≤ k4) ∧ Aside0 (wc.heap[gb176]? = some (.cells #[.int .i64 a0_0,.int .i64 a0_1,.int .i64 a0_2,(.slice A0_3 l0_3.length c0_3),(.slice A0_4 l0_4.length c0_4),.int .i64 a0_5] 25 (0,0))) ∧ Aside0 (Below w.heap.size w wc))
             case first =>
              have H:=HC39.out
              clear HC39
              by_cases c41 : a0_5 < 0
              ·rw [if_pos c41] at H
               have c41b0 : decide (a0_5 < 0) = true:=decide_eq_true c41
               clear c41
               (first|rw [c41b0]|(simp only [i64_w,i32_w];rw [c41b0])|skip)
               have H':=Aside0.mk H
               clear H
               have hcz42_0 : wr.cell? ⟨gb176,0,none⟩ = some (.int .i64 a0_0):=(blk_cell BK176.out 0).trans rfl
               have hcz42_1 : wr.cell? ⟨gb176,1,none⟩ = some (.int .i64 a0_1):=(blk_cell BK176.out 1).trans rfl
               have hcz42_2 : wr.cell? ⟨gb176,2,none⟩ = some (.int .i64 a0_2):=(blk_cell BK176.out 2).trans rfl
               have hcz42_3 : wr.cell? ⟨gb176,3,none⟩ = some (.slice A0_3 l0_3.length c0_3):=(blk_cell BK176.out 3).trans rfl
               have hcz42_4 : wr.cell? ⟨gb176,4,none⟩ = some (.slice A0_4 l0_4.length c0_4):=(blk_cell BK176.out 4).trans rfl
               have hcz42_5 : wr.cell? ⟨gb176,5,none⟩ = some (.int .i64 a0_5):=(blk_cell BK176.out 5).trans rfl
               have hfz42_0:=blk_frozen BK176.out 0
               have hfz42_1:=blk_frozen BK176.out 1
               have hfz42_2:=blk_frozen BK176.out 2
               have hfz42_3:=blk_frozen BK176.out 3
               have hfz42_4:=blk_frozen BK176.out 4
               have hfz42_5:=blk_frozen BK176.out 5
               go_wp2
               repeat (go_quiet (fail);try go_wp2)
               go_meet
               case rel=>exact ⟨_,(true),(by first|rfl|(simp;done)|(simp [*];done)),H',⟨by have:=HJ1.out;have:=HJ15.out;have:=HK3.out;have:=HK4.out;first|omega|exact Nat.le_refl _⟩,⟨by (with_reducible repeat (first|refine blk_drewN ?_ _|refine blk_drew ?_|refine blk_alloc ?_ _));exact BK176.out⟩,⟨by repeat (first|(with_reducible first|exact HB.out|apply below_alloc|apply pw_below_drewN|apply below_drew1|refine below_set ?_ GE176.out)|exact HB.out)⟩⟩
              ·rw [if_neg c41] at H
               have c41b0 : decide (a0_5 < 0) = false:=decide_eq_false c41
               clear c41
               (first|rw [c41b0]|(simp only [i64_w,i32_w];rw [c41b0])|skip)
               have H':=Aside0.mk H
               clear H
               have hcz43_0 : wr.cell? ⟨gb176,0,none⟩ = some (.int .i64 a0_0):=(blk_cell BK176.out 0).trans rfl
               have hcz43_1 : wr.cell? ⟨gb176,1,none⟩ = some (.int .i64 a0_1):=(blk_cell BK176.out 1).trans rfl
               have hcz43_2 : wr.cell? ⟨gb176,2,none⟩ = some (.int .i64 a0_2):=(blk_cell BK176.out 2).trans rfl
               have hcz43_3 : wr.cell? ⟨gb176,3,none⟩ = some (.slice A0_3 l0_3.length c0_3):=(blk_cell BK176.out 3).trans rfl
               have hcz43_4 : wr.cell? ⟨gb176,4,none⟩ = some (.slice A0_4 l0_4.length c0_4):=(blk_cell BK176.out 4).trans rfl
               have hcz43_5 : wr.cell? ⟨gb176,5,none⟩ = some (.int .i64 a0_5):=(blk_cell BK176.out 5).trans rfl
               have hfz43_0:=blk_frozen BK176.out 0
               have hfz43_1:=blk_frozen BK176.out 1
               have hfz43_2:=blk_frozen BK176.out 2
               have hfz43_3:=blk_frozen BK176.out 3
               have hfz43_4:=blk_frozen BK176.out 4
               have hfz43_5:=blk_frozen BK176.out 5
               go_wp2
               repeat (go_quiet (fail);try go_wp2)
               go_meet
               case rel=>exact ⟨_,(decide (a0_5 ≥ a0_0)),(by first|rfl|(simp;done)|(simp [*];done)),H',⟨by have:=HJ1.out;have:=HJ15.out;have:=HK3.out;have:=HK4.out;first|omega|exact Nat.le_refl _⟩,⟨by (with_reducible repeat (first|refine blk_drewN ?_ _|refine blk_drew ?_|refine blk_alloc ?_ _));exact BK176.out⟩,⟨by repeat (first|(with_reducible first|exact HB.out|apply below_alloc|apply pw_below_drewN|apply below_drew1|refine below_set ?_ GE176.out)|exact HB.out)⟩⟩
             case rest =>
              clear HC39
              try clear c1
              try clear p1
              try clear q1
              try clear hx1
              try clear c2
              try clear p2
              try clear c3
              try clear c4
              try clear c4b0
              try clear c6
              try clear c6b0
              try clear p6
              try clear c8
              try clear c8b0
              try clear c10
              try clear c10b0
              try clear c12
              try clear c12b0
              try clear c15
              try clear c17
              try clear c17b0
              try clear c17b1
              try clear p17
              try clear q17
              try clear hx17
              try clear c18
              try clear p18
              try clear q18
              try clear hx18
              try clear c20
              try clear c21
              try clear c21b0
              try clear c22
              try clear c22b0
              try clear c23
              try clear c23b0
              try clear c24
              try clear c24b0
              try clear c24b1
              try clear c25
              try clear c25b0
              try clear c26
              try clear c26b0
              try clear c26b1
              try clear c31
              try clear c31b0
              try clear c32
              try clear c32b0
              try clear c33
              try clear c33b0
              try clear c35
              try clear c35b0
              try clear c36
              try clear c36b0
              try clear c37
              try clear c37b0
              try clear c38
              try clear c38b0
              try clear c38b1
              try clear c41
              try clear c41b0
              try clear hcz11_0
              try clear hcz11_1
              try clear hcz11_2
              try clear hcz11_3
              try clear hcz11_4
              try clear hcz11_5
              try clear hcz13_0
              try clear hcz13_1
              try clear hcz13_2
              try clear hcz13_3
              try clear hcz13_4
              try clear hcz13_5
              try clear hcz14_0
              try clear hcz14_1
              try clear hcz14_2
              try clear hcz14_3
              try clear hcz14_4
              try clear hcz14_5
              try clear hcz18_0
              try clear hcz18_1
              try clear hcz18_2
              try clear hcz18_3
              try clear hcz18_4
              try clear hcz18_5
              try clear hcz19_0
              try clear hcz19_1
              try clear hcz19_2
              try clear hcz19_3
              try clear hcz19_4
              try clear hcz19_5
              try clear hcz27_0
              try clear hcz27_1
              try clear hcz27_2
              try clear hcz27_3
              try clear hcz27_4
              try clear hcz27_5
              try clear hcz28_0
              try clear hcz28_1
              try clear hcz28_2
              try clear hcz28_3
              try clear hcz28_4
              try clear hcz28_5
              try clear hcz29_0
              try clear hcz29_1
              try clear hcz29_2
              try clear hcz29_3
              try clear hcz29_4
              try clear hcz29_5
              try clear hcz30_0
              try clear hcz30_1
              try clear hcz30_2
              try clear hcz30_3
              try clear hcz30_4
              try clear hcz30_5
              try clear hcz34_0
              try clear hcz34_1
              try clear hcz34_2
              try clear hcz34_3
              try clear hcz34_4
              try clear hcz34_5
              try clear hcz40_0
              try clear hcz40_1
              try clear hcz40_2
              try clear hcz40_3
              try clear hcz40_4
              try clear hcz40_5
              try clear hcz42_0
              try clear hcz42_1
              try clear hcz42_2
              try clear hcz42_3
              try clear hcz42_4
              try clear hcz42_5
              try clear hcz43_0
              try clear hcz43_1
              try clear hcz43_2
              try clear hcz43_3
              try clear hcz43_4
              try clear hcz43_5
              try clear hcz5_0
              try clear hcz5_1
              try clear hcz5_2
              try clear hcz5_3
              try clear hcz5_4
              try clear hcz5_5
              try clear hcz7_0
              try clear hcz7_1
              try clear hcz7_2
              try clear hcz7_3
              try clear hcz7_4
              try clear hcz7_5
              try clear hcz9_0
              try clear hcz9_1
              try clear hcz9_2
              try clear hcz9_3
              try clear hcz9_4
              try clear hcz9_5
              try clear hfz11_0
              try clear hfz11_1
              try clear hfz11_2
              try clear hfz11_3
              try clear hfz11_4
              try clear hfz11_5
              try clear hfz13_0
              try clear hfz13_1
              try clear hfz13_2
              try clear hfz13_3
              try clear hfz13_4
              try clear hfz13_5
              try clear hfz14_0
              try clear hfz14_1
              try clear hfz14_2
              try clear hfz14_3
              try clear hfz14_4
              try clear hfz14_5
              try clear hfz18_0
              try clear hfz18_1
              try clear hfz18_2
              try clear hfz18_3
              try clear hfz18_4
              try clear hfz18_5
              try clear hfz19_0
              try clear hfz19_1
              try clear hfz19_2
              try clear hfz19_3
              try clear hfz19_4
              try clear hfz19_5
              try clear hfz27_0
              try clear hfz27_1
              try clear hfz27_2
              try clear hfz27_3
              try clear hfz27_4
              try clear hfz27_5
              try clear hfz28_0
              try clear hfz28_1
              try clear hfz28_2
              try clear hfz28_3
              try clear hfz28_4
              try clear hfz28_5
              try clear hfz29_0
              try clear hfz29_1
              try clear hfz29_2
              try clear hfz29_3
              try clear hfz29_4
              try clear hfz29_5
              try clear hfz30_0
              try clear hfz30_1
              try clear hfz30_2
              try clear hfz30_3
              try clear hfz30_4
              try clear hfz30_5
              try clear hfz34_0
              try clear hfz34_1
              try clear hfz34_2
              try clear hfz34_3
              try clear hfz34_4
              try clear hfz34_5
              try clear hfz40_0
              try clear hfz40_1
              try clear hfz40_2
              try clear hfz40_3
              try clear hfz40_4
              try clear hfz40_5
              try clear hfz42_0
              try clear hfz42_1
              try clear hfz42_2
              try clear hfz42_3
              try clear hfz42_4
              try clear hfz42_5
              try clear hfz43_0
              try clear hfz43_1
              try clear hfz43_2
              try clear hfz43_3
              try clear hfz43_4
              try clear hfz43_5
              try clear hfz5_0
              try clear hfz5_1
              try clear hfz5_2
              try clear hfz5_3
              try clear hfz5_4
              try clear hfz5_5
              try clear hfz7_0
              try clear hfz7_1
              try clear hfz7_2
              try clear hfz7_3
              try clear hfz7_4
              try clear hfz7_5
              try clear hfz9_0
              try clear hfz9_1
              try clear hfz9_2
              try clear hfz9_3
              try clear hfz9_4
              try clear hfz9_5
              try clear hx177_0
              try clear hx178_0
              try clear hx179_0
              try clear hx180_0
              try clear p1
              try clear p17
              try clear p177
              try clear p178
              try clear p179
              try clear p180
              try clear p2
              try clear p6
              try clear q1
              try clear q17
              try clear q177
              try clear q178
              try clear q179
              try clear q180
              obtain ⟨kq,x7_38,rfl,HA,HJ38,BK176,HB⟩:=hcut
              cases kq with
              | zero=>exact absurd HA.out (by simp [coppicerref_TurnerCheck.j5])
              | succ kj38 =>
               have H:=HA.out
               clear HA
               simp only [coppicerref_TurnerCheck.j5] at H
               have H':=Aside0.mk H
               clear H
               go_wp2
               repeat (go_quiet (fail);try go_wp2)
               go_loopg [7,8] kj38 (fun kq v7 v8 w'=>∃ (x7_6 : Bool) (x8_6 : Int),v7 = .bool x7_6 ∧ v8 = .int .i64 x8_6 ∧ Aside0 (coppicerref_TurnerCheck.l3 kq x7_6 x8_6 a0_0 a0_1 a0_2 l0_3 l0_4 a0_5 = some r) ∧ Aside0 (kq ≤ kj38) ∧ Aside0 (w'.heap[gb176]? = some (.cells #[.int .i64 a0_0,.int .i64 a0_1,.int .i64 a0_2,(.slice A0_3 l0_3.length c0_3),(.slice A0_4 l0_4.length c0_4),.int .i64 a0_5] 25 (0,0))) ∧ Aside0 (Below w.heap.size w w'))
               case atStart=>exact ⟨(x7_38),(0),(by first|rfl|(simp;done)|(simp [*];done)),(by first|rfl|(simp;done)|(simp [*];done)),H',⟨Nat.le_refl _⟩,⟨by (with_reducible repeat (first|refine blk_drewN ?_ _|refine blk_drew ?_|refine blk_alloc ?_ _));exact BK176.out⟩,⟨by repeat (first|(with_reducible first|exact HB.out|apply below_alloc|apply pw_below_drewN|apply below_drew1|refine below_set ?_ GE176.out)|exact HB.out)⟩⟩
               case round =>
                clear H'
                try clear c1
                try clear p1
                try clear q1
                try clear hx1
                try clear c2
                try clear p2
                try clear c3
                try clear c4
                try clear c4b0
                try clear c6
                try clear c6b0
                try clear p6
                try clear c8
                try clear c8b0
                try clear c10
                try clear c10b0
                try clear c12
                try clear c12b0
                try clear c15
                try clear c17
                try clear c17b0
                try clear c17b1
                try clear p17
                try clear q17
                try clear hx17
                try clear c18
                try clear p18
                try clear q18
                try clear hx18
                try clear c20
                try clear c21
                try clear c21b0
                try clear c22
                try clear c22b0
                try clear c23
                try clear c23b0
                try clear c24
                try clear c24b0
                try clear c24b1
                try clear c25
                try clear c25b0
                try clear c26
                try clear c26b0
                try clear c26b1
                try clear c31
                try clear c31b0
                try clear c32
                try clear c32b0
                try clear c33
                try clear c33b0
                try clear c35
                try clear c35b0
                try clear c36
                try clear c36b0
                try clear c37
                try clear c37b0
                try clear c38
                try clear c38b0
                try clear c38b1
                try clear c41
                try clear c41b0
                try clear hcz11_0
                try clear hcz11_1
                try clear hcz11_2
                try clear hcz11_3
                try clear hcz11_4
                try clear hcz11_5
                try clear hcz13_0
                try clear hcz13_1
                try clear hcz13_2
                try clear hcz13_3
                try clear hcz13_4
                try clear hcz13_5
                try clear hcz14_0
                try clear hcz14_1
                try clear hcz14_2
                try clear hcz14_3
                try clear hcz14_4
                try clear hcz14_5
                try clear hcz18_0
                try clear hcz18_1
                try clear hcz18_2
                try clear hcz18_3
                try clear hcz18_4
                try clear hcz18_5
                try clear hcz19_0
                try clear hcz19_1
                try clear hcz19_2
                try clear hcz19_3
                try clear hcz19_4
                try clear hcz19_5
                try clear hcz27_0
                try clear hcz27_1
                try clear hcz27_2
                try clear hcz27_3
                try clear hcz27_4
                try clear hcz27_5
                try clear hcz28_0
                try clear hcz28_1
                try clear hcz28_2
                try clear hcz28_3
                try clear hcz28_4
                try clear hcz28_5
                try clear hcz29_0
                try clear hcz29_1
                try clear hcz29_2
                try clear hcz29_3
                try clear hcz29_4
                try clear hcz29_5
                try clear hcz30_0
                try clear hcz30_1
                try clear hcz30_2
                try clear hcz30_3
                try clear hcz30_4
                try clear hcz30_5
                try clear hcz34_0
                try clear hcz34_1
                try clear hcz34_2
                try clear hcz34_3
                try clear hcz34_4
                try clear hcz34_5
                try clear hcz40_0
                try clear hcz40_1
                try clear hcz40_2
                try clear hcz40_3
                try clear hcz40_4
                try clear hcz40_5
                try clear hcz42_0
                try clear hcz42_1
                try clear hcz42_2
                try clear hcz42_3
                try clear hcz42_4
                try clear hcz42_5
                try clear hcz43_0
                try clear hcz43_1
                try clear hcz43_2
                try clear hcz43_3
                try clear hcz43_4
                try clear hcz43_5
                try clear hcz5_0
                try clear hcz5_1
                try clear hcz5_2
                try clear hcz5_3
                try clear hcz5_4
                try clear hcz5_5
                try clear hcz7_0
                try clear hcz7_1
                try clear hcz7_2
                try clear hcz7_3
                try clear hcz7_4
                try clear hcz7_5
                try clear hcz9_0
                try clear hcz9_1
                try clear hcz9_2
                try clear hcz9_3
                try clear hcz9_4
                try clear hcz9_5
                try clear hfz11_0
                try clear hfz11_1
                try clear hfz11_2
                try clear hfz11_3
                try clear hfz11_4
                try clear hfz11_5
                try clear hfz13_0
                try clear hfz13_1
                try clear hfz13_2
                try clear hfz13_3
                try clear hfz13_4
                try clear hfz13_5
                try clear hfz14_0
                try clear hfz14_1
                try clear hfz14_2
                try clear hfz14_3
                try clear hfz14_4
                try clear hfz14_5
                try clear hfz18_0
                try clear hfz18_1
                try clear hfz18_2
                try clear hfz18_3
                try clear hfz18_4
                try clear hfz18_5
                try clear hfz19_0
                try clear hfz19_1
                try clear hfz19_2
                try clear hfz19_3
                try clear hfz19_4
                try clear hfz19_5
                try clear hfz27_0
                try clear hfz27_1
                try clear hfz27_2
                try clear hfz27_3
                try clear hfz27_4
                try clear hfz27_5
                try clear hfz28_0
                try clear hfz28_1
                try clear hfz28_2
                try clear hfz28_3
                try clear hfz28_4
                try clear hfz28_5
                try clear hfz29_0
                try clear hfz29_1
                try clear hfz29_2
                try clear hfz29_3
                try clear hfz29_4
                try clear hfz29_5
                try clear hfz30_0
                try clear hfz30_1
                try clear hfz30_2
                try clear hfz30_3
                try clear hfz30_4
                try clear hfz30_5
                try clear hfz34_0
                try clear hfz34_1
                try clear hfz34_2
                try clear hfz34_3
                try clear hfz34_4
                try clear hfz34_5
                try clear hfz40_0
                try clear hfz40_1
                try clear hfz40_2
                try clear hfz40_3
                try clear hfz40_4
                try clear hfz40_5
                try clear hfz42_0
                try clear hfz42_1
                try clear hfz42_2
                try clear hfz42_3
                try clear hfz42_4
                try clear hfz42_5
                try clear hfz43_0
                try clear hfz43_1
                try clear hfz43_2
                try clear hfz43_3
                try clear hfz43_4
                try clear hfz43_5
                try clear hfz5_0
                try clear hfz5_1
                try clear hfz5_2
                try clear hfz5_3
                try clear hfz5_4
                try clear hfz5_5
                try clear hfz7_0
                try clear hfz7_1
                try clear hfz7_2
                try clear hfz7_3
                try clear hfz7_4
                try clear hfz7_5
                try clear hfz9_0
                try clear hfz9_1
                try clear hfz9_2
                try clear hfz9_3
                try clear hfz9_4
                try clear hfz9_5
                try clear hx177_0
                try clear hx178_0
                try clear hx179_0
                try clear hx180_0
                try clear p1
                try clear p17
                try clear p177
                try clear p178
                try clear p179
                try clear p18
                try clear p180
                try clear p2
                try clear p6
                try clear q1
                try clear q17
                try clear q177
                try clear q178
                try clear q179
                try clear q18
                try clear q180
                obtain ⟨x7_6,x8_6,rfl,rfl,HA,HK6,BK176,HB⟩:=hrel
                cases gk with
                | zero=>exact absurd HA.out (by simp [coppicerref_TurnerCheck.l3])
                | succ k6 =>
                 have H:=HA.out
                 clear HA
                 simp only [coppicerref_TurnerCheck.l3] at H
                 by_cases c44 : x8_6 < a0_0
                 ·rw [if_pos c44] at H
                  have c44b0 : decide (x8_6 < a0_0) = true:=decide_eq_true c44
                  clear c44
                  have H':=Aside0.mk H
                  clear H
                  have hcz45_0 : wr.cell? ⟨gb176,0,none⟩ = some (.int .i64 a0_0):=(blk_cell BK176.out 0).trans rfl
                  have hcz45_1 : wr.cell? ⟨gb176,1,none⟩ = some (.int .i64 a0_1):=(blk_cell BK176.out 1).trans rfl
                  have hcz45_2 : wr.cell? ⟨gb176,2,none⟩ = some (.int .i64 a0_2):=(blk_cell BK176.out 2).trans rfl
                  have hcz45_3 : wr.cell? ⟨gb176,3,none⟩ = some (.slice A0_3 l0_3.length c0_3):=(blk_cell BK176.out 3).trans rfl
                  have hcz45_4 : wr.cell? ⟨gb176,4,none⟩ = some (.slice A0_4 l0_4.length c0_4):=(blk_cell BK176.out 4).trans rfl
                  have hcz45_5 : wr.cell? ⟨gb176,5,none⟩ = some (.int .i64 a0_5):=(blk_cell BK176.out 5).trans rfl
                  have hfz45_0:=blk_frozen BK176.out 0
                  have hfz45_1:=blk_frozen BK176.out 1
                  have hfz45_2:=blk_frozen BK176.out 2
                  have hfz45_3:=blk_frozen BK176.out 3
                  have hfz45_4:=blk_frozen BK176.out 4
                  have hfz45_5:=blk_frozen BK176.out 5
                  go_wp2
                  repeat (go_quiet (fail);try go_wp2)
                  go_loopg [7,9] k6 (fun kq v7 v9 w'=>∃ (x7_7 : Bool) (x9_7 : Int),v7 = .bool x7_7 ∧ v9 = .int .i64 x9_7 ∧ Aside0 (coppicerref_TurnerCheck.l4 kq x7_7 x8_6 x9_7 a0_0 a0_1 a0_2 l0_3 l0_4 a0_5 = some r) ∧ Aside0 (kq ≤ k6) ∧ Aside0 (w'.heap[gb176]? = some (.cells #[.int .i64 a0_0,.int .i64 a0_1,.int .i64 a0_2,(.slice A0_3 l0_3.length c0_3),(.slice A0_4 l0_4.length c0_4),.int .i64 a0_5] 25 (0,0))) ∧ Aside0 (Below w.heap.size w w'))
                  case atStart=>exact ⟨(x7_6),(0),(by first|rfl|(simp;done)|(simp [*];done)),(by first|rfl|(simp;done)|(simp [*];done)),H',⟨Nat.le_refl _⟩,⟨by (with_reducible repeat (first|refine blk_drewN ?_ _|refine blk_drew ?_|refine blk_alloc ?_ _));exact BK176.out⟩,⟨by repeat (first|(with_reducible first|exact HB.out|apply below_alloc|apply pw_below_drewN|apply below_drew1|refine below_set ?_ GE176.out)|exact HB.out)⟩⟩
                  case round =>
                   clear H'
                   try clear c1
                   try clear p1
                   try clear q1
                   try clear hx1
                   try clear c2
                   try clear p2
                   try clear c3
                   try clear c4
                   try clear c4b0
                   try clear c6
                   try clear c6b0
                   try clear p6
                   try clear c8
                   try clear c8b0
                   try clear c10
                   try clear c10b0
                   try clear c12
                   try clear c12b0
                   try clear c15
                   try clear c17
                   try clear c17b0
                   try clear c17b1
                   try clear p17
                   try clear q17
                   try clear hx17
                   try clear c18
                   try clear p18
                   try clear q18
                   try clear hx18
                   try clear c20
                   try clear c21
                   try clear c21b0
                   try clear c22
                   try clear c22b0
                   try clear c23
                   try clear c23b0
                   try clear c24
                   try clear c24b0
                   try clear c24b1
                   try clear c25
                   try clear c25b0
                   try clear c26
                   try clear c26b0
                   try clear c26b1
                   try clear c31
                   try clear c31b0
                   try clear c32
                   try clear c32b0
                   try clear c33
                   try clear c33b0
                   try clear c35
                   try clear c35b0
                   try clear c36
                   try clear c36b0
                   try clear c37
                   try clear c37b0
                   try clear c38
                   try clear c38b0
                   try clear c38b1
                   try clear c41
                   try clear c41b0
                   try clear c44
                   try clear c44b0
                   try clear hcz11_0
                   try clear hcz11_1
                   try clear hcz11_2
                   try clear hcz11_3
                   try clear hcz11_4
                   try clear hcz11_5
                   try clear hcz13_0
                   try clear hcz13_1
                   try clear hcz13_2
                   try clear hcz13_3
                   try clear hcz13_4
                   try clear hcz13_5
                   try clear hcz14_0
                   try clear hcz14_1
                   try clear hcz14_2
                   try clear hcz14_3
                   try clear hcz14_4
                   try clear hcz14_5
                   try clear hcz18_0
                   try clear hcz18_1
                   try clear hcz18_2
                   try clear hcz18_3
                   try clear hcz18_4
                   try clear hcz18_5
                   try clear hcz19_0
                   try clear hcz19_1
                   try clear hcz19_2
                   try clear hcz19_3
                   try clear hcz19_4
                   try clear hcz19_5
                   try clear hcz27_0
                   try clear hcz27_1
                   try clear hcz27_2
                   try clear hcz27_3
                   try clear hcz27_4
                   try clear hcz27_5
                   try clear hcz28_0
                   try clear hcz28_1
                   try clear hcz28_2
                   try clear hcz28_3
                   try clear hcz28_4
                   try clear hcz28_5
                   try clear hcz29_0
                   try clear hcz29_1
                   try clear hcz29_2
                   try clear hcz29_3
                   try clear hcz29_4
                   try clear hcz29_5
                   try clear hcz30_0
                   try clear hcz30_1
                   try clear hcz30_2
                   try clear hcz30_3
                   try clear hcz30_4
                   try clear hcz30_5
                   try clear hcz34_0
                   try clear hcz34_1
                   try clear hcz34_2
                   try clear hcz34_3
                   try clear hcz34_4
                   try clear hcz34_5
                   try clear hcz40_0
                   try clear hcz40_1
                   try clear hcz40_2
                   try clear hcz40_3
                   try clear hcz40_4
                   try clear hcz40_5
                   try clear hcz42_0
                   try clear hcz42_1
                   try clear hcz42_2
                   try clear hcz42_3
                   try clear hcz42_4
                   try clear hcz42_5
                   try clear hcz43_0
                   try clear hcz43_1
                   try clear hcz43_2
                   try clear hcz43_3
                   try clear hcz43_4
                   try clear hcz43_5
                   try clear hcz45_0
                   try clear hcz45_1
                   try clear hcz45_2
                   try clear hcz45_3
                   try clear hcz45_4
                   try clear hcz45_5
                   try clear hcz5_0
                   try clear hcz5_1
                   try clear hcz5_2
                   try clear hcz5_3
                   try clear hcz5_4
                   try clear hcz5_5
                   try clear hcz7_0
                   try clear hcz7_1
                   try clear hcz7_2
                   try clear hcz7_3
                   try clear hcz7_4
                   try clear hcz7_5
                   try clear hcz9_0
                   try clear hcz9_1
                   try clear hcz9_2
                   try clear hcz9_3
                   try clear hcz9_4
                   try clear hcz9_5
                   try clear hfz11_0
                   try clear hfz11_1
                   try clear hfz11_2
                   try clear hfz11_3
                   try clear hfz11_4
                   try clear hfz11_5
                   try clear hfz13_0
                   try clear hfz13_1
                   try clear hfz13_2
                   try clear hfz13_3
                   try clear hfz13_4
                   try clear hfz13_5
                   try clear hfz14_0
                   try clear hfz14_1
                   try clear hfz14_2
                   try clear hfz14_3
                   try clear hfz14_4
                   try clear hfz14_5
                   try clear hfz18_0
                   try clear hfz18_1
                   try clear hfz18_2
                   try clear hfz18_3
                   try clear hfz18_4
                   try clear hfz18_5
                   try clear hfz19_0
                   try clear hfz19_1
                   try clear hfz19_2
                   try clear hfz19_3
                   try clear hfz19_4
                   try clear hfz19_5
                   try clear hfz27_0
                   try clear hfz27_1
                   try clear hfz27_2
                   try clear hfz27_3
                   try clear hfz27_4
                   try clear hfz27_5
                   try clear hfz28_0
                   try clear hfz28_1
                   try clear hfz28_2
                   try clear hfz28_3
                   try clear hfz28_4
                   try clear hfz28_5
                   try clear hfz29_0
                   try clear hfz29_1
                   try clear hfz29_2
                   try clear hfz29_3
                   try clear hfz29_4
                   try clear hfz29_5
                   try clear hfz30_0
                   try clear hfz30_1
                   try clear hfz30_2
                   try clear hfz30_3
                   try clear hfz30_4
                   try clear hfz30_5
                   try clear hfz34_0
                   try clear hfz34_1
                   try clear hfz34_2
                   try clear hfz34_3
                   try clear hfz34_4
                   try clear hfz34_5
                   try clear hfz40_0
                   try clear hfz40_1
                   try clear hfz40_2
                   try clear hfz40_3
                   try clear hfz40_4
                   try clear hfz40_5
                   try clear hfz42_0
                   try clear hfz42_1
                   try clear hfz42_2
                   try clear hfz42_3
                   try clear hfz42_4
                   try clear hfz42_5
                   try clear hfz43_0
                   try clear hfz43_1
                   try clear hfz43_2
                   try clear hfz43_3
                   try clear hfz43_4
                   try clear hfz43_5
                   try clear hfz45_0
                   try clear hfz45_1
                   try clear hfz45_2
                   try clear hfz45_3
                   try clear hfz45_4
                   try clear hfz45_5
                   try clear hfz5_0
                   try clear hfz5_1
                   try clear hfz5_2
                   try clear hfz5_3
                   try clear hfz5_4
                   try clear hfz5_5
                   try clear hfz7_0
                   try clear hfz7_1
                   try clear hfz7_2
                   try clear hfz7_3
                   try clear hfz7_4
                   try clear hfz7_5
                   try clear hfz9_0
                   try clear hfz9_1
                   try clear hfz9_2
                   try clear hfz9_3
                   try clear hfz9_4
                   try clear hfz9_5
                   try clear hx177_0
                   try clear hx178_0
                   try clear hx179_0
                   try clear hx180_0
                   try clear p1
                   try clear p17
                   try clear p177
                   try clear p178
                   try clear p179
                   try clear p18
                   try clear p180
                   try clear p2
                   try clear p6
                   try clear q1
                   try clear q17
                   try clear q177
                   try clear q178
                   try clear q179
                   try clear q18
                   try clear q180
                   obtain ⟨x7_7,x9_7,rfl,rfl,HA,HK7,BK176,HB⟩:=hrel
                   cases gk with
                   | zero=>exact absurd HA.out (by simp [coppicerref_TurnerCheck.l4])
                   | succ k7 =>
                    have H:=HA.out
                    clear HA
                    simp only [coppicerref_TurnerCheck.l4] at H
                    by_cases c46 : x9_7 < a0_1
                    ·rw [if_pos c46] at H
                     have c46b0 : decide (x9_7 < a0_1) = true:=decide_eq_true c46
                     clear c46
                     have HC47:=Aside0.mk H
                     clear H
                     have hcz48_0 : wr.cell? ⟨gb176,0,none⟩ = some (.int .i64 a0_0):=(blk_cell BK176.out 0).trans rfl
                     have hcz48_1 : wr.cell? ⟨gb176,1,none⟩ = some (.int .i64 a0_1):=(blk_cell BK176.out 1).trans rfl
                     have hcz48_2 : wr.cell? ⟨gb176,2,none⟩ = some (.int .i64 a0_2):=(blk_cell BK176.out 2).trans rfl
                     have hcz48_3 : wr.cell? ⟨gb176,3,none⟩ = some (.slice A0_3 l0_3.length c0_3):=(blk_cell BK176.out 3).trans rfl
                     have hcz48_4 : wr.cell? ⟨gb176,4,none⟩ = some (.slice A0_4 l0_4.length c0_4):=(blk_cell BK176.out 4).trans rfl
                     have hcz48_5 : wr.cell? ⟨gb176,5,none⟩ = some (.int .i64 a0_5):=(blk_cell BK176.out 5).trans rfl
                     have hfz48_0:=blk_frozen BK176.out 0
                     have hfz48_1:=blk_frozen BK176.out 1
                     have hfz48_2:=blk_frozen BK176.out 2
                     have hfz48_3:=blk_frozen BK176.out 3
                     have hfz48_4:=blk_frozen BK176.out 4
                     have hfz48_5:=blk_frozen BK176.out 5
                     go_upto_region 26 with (fail)
                     repeat (go_quiet (fail);go_upto_region 26 with (fail))
                     go_cut [7] (fun v7 wc=>∃ (kq : Nat) (x7_46 : Bool),v7 = .bool x7_46 ∧ Aside0 (coppicerref_TurnerCheck.j8 kq x7_46 x8_6 x9_7 a0_0 a0_1 a0_2 l0_3 l0_4 a0_5 = some r) ∧ Aside0 (kq ≤ k7) ∧ Aside0 (wc.heap[gb176]? = some (.cells #[.int .i64 a0_0,.int .i64 a0_1,.int .i64 a0_2,(.slice A0_3 l0_3.length c0_3),(.slice A0_4 l0_4.length c0_4),.int .i64 a0_5] 25 (0,0))) ∧ Aside0 (Below w.heap.size w wc))
                     case first =>
                      have H:=HC47.out
                      clear HC47
                      by_cases c49 : x7_7 = true
                      ·subst c49
                       have H1 : (coppicerref_TurnerCheck.j8 k7 true x8_6 x9_7 a0_0 a0_1 a0_2 l0_3 l0_4 a0_5) = some r:=by rw [if_pos rfl] at H;exact H
                       clear H
                       have H:=H1
                       clear H1
                       have H':=Aside0.mk H
                       clear H
                       go_wp2
                       repeat (go_quiet (fail);try go_wp2)
                       go_meet
                       case rel=>exact ⟨_,(true),(by first|rfl|(simp;done)|(simp [*];done)),H',⟨by have:=HJ1.out;have:=HJ15.out;have:=HK3.out;have:=HK4.out;have:=HJ38.out;have:=HK6.out;have:=HK7.out;first|omega|exact Nat.le_refl _⟩,⟨by (with_reducible repeat (first|refine blk_drewN ?_ _|refine blk_drew ?_|refine blk_alloc ?_ _));exact BK176.out⟩,⟨by repeat (first|(with_reducible first|exact HB.out|apply below_alloc|apply pw_below_drewN|apply below_drew1|refine below_set ?_ GE176.out)|exact HB.out)⟩⟩
                      ·replace c49:=Bool.eq_false_iff.mpr c49
                       subst c49
                       have H1 : (if 0 ≤ x8_6 then (if x8_6 < (l0_3.length : Int) then (if 0 ≤ x9_7 then (if x9_7 < ((rd_L1 l0_3 x8_6).length : Int) then (if (rd (rd_L1 l0_3 x8_6) x9_7) < 0 then (coppicerref_TurnerCheck.j8 k7 true x8_6 x9_7 a0_0 a0_1 a0_2 l0_3 l0_4 a0_5) else (coppicerref_TurnerCheck.j8 k7 (decide ((rd (rd_L1 l0_3 x8_6) x9_7) ≥ a0_0)) x8_6 x9_7 a0_0 a0_1 a0_2 l0_3 l0_4 a0_5)) else (none)) else (none)) else (none)) else (none)) = some r:=by rw [if_neg (show ¬ (false = true) by decide)] at H;exact H
                       clear H
                       have H:=H1
                       clear H1
                       by_cases c50 : 0 ≤ x8_6
                       ·rw [if_pos c50] at H
                        have c50b0 : decide (0 ≤ x8_6) = true:=decide_eq_true c50
                        clear c50
                        (first|rw [c50b0]|(simp only [i64_w,i32_w];rw [c50b0])|skip)
                        by_cases c51 : x8_6 < (l0_3.length : Int)
                        ·rw [if_pos c51] at H
                         have c51b0 : decide (x8_6 < (l0_3.length : Int)) = true:=decide_eq_true c51
                         clear c51
                         by_cases c52 : 0 ≤ x9_7
                         ·rw [if_pos c52] at H
                          have c52b0 : decide (0 ≤ x9_7) = true:=decide_eq_true c52
                          clear c52
                          by_cases c53 : x9_7 < ((rd_L1 l0_3 x8_6).length : Int)
                          ·rw [if_pos c53] at H
                           have c53b0 : decide (x9_7 < ((rd_L1 l0_3 x8_6).length : Int)) = true:=decide_eq_true c53
                           clear c53
                           by_cases c54 : (rd (rd_L1 l0_3 x8_6) x9_7) < 0
                           ·rw [if_pos c54] at H
                            have c54b0 : decide ((rd (rd_L1 l0_3 x8_6) x9_7) < 0) = true:=decide_eq_true c54
                            clear c54
                            have H':=Aside0.mk H
                            clear H
                            have hcz55_0 : wr.cell? ⟨gb176,0,none⟩ = some (.int .i64 a0_0):=(blk_cell BK176.out 0).trans rfl
                            have hcz55_1 : wr.cell? ⟨gb176,1,none⟩ = some (.int .i64 a0_1):=(blk_cell BK176.out 1).trans rfl
                            have hcz55_2 : wr.cell? ⟨gb176,2,none⟩ = some (.int .i64 a0_2):=(blk_cell BK176.out 2).trans rfl
                            have hcz55_3 : wr.cell? ⟨gb176,3,none⟩ = some (.slice A0_3 l0_3.length c0_3):=(blk_cell BK176.out 3).trans rfl
                            have hcz55_4 : wr.cell? ⟨gb176,4,none⟩ = some (.slice A0_4 l0_4.length c0_4):=(blk_cell BK176.out 4).trans rfl
                            have hcz55_5 : wr.cell? ⟨gb176,5,none⟩ = some (.int .i64 a0_5):=(blk_cell BK176.out 5).trans rfl
                            have hfz55_0:=blk_frozen BK176.out 0
                            have hfz55_1:=blk_frozen BK176.out 1
                            have hfz55_2:=blk_frozen BK176.out 2
                            have hfz55_3:=blk_frozen BK176.out 3
                            have hfz55_4:=blk_frozen BK176.out 4
                            have hfz55_5:=blk_frozen BK176.out 5
                            have p181 : 0 ≤ (x8_6 : Int):=of_decide_eq_true (by first|(with_reducible assumption)|assumption)
                            have q181 : x8_6 < (l0_3.length : Int):=of_decide_eq_true (by first|(with_reducible assumption)|assumption)
                            obtain ⟨ad181,A181_0,c181_0,e181,hx181_0,hl181_0,hi181_0⟩:=at_L1 HR0_3.out x8_6 p181 q181
                            cases e181
                            replace hx181_0:=(HB.out.cell (World.block_lt_of_cell? w _ hx181_0)).trans hx181_0
                            have HR181_0:=Aside0.mk hi181_0
                            have HC181_0:=Aside0.mk hl181_0
                            clear hi181_0 hl181_0
                            replace p181:=eq_true p181
                            replace q181:=eq_true q181
                            have p182 : 0 ≤ (x9_7 : Int):=of_decide_eq_true (by first|(with_reducible assumption)|assumption)
                            have q182 : x9_7 < ((rd_L1 l0_3 x8_6).length : Int):=of_decide_eq_true (by first|(with_reducible assumption)|assumption)
                            obtain ⟨ad182,e182,hx182_0⟩:=Kd.at_int HR181_0.out x9_7 p182 q182
                            cases e182
                            replace hx182_0:=(HB.out.cell (World.block_lt_of_cell? w _ hx182_0)).trans hx182_0
                            replace p182:=eq_true p182
                            replace q182:=eq_true q182
                            go_wp2
                            repeat (go_quiet (fail);try go_wp2)
                            go_meet
                            case rel=>exact ⟨_,(true),(by first|rfl|(simp;done)|(simp [*];done)),H',⟨by have:=HJ1.out;have:=HJ15.out;have:=HK3.out;have:=HK4.out;have:=HJ38.out;have:=HK6.out;have:=HK7.out;first|omega|exact Nat.le_refl _⟩,⟨by (with_reducible repeat (first|refine blk_drewN ?_ _|refine blk_drew ?_|refine blk_alloc ?_ _));exact BK176.out⟩,⟨by repeat (first|(with_reducible first|exact HB.out|apply below_alloc|apply pw_below_drewN|apply below_drew1|refine below_set ?_ GE176.out)|exact HB.out)⟩⟩
                           ·rw [if_neg c54] at H
                            have c54b0 : decide ((rd (rd_L1 l0_3 x8_6) x9_7) < 0) = false:=decide_eq_false c54
                            clear c54
                            have H':=Aside0.mk H
                            clear H
                            have hcz56_0 : wr.cell? ⟨gb176,0,none⟩ = some (.int .i64 a0_0):=(blk_cell BK176.out 0).trans rfl
                            have hcz56_1 : wr.cell? ⟨gb176,1,none⟩ = some (.int .i64 a0_1):=(blk_cell BK176.out 1).trans rfl
                            have hcz56_2 : wr.cell? ⟨gb176,2,none⟩ = some (.int .i64 a0_2):=(blk_cell BK176.out 2).trans rfl
                            have hcz56_3 : wr.cell? ⟨gb176,3,none⟩ = some (.slice A0_3 l0_3.length c0_3):=(blk_cell BK176.out 3).trans rfl
                            have hcz56_4 : wr.cell? ⟨gb176,4,none⟩ = some (.slice A0_4 l0_4.length c0_4):=(blk_cell BK176.out 4).trans rfl
                            have hcz56_5 : wr.cell? ⟨gb176,5,none⟩ = some (.int .i64 a0_5):=(blk_cell BK176.out 5).trans rfl
                            have hfz56_0:=blk_frozen BK176.out 0
                            have hfz56_1:=blk_frozen BK176.out 1
                            have hfz56_2:=blk_frozen BK176.out 2
                            have hfz56_3:=blk_frozen BK176.out 3
                            have hfz56_4:=blk_frozen BK176.out 4
                            have hfz56_5:=blk_frozen BK176.out 5
                            have p181 : 0 ≤ (x8_6 : Int):=of_decide_eq_true (by first|(with_reducible assumption)|assumption)
                            have q181 : x8_6 < (l0_3.length : Int):=of_decide_eq_true (by first|(with_reducible assumption)|assumption)
                            obtain ⟨ad181,A181_0,c181_0,e181,hx181_0,hl181_0,hi181_0⟩:=at_L1 HR0_3.out x8_6 p181 q181
                            cases e181
                            replace hx181_0:=(HB.out.cell (World.block_lt_of_cell? w _ hx181_0)).trans hx181_0
                            have HR181_0:=Aside0.mk hi181_0
                            have HC181_0:=Aside0.mk hl181_0
                            clear hi181_0 hl181_0
                            replace p181:=eq_true p181
                            replace q181:=eq_true q181
                            have p182 : 0 ≤ (x9_7 : Int):=of_decide_eq_true (by first|(with_reducible assumption)|assumption)
                            have q182 : x9_7 < ((rd_L1 l0_3 x8_6).length : Int):=of_decide_eq_true (by first|(with_reducible assumption)|assumption)
                            obtain ⟨ad182,e182,hx182_0⟩:=Kd.at_int HR181_0.out x9_7 p182 q182
                            cases e182
                            replace hx182_0:=(HB.out.cell (World.block_lt_of_cell? w _ hx182_0)).trans hx182_0
                            replace p182:=eq_true p182
                            replace q182:=eq_true q182
                            have p183 : 0 ≤ (x8_6 : Int):=of_decide_eq_true (by first|(with_reducible assumption)|assumption)
                            have q183 : x8_6 < (l0_3.length : Int):=of_decide_eq_true (by first|(with_reducible assumption)|assumption)
                            obtain ⟨ad183,A183_0,c183_0,e183,hx183_0,hl183_0,hi183_0⟩:=at_L1 HR0_3.out x8_6 p183 q183
                            obtain rfl : ad181 = ad183:=(by injection e183)
                            replace hx183_0:=(HB.out.cell (World.block_lt_of_cell? w _ hx183_0)).trans hx183_0
                            have HR183_0:=Aside0.mk hi183_0
                            have HC183_0:=Aside0.mk hl183_0
                            clear hi183_0 hl183_0
                            replace p183:=eq_true p183
                            replace q183:=eq_true q183
                            have ea_:=Option.some.inj (hx181_0.symm.trans hx183_0)
                            injection ea_ with ea_ en_ ec_
                            subst ea_
                            subst ec_
                            clear en_
                            have p184 : 0 ≤ (x9_7 : Int):=of_decide_eq_true (by first|(with_reducible assumption)|assumption)
                            have q184 : x9_7 < ((rd_L1 l0_3 x8_6).length : Int):=of_decide_eq_true (by first|(with_reducible assumption)|assumption)
                            obtain ⟨ad184,e184,hx184_0⟩:=Kd.at_int HR183_0.out x9_7 p184 q184
                            cases e184
                            replace hx184_0:=(HB.out.cell (World.block_lt_of_cell? w _ hx184_0)).trans hx184_0
                            replace p184:=eq_true p184
                            replace q184:=eq_true q184
                            go_wp2
                            repeat (go_quiet (fail);try go_wp2)
                            go_meet
                            case rel=>exact ⟨_,(decide ((rd (rd_L1 l0_3 x8_6) x9_7) ≥ a0_0)),(by first|rfl|(simp;done)|(simp [*];done)),H',⟨by have:=HJ1.out;have:=HJ15.out;have:=HK3.out;have:=HK4.out;have:=HJ38.out;have:=HK6.out;have:=HK7.out;first|omega|exact Nat.le_refl _⟩,⟨by (with_reducible repeat (first|refine blk_drewN ?_ _|refine blk_drew ?_|refine blk_alloc ?_ _));exact BK176.out⟩,⟨by repeat (first|(with_reducible first|exact HB.out|apply below_alloc|apply pw_below_drewN|apply below_drew1|refine below_set ?_ GE176.out)|exact HB.out)⟩⟩
                          ·rw [if_neg c53] at H
                           exact absurd H (by simp)
                         ·rw [if_neg c52] at H
                          exact absurd H (by simp)
                        ·rw [if_neg c51] at H
                         exact absurd H (by simp)
                       ·rw [if_neg c50] at H
                        exact absurd H (by simp)
                     case rest =>
                      clear HC47
                      try clear c1
                      try clear p1
                      try clear q1
                      try clear hx1
                      try clear c2
                      try clear p2
                      try clear c3
                      try clear c4
                      try clear c4b0
                      try clear c5
                      try clear c6
                      try clear c6b0
                      try clear p6
                      try clear c8
                      try clear c8b0
                      try clear c10
                      try clear c10b0
                      try clear c12
                      try clear c12b0
                      try clear c15
                      try clear c17
                      try clear c17b0
                      try clear c17b1
                      try clear p17
                      try clear q17
                      try clear hx17
                      try clear c18
                      try clear p18
                      try clear q18
                      try clear hx18
                      try clear c20
                      try clear c21
                      try clear c21b0
                      try clear c22
                      try clear c22b0
                      try clear c23
                      try clear c23b0
                      try clear c24
                      try clear c24b0
                      try clear c24b1
                      try clear c25
                      try clear c25b0
                      try clear c26
                      try clear c26b0
                      try clear c26b1
                      try clear c31
                      try clear c31b0
                      try clear c32
                      try clear c32b0
                      try clear c33
                      try clear c33b0
                      try clear c35
                      try clear c35b0
                      try clear c36
                      try clear c36b0
                      try clear c37
                      try clear c37b0
                      try clear c38
                      try clear c38b0
                      try clear c38b1
                      try clear c41
                      try clear c41b0
                      try clear c44
                      try clear c44b0
                      try clear c46
                      try clear c46b0
                      try clear c49
                      try clear c50
                      try clear c50b0
                      try clear c51
                      try clear c51b0
                      try clear c52
                      try clear c52b0
                      try clear c53
                      try clear c53b0
                      try clear c54
                      try clear c54b0
                      try clear hcz11_0
                      try clear hcz11_1
                      try clear hcz11_2
                      try clear hcz11_3
                      try clear hcz11_4
                      try clear hcz11_5
                      try clear hcz13_0
                      try clear hcz13_1
                      try clear hcz13_2
                      try clear hcz13_3
                      try clear hcz13_4
                      try clear hcz13_5
                      try clear hcz14_0
                      try clear hcz14_1
                      try clear hcz14_2
                      try clear hcz14_3
                      try clear hcz14_4
                      try clear hcz14_5
                      try clear hcz18_0
                      try clear hcz18_1
                      try clear hcz18_2
                      try clear hcz18_3
                      try clear hcz18_4
                      try clear hcz18_5
                      try clear hcz19_0
                      try clear hcz19_1
                      try clear hcz19_2
                      try clear hcz19_3
                      try clear hcz19_4
                      try clear hcz19_5
                      try clear hcz27_0
                      try clear hcz27_1
                      try clear hcz27_2
                      try clear hcz27_3
                      try clear hcz27_4
                      try clear hcz27_5
                      try clear hcz28_0
                      try clear hcz28_1
                      try clear hcz28_2
                      try clear hcz28_3
                      try clear hcz28_4
                      try clear hcz28_5
                      try clear hcz29_0
                      try clear hcz29_1
                      try clear hcz29_2
                      try clear hcz29_3
                      try clear hcz29_4
                      try clear hcz29_5
                      try clear hcz30_0
                      try clear hcz30_1
                      try clear hcz30_2
                      try clear hcz30_3
                      try clear hcz30_4
                      try clear hcz30_5
                      try clear hcz34_0
                      try clear hcz34_1
                      try clear hcz34_2
                      try clear hcz34_3
                      try clear hcz34_4
                      try clear hcz34_5
                      try clear hcz40_0
                      try clear hcz40_1
                      try clear hcz40_2
                      try clear hcz40_3
                      try clear hcz40_4
                      try clear hcz40_5
                      try clear hcz42_0
                      try clear hcz42_1
                      try clear hcz42_2
                      try clear hcz42_3
                      try clear hcz42_4
                      try clear hcz42_5
                      try clear hcz43_0
                      try clear hcz43_1
                      try clear hcz43_2
                      try clear hcz43_3
                      try clear hcz43_4
                      try clear hcz43_5
                      try clear hcz45_0
                      try clear hcz45_1
                      try clear hcz45_2
                      try clear hcz45_3
                      try clear hcz45_4
                      try clear hcz45_5
                      try clear hcz48_0
                      try clear hcz48_1
                      try clear hcz48_2
                      try clear hcz48_3
                      try clear hcz48_4
                      try clear hcz48_5
                      try clear hcz55_0
                      try clear hcz55_1
                      try clear hcz55_2
                      try clear hcz55_3
                      try clear hcz55_4
                      try clear hcz55_5
                      try clear hcz56_0
                      try clear hcz56_1
                      try clear hcz56_2
                      try clear hcz56_3
                      try clear hcz56_4
                      try clear hcz56_5
                      try clear hcz5_0
                      try clear hcz5_1
                      try clear hcz5_2
                      try clear hcz5_3
                      try clear hcz5_4
                      try clear hcz5_5
                      try clear hcz7_0
                      try clear hcz7_1
                      try clear hcz7_2
                      try clear hcz7_3
                      try clear hcz7_4
                      try clear hcz7_5
                      try clear hcz9_0
                      try clear hcz9_1
                      try clear hcz9_2
                      try clear hcz9_3
                      try clear hcz9_4
                      try clear hcz9_5
                      try clear hfz11_0
                      try clear hfz11_1
                      try clear hfz11_2
                      try clear hfz11_3
                      try clear hfz11_4
                      try clear hfz11_5
                      try clear hfz13_0
                      try clear hfz13_1
                      try clear hfz13_2
                      try clear hfz13_3
                      try clear hfz13_4
                      try clear hfz13_5
                      try clear hfz14_0
                      try clear hfz14_1
                      try clear hfz14_2
                      try clear hfz14_3
                      try clear hfz14_4
                      try clear hfz14_5
                      try clear hfz18_0
                      try clear hfz18_1
                      try clear hfz18_2
                      try clear hfz18_3
                      try clear hfz18_4
                      try clear hfz18_5
                      try clear hfz19_0
                      try clear hfz19_1
                      try clear hfz19_2
                      try clear hfz19_3
                      try clear hfz19_4
                      try clear hfz19_5
                      try clear hfz27_0
                      try clear hfz27_1
                      try clear hfz27_2
                      try clear hfz27_3
                      try clear hfz27_4
                      try clear hfz27_5
                      try clear hfz28_0
                      try clear hfz28_1
                      try clear hfz28_2
                      try clear hfz28_3
                      try clear hfz28_4
                      try clear hfz28_5
                      try clear hfz29_0
                      try clear hfz29_1
                      try clear hfz29_2
                      try clear hfz29_3
                      try clear hfz29_4
                      try clear hfz29_5
                      try clear hfz30_0
                      try clear hfz30_1
                      try clear hfz30_2
                      try clear hfz30_3
                      try clear hfz30_4
                      try clear hfz30_5
                      try clear hfz34_0
                      try clear hfz34_1
                      try clear hfz34_2
                      try clear hfz34_3
                      try clear hfz34_4
                      try clear hfz34_5
                      try clear hfz40_0
                      try clear hfz40_1
                      try clear hfz40_2
                      try clear hfz40_3
                      try clear hfz40_4
                      try clear hfz40_5
                      try clear hfz42_0
                      try clear hfz42_1
                      try clear hfz42_2
                      try clear hfz42_3
                      try clear hfz42_4
                      try clear hfz42_5
                      try clear hfz43_0
                      try clear hfz43_1
                      try clear hfz43_2
                      try clear hfz43_3
                      try clear hfz43_4
                      try clear hfz43_5
                      try clear hfz45_0
                      try clear hfz45_1
                      try clear hfz45_2
                      try clear hfz45_3
                      try clear hfz45_4
                      try clear hfz45_5
                      try clear hfz48_0
                      try clear hfz48_1
                      try clear hfz48_2
                      try clear hfz48_3
                      try clear hfz48_4
                      try clear hfz48_5
                      try clear hfz55_0
                      try clear hfz55_1
                      try clear hfz55_2
                      try clear hfz55_3
                      try clear hfz55_4
                      try clear hfz55_5
                      try clear hfz56_0
                      try clear hfz56_1
                      try clear hfz56_2
                      try clear hfz56_3
                      try clear hfz56_4
                      try clear hfz56_5
                      try clear hfz5_0
                      try clear hfz5_1
                      try clear hfz5_2
                      try clear hfz5_3
                      try clear hfz5_4
                      try clear hfz5_5
                      try clear hfz7_0
                      try clear hfz7_1
                      try clear hfz7_2
                      try clear hfz7_3
                      try clear hfz7_4
                      try clear hfz7_5
                      try clear hfz9_0
                      try clear hfz9_1
                      try clear hfz9_2
                      try clear hfz9_3
                      try clear hfz9_4
                      try clear hfz9_5
                      try clear hx177_0
                      try clear hx178_0
                      try clear hx179_0
                      try clear hx180_0
                      try clear hx181_0
                      try clear hx182_0
                      try clear hx183_0
                      try clear hx184_0
                      try clear p1
                      try clear p17
                      try clear p177
                      try clear p178
                      try clear p179
                      try clear p18
                      try clear p180
                      try clear p181
                      try clear p182
                      try clear p183
                      try clear p184
                      try clear p2
                      try clear p6
                      try clear q1
                      try clear q17
                      try clear q177
                      try clear q178
                      try clear q179
                      try clear q18
                      try clear q180
                      try clear q181
                      try clear q182
                      try clear q183
                      try clear q184
                      obtain ⟨kq,x7_46,rfl,HA,HJ46,BK176,HB⟩:=hcut
                      cases kq with
                      | zero=>exact absurd HA.out (by simp [coppicerref_TurnerCheck.j8])
                      | succ kj46 =>
                       have H:=HA.out
                       clear HA
                       simp only [coppicerref_TurnerCheck.j8] at H
                       by_cases c57 : 0 ≤ x8_6
                       ·rw [if_pos c57] at H
                        have c57b0 : decide (0 ≤ x8_6) = true:=decide_eq_true c57
                        clear c57
                        by_cases c58 : x8_6 < (l0_4.length : Int)
                        ·rw [if_pos c58] at H
                         have c58b0 : decide (x8_6 < (l0_4.length : Int)) = true:=decide_eq_true c58
                         clear c58
                         by_cases c59 : 0 ≤ x9_7
                         ·rw [if_pos c59] at H
                          have c59b0 : decide (0 ≤ x9_7) = true:=decide_eq_true c59
                          clear c59
                          by_cases c60 : x9_7 < ((rd_L2 l0_4 x8_6).length : Int)
                          ·rw [if_pos c60] at H
                           have c60b0 : decide (x9_7 < ((rd_L2 l0_4 x8_6).length : Int)) = true:=decide_eq_true c60
                           clear c60
                           have H':=Aside0.mk H
                           clear H
                           have hcz61_0 : wc.cell? ⟨gb176,0,none⟩ = some (.int .i64 a0_0):=(blk_cell BK176.out 0).trans rfl
                           have hcz61_1 : wc.cell? ⟨gb176,1,none⟩ = some (.int .i64 a0_1):=(blk_cell BK176.out 1).trans rfl
                           have hcz61_2 : wc.cell? ⟨gb176,2,none⟩ = some (.int .i64 a0_2):=(blk_cell BK176.out 2).trans rfl
                           have hcz61_3 : wc.cell? ⟨gb176,3,none⟩ = some (.slice A0_3 l0_3.length c0_3):=(blk_cell BK176.out 3).trans rfl
                           have hcz61_4 : wc.cell? ⟨gb176,4,none⟩ = some (.slice A0_4 l0_4.length c0_4):=(blk_cell BK176.out 4).trans rfl
                           have hcz61_5 : wc.cell? ⟨gb176,5,none⟩ = some (.int .i64 a0_5):=(blk_cell BK176.out 5).trans rfl
                           have hfz61_0:=blk_frozen BK176.out 0
                           have hfz61_1:=blk_frozen BK176.out 1
                           have hfz61_2:=blk_frozen BK176.out 2
                           have hfz61_3:=blk_frozen BK176.out 3
                           have hfz61_4:=blk_frozen BK176.out 4
                           have hfz61_5:=blk_frozen BK176.out 5
                           have p185 : 0 ≤ (x8_6 : Int):=of_decide_eq_true (by first|(with_reducible assumption)|assumption)
                           have q185 : x8_6 < (l0_4.length : Int):=of_decide_eq_true (by first|(with_reducible assumption)|assumption)
                           obtain ⟨ad185,A185_0,c185_0,e185,hx185_0,hl185_0,hi185_0⟩:=at_L2 HR0_4.out x8_6 p185 q185
                           cases e185
                           replace hx185_0:=(HB.out.cell (World.block_lt_of_cell? w _ hx185_0)).trans hx185_0
                           have HR185_0:=Aside0.mk hi185_0
                           have HC185_0:=Aside0.mk hl185_0
                           clear hi185_0 hl185_0
                           replace p185:=eq_true p185
                           replace q185:=eq_true q185
                           have p186 : 0 ≤ (x9_7 : Int):=of_decide_eq_true (by first|(with_reducible assumption)|assumption)
                           have q186 : x9_7 < ((rd_L2 l0_4 x8_6).length : Int):=of_decide_eq_true (by first|(with_reducible assumption)|assumption)
                           obtain ⟨ad186,A186_0,c186_0,e186,hx186_0,hl186_0,hi186_0⟩:=at_L1 HR185_0.out x9_7 p186 q186
                           cases e186
                           replace hx186_0:=(HB.out.cell (World.block_lt_of_cell? w _ hx186_0)).trans hx186_0
                           have HR186_0:=Aside0.mk hi186_0
                           have HC186_0:=Aside0.mk hl186_0
                           clear hi186_0 hl186_0
                           replace p186:=eq_true p186
                           replace q186:=eq_true q186
                           go_wp2
                           repeat (go_quiet (fail);try go_wp2)
                           go_loopg [7,156] kj46 (fun kq v7 v156 w'=>∃ (x7_9 : Bool) (x156_9 : Int),v7 = .bool x7_9 ∧ v156 = .int .i64 x156_9 ∧ Aside0 (coppicerref_TurnerCheck.l5 kq x7_9 x8_6 x9_7 (rd_L1 (rd_L2 l0_4 x8_6) x9_7) ((rd_L1 (rd_L2 l0_4 x8_6) x9_7).length : Int) x156_9 a0_0 a0_1 a0_2 l0_3 l0_4 a0_5 = some r) ∧ Aside0 (kq ≤ kj46) ∧ Aside0 (w'.heap[gb176]? = some (.cells #[.int .i64 a0_0,.int .i64 a0_1,.int .i64 a0_2,(.slice A0_3 l0_3.length c0_3),(.slice (some ad185) l0_4.length c0_4),.int .i64 a0_5] 25 (0,0))) ∧ Aside0 (Below w.heap.size w w'))
                           case atStart=>exact ⟨(x7_46),(0),(by first|rfl|(simp;done)|(simp [*];done)),(by first|rfl|(simp;done)|(simp [*];done)),H',⟨Nat.le_refl _⟩,⟨by (with_reducible repeat (first|refine blk_drewN ?_ _|refine blk_drew ?_|refine blk_alloc ?_ _));exact BK176.out⟩,⟨by repeat (first|(with_reducible first|exact HB.out|apply below_alloc|apply pw_below_drewN|apply below_drew1|refine below_set ?_ GE176.out)|exact HB.out)⟩⟩
                           case round =>
                            clear H'
                            try clear c1
                            try clear p1
                            try clear q1
                            try clear hx1
                            try clear c2
                            try clear p2
                            try clear c3
                            try clear c4
                            try clear c4b0
                            try clear c5
                            try clear c6
                            try clear c6b0
                            try clear p6
                            try clear c8
                            try clear c8b0
                            try clear c10
                            try clear c10b0
                            try clear c12
                            try clear c12b0
                            try clear c15
                            try clear c17
                            try clear c17b0
                            try clear c17b1
                            try clear p17
                            try clear q17
                            try clear hx17
                            try clear c18
                            try clear p18
                            try clear q18
                            try clear hx18
                            try clear c20
                            try clear c21
                            try clear c21b0
                            try clear c22
                            try clear c22b0
                            try clear c23
                            try clear c23b0
                            try clear c24
                            try clear c24b0
                            try clear c24b1
                            try clear c25
                            try clear c25b0
                            try clear c26
                            try clear c26b0
                            try clear c26b1
                            try clear c31
                            try clear c31b0
                            try clear c32
                            try clear c32b0
                            try clear c33
                            try clear c33b0
                            try clear c35
                            try clear c35b0
                            try clear c36
                            try clear c36b0
                            try clear c37
                            try clear c37b0
                            try clear c38
                            try clear c38b0
                            try clear c38b1
                            try clear c41
                            try clear c41b0
                            try clear c44
                            try clear c44b0
                            try clear c46
                            try clear c46b0
                            try clear c49
                            try clear c50
                            try clear c50b0
                            try clear c51
                            try clear c51b0
                            try clear c52
                            try clear c52b0
                            try clear c53
                            try clear c53b0
                            try clear c54
                            try clear c54b0
                            try clear c57
                            try clear c57b0
                            try clear c58
                            try clear c58b0
                            try clear c59
                            try clear c59b0
                            try clear c60
                            try clear c60b0
                            try clear hcz11_0
                            try clear hcz11_1
                            try clear hcz11_2
                            try clear hcz11_3
                            try clear hcz11_4
                            try clear hcz11_5
                            try clear hcz13_0
                            try clear hcz13_1
                            try clear hcz13_2
                            try clear hcz13_3
                            try clear hcz13_4
                            try clear hcz13_5
                            try clear hcz14_0
                            try clear hcz14_1
                            try clear hcz14_2
                            try clear hcz14_3
                            try clear hcz14_4
                            try clear hcz14_5
                            try clear hcz18_0
                            try clear hcz18_1
                            try clear hcz18_2
                            try clear hcz18_3
                            try clear hcz18_4
                            try clear hcz18_5
                            try clear hcz19_0
                            try clear hcz19_1
                            try clear hcz19_2
                            try clear hcz19_3
                            try clear hcz19_4
                            try clear hcz19_5
                            try clear hcz27_0
                            try clear hcz27_1
                            try clear hcz27_2
                            try clear hcz27_3
                            try clear hcz27_4
                            try clear hcz27_5
                            try clear hcz28_0
                            try clear hcz28_1
                            try clear hcz28_2
                            try clear hcz28_3
                            try clear hcz28_4
                            try clear hcz28_5
                            try clear hcz29_0
                            try clear hcz29_1
                            try clear hcz29_2
                            try clear hcz29_3
                            try clear hcz29_4
                            try clear hcz29_5
                            try clear hcz30_0
                            try clear hcz30_1
                            try clear hcz30_2
                            try clear hcz30_3
                            try clear hcz30_4
                            try clear hcz30_5
                            try clear hcz34_0
                            try clear hcz34_1
                            try clear hcz34_2
                            try clear hcz34_3
                            try clear hcz34_4
                            try clear hcz34_5
                            try clear hcz40_0
                            try clear hcz40_1
                            try clear hcz40_2
                            try clear hcz40_3
                            try clear hcz40_4
                            try clear hcz40_5
                            try clear hcz42_0
                            try clear hcz42_1
                            try clear hcz42_2
                            try clear hcz42_3
                            try clear hcz42_4
                            try clear hcz42_5
                            try clear hcz43_0
                            try clear hcz43_1
                            try clear hcz43_2
                            try clear hcz43_3
                            try clear hcz43_4
                            try clear hcz43_5
                            try clear hcz45_0
                            try clear hcz45_1
                            try clear hcz45_2
                            try clear hcz45_3
                            try clear hcz45_4
                            try clear hcz45_5
                            try clear hcz48_0
                            try clear hcz48_1
                            try clear hcz48_2
                            try clear hcz48_3
                            try clear hcz48_4
                            try clear hcz48_5
                            try clear hcz55_0
                            try clear hcz55_1
                            try clear hcz55_2
                            try clear hcz55_3
                            try clear hcz55_4
                            try clear hcz55_5
                            try clear hcz56_0
                            try clear hcz56_1
                            try clear hcz56_2
                            try clear hcz56_3
                            try clear hcz56_4
                            try clear hcz56_5
                            try clear hcz5_0
                            try clear hcz5_1
                            try clear hcz5_2
                            try clear hcz5_3
                            try clear hcz5_4
                            try clear hcz5_5
                            try clear hcz61_0
                            try clear hcz61_1
                            try clear hcz61_2
                            try clear hcz61_3
                            try clear hcz61_4
                            try clear hcz61_5
                            try clear hcz7_0
                            try clear hcz7_1
                            try clear hcz7_2
                            try clear hcz7_3
                            try clear hcz7_4
                            try clear hcz7_5
                            try clear hcz9_0
                            try clear hcz9_1
                            try clear hcz9_2
                            try clear hcz9_3
                            try clear hcz9_4
                            try clear hcz9_5
                            try clear hfz11_0
                            try clear hfz11_1
                            try clear hfz11_2
                            try clear hfz11_3
                            try clear hfz11_4
                            try clear hfz11_5
                            try clear hfz13_0
                            try clear hfz13_1
                            try clear hfz13_2
                            try clear hfz13_3
                            try clear hfz13_4
                            try clear hfz13_5
                            try clear hfz14_0
                            try clear hfz14_1
                            try clear hfz14_2
                            try clear hfz14_3
                            try clear hfz14_4
                            try clear hfz14_5
                            try clear hfz18_0
                            try clear hfz18_1
                            try clear hfz18_2
                            try clear hfz18_3
                            try clear hfz18_4
                            try clear hfz18_5
                            try clear hfz19_0
                            try clear hfz19_1
                            try clear hfz19_2
                            try clear hfz19_3
                            try clear hfz19_4
                            try clear hfz19_5
                            try clear hfz27_0
                            try clear hfz27_1
                            try clear hfz27_2
                            try clear hfz27_3
                            try clear hfz27_4
                            try clear hfz27_5
                            try clear hfz28_0
                            try clear hfz28_1
                            try clear hfz28_2
                            try clear hfz28_3
                            try clear hfz28_4
                            try clear hfz28_5
                            try clear hfz29_0
                            try clear hfz29_1
                            try clear hfz29_2
                            try clear hfz29_3
                            try clear hfz29_4
                            try clear hfz29_5
                            try clear hfz30_0
                            try clear hfz30_1
                            try clear hfz30_2
                            try clear hfz30_3
                            try clear hfz30_4
                            try clear hfz30_5
                            try clear hfz34_0
                            try clear hfz34_1
                            try clear hfz34_2
                            try clear hfz34_3
                            try clear hfz34_4
                            try clear hfz34_5
                            try clear hfz40_0
                            try clear hfz40_1
                            try clear hfz40_2
                            try clear hfz40_3
                            try clear hfz40_4
                            try clear hfz40_5
                            try clear hfz42_0
                            try clear hfz42_1
                            try clear hfz42_2
                            try clear hfz42_3
                            try clear hfz42_4
                            try clear hfz42_5
                            try clear hfz43_0
                            try clear hfz43_1
                            try clear hfz43_2
                            try clear hfz43_3
                            try clear hfz43_4
                            try clear hfz43_5
                            try clear hfz45_0
                            try clear hfz45_1
                            try clear hfz45_2
                            try clear hfz45_3
                            try clear hfz45_4
                            try clear hfz45_5
                            try clear hfz48_0
                            try clear hfz48_1
                            try clear hfz48_2
                            try clear hfz48_3
                            try clear hfz48_4
                            try clear hfz48_5
                            try clear hfz55_0
                            try clear hfz55_1
                            try clear hfz55_2
                            try clear hfz55_3
                            try clear hfz55_4
                            try clear hfz55_5
                            try clear hfz56_0
                            try clear hfz56_1
                            try clear hfz56_2
                            try clear hfz56_3
                            try clear hfz56_4
                            try clear hfz56_5
                            try clear hfz5_0
                            try clear hfz5_1
                            try clear hfz5_2
                            try clear hfz5_3
                            try clear hfz5_4
                            try clear hfz5_5
                            try clear hfz61_0
                            try clear hfz61_1
                            try clear hfz61_2
                            try clear hfz61_3
                            try clear hfz61_4
                            try clear hfz61_5
                            try clear hfz7_0
                            try clear hfz7_1
                            try clear hfz7_2
                            try clear hfz7_3
                            try clear hfz7_4
                            try clear hfz7_5
                            try clear hfz9_0
                            try clear hfz9_1
                            try clear hfz9_2
                            try clear hfz9_3
                            try clear hfz9_4
                            try clear hfz9_5
                            try clear hx177_0
                            try clear hx178_0
                            try clear hx179_0
                            try clear hx180_0
                            try clear hx181_0
                            try clear hx182_0
                            try clear hx183_0
                            try clear hx184_0
                            try clear hx185_0
                            try clear hx186_0
                            try clear p1
                            try clear p17
                            try clear p177
                            try clear p178
                            try clear p179
                            try clear p18
                            try clear p180
                            try clear p181
                            try clear p182
                            try clear p183
                            try clear p184
                            try clear p185
                            try clear p186
                            try clear p2
                            try clear p6
                            try clear q1
                            try clear q17
                            try clear q177
                            try clear q178
                            try clear q179
                            try clear q18
                            try clear q180
                            try clear q181
                            try clear q182
                            try clear q183
                            try clear q184
                            try clear q185
                            try clear q186
                            obtain ⟨x7_9,x156_9,rfl,rfl,HA,HK9,BK176,HB⟩:=hrel
                            cases gk with
                            | zero=>exact absurd HA.out (by simp [coppicerref_TurnerCheck.l5])
                            | succ k9 =>
                             have H:=HA.out
                             clear HA
                             simp only [coppicerref_TurnerCheck.l5] at H
                             by_cases c62 : x156_9 < ((rd_L1 (rd_L2 l0_4 x8_6) x9_7).length : Int)
                             ·rw [if_pos c62] at H
                              have c62b0 : decide (x156_9 < ((rd_L1 (rd_L2 l0_4 x8_6) x9_7).length : Int)) = true:=decide_eq_true c62
                              clear c62
                              by_cases c63 : 0 ≤ x156_9
                              ·rw [if_pos c63] at H
                               have c63b0 : decide (0 ≤ x156_9) = true:=decide_eq_true c63
                               clear c63
                               by_cases c64 : x156_9 < ((rd_L1 (rd_L2 l0_4 x8_6) x9_7).length : Int)
                               ·rw [if_pos c64] at H
                                have c64b0 : decide (x156_9 < ((rd_L1 (rd_L2 l0_4 x8_6) x9_7).length : Int)) = true:=decide_eq_true c64
                                clear c64
                                by_cases c65 : x7_9 = true
                                ·subst c65
                                 have H1 : (coppicerref_TurnerCheck.l5 k9 true x8_6 x9_7 (rd_L1 (rd_L2 l0_4 x8_6) x9_7) ((rd_L1 (rd_L2 l0_4 x8_6) x9_7).length : Int) (wrap64 (x156_9 + 1)) a0_0 a0_1 a0_2 l0_3 l0_4 a0_5) = some r:=by rw [if_pos rfl] at H;exact H
                                 clear H
                                 have H:=H1
                                 clear H1
                                 have H':=Aside0.mk H
                                 clear H
                                 have p187 : 0 ≤ (x156_9 : Int):=of_decide_eq_true (by first|(with_reducible assumption)|assumption)
                                 have q187 : x156_9 < ((rd_L1 (rd_L2 l0_4 x8_6) x9_7).length : Int):=of_decide_eq_true (by first|(with_reducible assumption)|assumption)
                                 obtain ⟨ad187,e187,hx187_0⟩:=Kd.at_int HR186_0.out x156_9 p187 q187
                                 cases e187
                                 replace hx187_0:=(HB.out.cell (World.block_lt_of_cell? w _ hx187_0)).trans hx187_0
                                 replace p187:=eq_true p187
                                 replace q187:=eq_true q187
                                 go_wp2
                                 repeat (go_quiet (fail);try go_wp2)
                                 go_roundg k9
                                 case measure=>have:=HJ1.out;have:=HJ15.out;have:=HK3.out;have:=HK4.out;have:=HJ38.out;have:=HK6.out;have:=HK7.out;have:=HJ46.out;have:=HK9.out;omega
                                 case rel=>exact ⟨(true),(wrap64 (x156_9 + 1)),(by first|rfl|(simp;done)|(simp [*];done)),(by first|rfl|(simp;done)|(simp [*];done)),H',⟨by have:=HJ1.out;have:=HJ15.out;have:=HK3.out;have:=HK4.out;have:=HJ38.out;have:=HK6.out;have:=HK7.out;have:=HJ46.out;have:=HK9.out;omega⟩,⟨by (with_reducible repeat (first|refine blk_drewN ?_ _|refine blk_drew ?_|refine blk_alloc ?_ _));exact BK176.out⟩,⟨by repeat (first|(with_reducible first|exact HB.out|apply below_alloc|apply pw_below_drewN|apply below_drew1|refine below_set ?_ GE176.out)|exact HB.out)⟩⟩
                                ·replace c65:=Bool.eq_false_iff.mpr c65
                                 subst c65
                                 have H1 : (if (rd (rd_L1 (rd_L2 l0_4 x8_6) x9_7) x156_9) < 0 then (coppicerref_TurnerCheck.l5 k9 true x8_6 x9_7 (rd_L1 (rd_L2 l0_4 x8_6) x9_7) ((rd_L1 (rd_L2 l0_4 x8_6) x9_7).length : Int) (wrap64 (x156_9 + 1)) a0_0 a0_1 a0_2 l0_3 l0_4 a0_5) else (coppicerref_TurnerCheck.l5 k9 (decide ((rd (rd_L1 (rd_L2 l0_4 x8_6) x9_7) x156_9) ≥ a0_2)) x8_6 x9_7 (rd_L1 (rd_L2 l0_4 x8_6) x9_7) ((rd_L1 (rd_L2 l0_4 x8_6) x9_7).length : Int) (wrap64 (x156_9 + 1)) a0_0 a0_1 a0_2 l0_3 l0_4 a0_5)) = some r:=by rw [if_neg (show ¬ (false = true) by decide)] at H;exact H
                                 clear H
                                 have H:=H1
                                 clear H1
                                 by_cases c66 : (rd (rd_L1 (rd_L2 l0_4 x8_6) x9_7) x156_9) < 0
                                 ·rw [if_pos c66] at H
                                  have c66b0 : decide ((rd (rd_L1 (rd_L2 l0_4 x8_6) x9_7) x156_9) < 0) = true:=decide_eq_true c66
                                  clear c66
                                  have H':=Aside0.mk H
                                  clear H
                                  have p187 : 0 ≤ (x156_9 : Int):=of_decide_eq_true (by first|(with_reducible assumption)|assumption)
                                  have q187 : x156_9 < ((rd_L1 (rd_L2 l0_4 x8_6) x9_7).length : Int):=of_decide_eq_true (by first|(with_reducible assumption)|assumption)
                                  obtain ⟨ad187,e187,hx187_0⟩:=Kd.at_int HR186_0.out x156_9 p187 q187
                                  cases e187
                                  replace hx187_0:=(HB.out.cell (World.block_lt_of_cell? w _ hx187_0)).trans hx187_0
                                  replace p187:=eq_true p187
                                  replace q187:=eq_true q187
                                  go_wp2
                                  repeat (go_quiet (fail);try go_wp2)
                                  go_roundg k9
                                  case measure=>have:=HJ1.out;have:=HJ15.out;have:=HK3.out;have:=HK4.out;have:=HJ38.out;have:=HK6.out;have:=HK7.out;have:=HJ46.out;have:=HK9.out;omega
                                  case rel=>exact ⟨(true),(wrap64 (x156_9 + 1)),(by first|rfl|(simp;done)|(simp [*];done)),(by first|rfl|(simp;done)|(simp [*];done)),H',⟨by have:=HJ1.out;have:=HJ15.out;have:=HK3.out;have:=HK4.out;have:=HJ38.out;have:=HK6.out;have:=HK7.out;have:=HJ46.out;have:=HK9.out;omega⟩,⟨by (with_reducible repeat (first|refine blk_drewN ?_ _|refine blk_drew ?_|refine blk_alloc ?_ _));exact BK176.out⟩,⟨by repeat (first|(with_reducible first|exact HB.out|apply below_alloc|apply pw_below_drewN|apply below_drew1|refine below_set ?_ GE176.out)|exact HB.out)⟩⟩
                                 ·rw [if_neg c66] at H
                                  have c66b0 : decide ((rd (rd_L1 (rd_L2 l0_4 x8_6) x9_7) x156_9) < 0) = false:=decide_eq_false c66
                                  clear c66
                                  have H':=Aside0.mk H
                                  clear H
                                  have p187 : 0 ≤ (x156_9 : Int):=of_decide_eq_true (by first|(with_reducible assumption)|assumption)
                                  have q187 : x156_9 < ((rd_L1 (rd_L2 l0_4 x8_6) x9_7).length : Int):=of_decide_eq_true (by first|(with_reducible assumption)|assumption)
                                  obtain ⟨ad187,e187,hx187_0⟩:=Kd.at_int HR186_0.out x156_9 p187 q187
                                  cases e187
                                  replace hx187_0:=(HB.out.cell (World.block_lt_of_cell? w _ hx187_0)).trans hx187_0
                                  replace p187:=eq_true p187
                                  replace q187:=eq_true q187
                                  have hcz67_0 : wr.cell? ⟨gb176,0,none⟩ = some (.int .i64 a0_0):=(blk_cell BK176.out 0).trans rfl
                                  have hcz67_1 : wr.cell? ⟨gb176,1,none⟩ = some (.int .i64 a0_1):=(blk_cell BK176.out 1).trans rfl
                                  have hcz67_2 : wr.cell? ⟨gb176,2,none⟩ = some (.int .i64 a0_2):=(blk_cell BK176.out 2).trans rfl
                                  have hcz67_3 : wr.cell? ⟨gb176,3,none⟩ = some (.slice A0_3 l0_3.length c0_3):=(blk_cell BK176.out 3).trans rfl
                                  have hcz67_4 : wr.cell? ⟨gb176,4,none⟩ = some (.slice (some ad185) l0_4.length c0_4):=(blk_cell BK176.out 4).trans rfl
                                  have hcz67_5 : wr.cell? ⟨gb176,5,none⟩ = some (.int .i64 a0_5):=(blk_cell BK176.out 5).trans rfl
                                  have hfz67_0:=blk_frozen BK176.out 0
                                  have hfz67_1:=blk_frozen BK176.out 1
                                  have hfz67_2:=blk_frozen BK176.out 2
                                  have hfz67_3:=blk_frozen BK176.out 3
                                  have hfz67_4:=blk_frozen BK176.out 4
                                  have hfz67_5:=blk_frozen BK176.out 5
                                  go_wp2
                                  repeat (go_quiet (fail);try go_wp2)
                                  go_roundg k9
                                  case measure=>have:=HJ1.out;have:=HJ15.out;have:=HK3.out;have:=HK4.out;have:=HJ38.out;have:=HK6.out;have:=HK7.out;have:=HJ46.out;have:=HK9.out;omega
                                  case rel=>exact ⟨(decide ((rd (rd_L1 (rd_L2 l0_4 x8_6) x9_7) x156_9) ≥ a0_2)),(wrap64 (x156_9 + 1)),(by first|rfl|(simp;done)|(simp [*];done)),(by first|rfl|(simp;done)|(simp [*];done)),H',⟨by have:=HJ1.out;have:=HJ15.out;have:=HK3.out;have:=HK4.out;have:=HJ38.out;have:=HK6.out;have:=HK7.out;have:=HJ46.out;have:=HK9.out;omega⟩,⟨by (with_reducible repeat (first|refine blk_drewN ?_ _|refine blk_drew ?_|refine blk_alloc ?_ _));exact BK176.out⟩,⟨by repeat (first|(with_reducible first|exact HB.out|apply below_alloc|apply pw_below_drewN|apply below_drew1|refine below_set ?_ GE176.out)|exact HB.out)⟩⟩
                               ·rw [if_neg c64] at H
                                exact absurd H (by simp)
                              ·rw [if_neg c63] at H
                               exact absurd H (by simp)
                             ·rw [if_neg c62] at H
                              have c62b0 : decide (x156_9 < ((rd_L1 (rd_L2 l0_4 x8_6) x9_7).length : Int)) = false:=decide_eq_false c62
                              clear c62
                              have H':=Aside0.mk H
                              clear H
                              go_wp2
                              repeat (go_quiet (fail);try go_wp2)
                              go_roundg k9
                              case measure=>have:=HJ1.out;have:=HJ15.out;have:=HK3.out;have:=HK4.out;have:=HJ38.out;have:=HK6.out;have:=HK7.out;have:=HJ46.out;have:=HK9.out;omega
                              case rel=>exact ⟨(x7_9),(wrap64 (x9_7 + 1)),(by first|rfl|(simp;done)|(simp [*];done)),(by first|rfl|(simp;done)|(simp [*];done)),H',⟨by have:=HJ1.out;have:=HJ15.out;have:=HK3.out;have:=HK4.out;have:=HJ38.out;have:=HK6.out;have:=HK7.out;have:=HJ46.out;have:=HK9.out;omega⟩,⟨by (with_reducible repeat (first|refine blk_drewN ?_ _|refine blk_drew ?_|refine blk_alloc ?_ _));exact BK176.out⟩,⟨by repeat (first|(with_reducible first|exact HB.out|apply below_alloc|apply pw_below_drewN|apply below_drew1|refine below_set ?_ GE176.out)|exact HB.out)⟩⟩
                          ·rw [if_neg c60] at H
                           exact absurd H (by simp)
                         ·rw [if_neg c59] at H
                          exact absurd H (by simp)
                        ·rw [if_neg c58] at H
                         exact absurd H (by simp)
                       ·rw [if_neg c57] at H
                        exact absurd H (by simp)
                    ·rw [if_neg c46] at H
                     have c46b0 : decide (x9_7 < a0_1) = false:=decide_eq_false c46
                     clear c46
                     have H':=Aside0.mk H
                     clear H
                     have hcz68_0 : wr.cell? ⟨gb176,0,none⟩ = some (.int .i64 a0_0):=(blk_cell BK176.out 0).trans rfl
                     have hcz68_1 : wr.cell? ⟨gb176,1,none⟩ = some (.int .i64 a0_1):=(blk_cell BK176.out 1).trans rfl
                     have hcz68_2 : wr.cell? ⟨gb176,2,none⟩ = some (.int .i64 a0_2):=(blk_cell BK176.out 2).trans rfl
                     have hcz68_3 : wr.cell? ⟨gb176,3,none⟩ = some (.slice A0_3 l0_3.length c0_3):=(blk_cell BK176.out 3).trans rfl
                     have hcz68_4 : wr.cell? ⟨gb176,4,none⟩ = some (.slice A0_4 l0_4.length c0_4):=(blk_cell BK176.out 4).trans rfl
                     have hcz68_5 : wr.cell? ⟨gb176,5,none⟩ = some (.int .i64 a0_5):=(blk_cell BK176.out 5).trans rfl
                     have hfz68_0:=blk_frozen BK176.out 0
                     have hfz68_1:=blk_frozen BK176.out 1
                     have hfz68_2:=blk_frozen BK176.out 2
                     have hfz68_3:=blk_frozen BK176.out 3
                     have hfz68_4:=blk_frozen BK176.out 4
                     have hfz68_5:=blk_frozen BK176.out 5
                     go_wp2
                     repeat (go_quiet (fail);try go_wp2)
                     go_roundg k7
                     case measure=>have:=HJ1.out;have:=HJ15.out;have:=HK3.out;have:=HK4.out;have:=HJ38.out;have:=HK6.out;have:=HK7.out;omega
                     case rel=>exact ⟨(x7_7),(wrap64 (x8_6 + 1)),(by first|rfl|(simp;done)|(simp [*];done)),(by first|rfl|(simp;done)|(simp [*];done)),H',⟨by have:=HJ1.out;have:=HJ15.out;have:=HK3.out;have:=HK4.out;have:=HJ38.out;have:=HK6.out;have:=HK7.out;omega⟩,⟨by (with_reducible repeat (first|refine blk_drewN ?_ _|refine blk_drew ?_|refine blk_alloc ?_ _));exact BK176.out⟩,⟨by repeat (first|(with_reducible first|exact HB.out|apply below_alloc|apply pw_below_drewN|apply below_drew1|refine below_set ?_ GE176.out)|exact HB.out)⟩⟩
                 ·rw [if_neg c44] at H
                  have c44b0 : decide (x8_6 < a0_0) = false:=decide_eq_false c44
                  clear c44
                  by_cases c69 : x7_6 = true
                  ·subst c69
                   have H1 : (some 2) = some r:=by rw [if_pos rfl] at H;exact H
                   clear H
                   have H:=H1
                   clear H1
                   obtain rfl:=Option.some.inj H
                   have hcz70_0 : wr.cell? ⟨gb176,0,none⟩ = some (.int .i64 a0_0):=(blk_cell BK176.out 0).trans rfl
                   have hcz70_1 : wr.cell? ⟨gb176,1,none⟩ = some (.int .i64 a0_1):=(blk_cell BK176.out 1).trans rfl
                   have hcz70_2 : wr.cell? ⟨gb176,2,none⟩ = some (.int .i64 a0_2):=(blk_cell BK176.out 2).trans rfl
                   have hcz70_3 : wr.cell? ⟨gb176,3,none⟩ = some (.slice A0_3 l0_3.length c0_3):=(blk_cell BK176.out 3).trans rfl
                   have hcz70_4 : wr.cell? ⟨gb176,4,none⟩ = some (.slice A0_4 l0_4.length c0_4):=(blk_cell BK176.out 4).trans rfl
                   have hcz70_5 : wr.cell? ⟨gb176,5,none⟩ = some (.int .i64 a0_5):=(blk_cell BK176.out 5).trans rfl
                   have hfz70_0:=blk_frozen BK176.out 0
                   have hfz70_1:=blk_frozen BK176.out 1
                   have hfz70_2:=blk_frozen BK176.out 2
                   have hfz70_3:=blk_frozen BK176.out 3
                   have hfz70_4:=blk_frozen BK176.out 4
                   have hfz70_5:=blk_frozen BK176.out 5
                   go_wp2
                   repeat (go_quiet (fail);try go_wp2)
                   go_ret
                   exact ⟨by first|rfl|(simp [errW_none,errW_some] <;> rfl)|(simp [*,errW_none,errW_some] <;> rfl),by repeat (first|(with_reducible first|exact HB.out|apply below_alloc|apply pw_below_drewN|apply below_drew1|refine below_set ?_ GE176.out)|exact HB.out)⟩
                  ·replace c69:=Bool.eq_false_iff.mpr c69
                   subst c69
                   have H1 : (some 0) = some r:=by rw [if_neg (show ¬ (false = true) by decide)] at H;exact H
                   clear H
                   have H:=H1
                   clear H1
                   obtain rfl:=Option.some.inj H
                   have hcz71_0 : wr.cell? ⟨gb176,0,none⟩ = some (.int .i64 a0_0):=(blk_cell BK176.out 0).trans rfl
                   have hcz71_1 : wr.cell? ⟨gb176,1,none⟩ = some (.int .i64 a0_1):=(blk_cell BK176.out 1).trans rfl
                   have hcz71_2 : wr.cell? ⟨gb176,2,none⟩ = some (.int .i64 a0_2):=(blk_cell BK176.out 2).trans rfl
                   have hcz71_3 : wr.cell? ⟨gb176,3,none⟩ = some (.slice A0_3 l0_3.length c0_3):=(blk_cell BK176.out 3).trans rfl
                   have hcz71_4 : wr.cell? ⟨gb176,4,none⟩ = some (.slice A0_4 l0_4.length c0_4):=(blk_cell BK176.out 4).trans rfl
                   have hcz71_5 : wr.cell? ⟨gb176,5,none⟩ = some (.int .i64 a0_5):=(blk_cell BK176.out 5).trans rfl
                   have hfz71_0:=blk_frozen BK176.out 0
                   have hfz71_1:=blk_frozen BK176.out 1
                   have hfz71_2:=blk_frozen BK176.out 2
                   have hfz71_3:=blk_frozen BK176.out 3
                   have hfz71_4:=blk_frozen BK176.out 4
                   have hfz71_5:=blk_frozen BK176.out 5
                   go_wp2
                   repeat (go_quiet (fail);try go_wp2)
                   go_ret
                   exact ⟨by first|rfl|(simp [errW_none,errW_some] <;> rfl)|(simp [*,errW_none,errW_some] <;> rfl),by repeat (first|(with_reducible first|exact HB.out|apply below_alloc|apply pw_below_drewN|apply below_drew1|refine below_set ?_ GE176.out)|exact HB.out)⟩
end Go.Proofs.Ytlkeemcapemkiaa.GA
