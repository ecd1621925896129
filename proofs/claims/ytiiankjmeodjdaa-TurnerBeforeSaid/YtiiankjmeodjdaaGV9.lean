-- Written by ext.py, a program of this session.
import Derived.Test.YtiiankjmeodjdaaGV0
import Derived.Test.YtiiankjmeodjdaaGV2
import Derived.Test.YtiiankjmeodjdaaGV5
namespace Go.Proofs.Ytiiankjmeodjdaa.GV
open Go.RowKit Go.Proofs.YtiiankjmeodjdaaW.PrintWords Go.Proofs.YtiiankjmeodjdaaW.PrintLast Go.Proofs.YtiiankjmeodjdaaW.PrintMore
attribute [local go_sem] max2_int min2_int max_two min_two max_three min_three max_four min_four cellIs_set   -- for this text's walks alone
set_option linter.unusedVariables false
set_option linter.unusedSimpArgs false
/-! ### turner_Takes: function 30 -/
mutual
def turner_Takes.l0 : Nat → Int → Int → Int → Int → Int → List (List Int) → List (List (List Int)) → Int → Int → Int → List (List Int) → Int → Int → Int → Int → List (List Int) → Int → Int → Option (Int × Int × (List (List Int)) × Int × Int × Int)
 | 0,_,_,_,_,_,_,_,_,_,_,_,_,_,_,_,_,_,_=>none
 | k + 1,x58,x59,x172000,x172001,x172002,x172003,x172004,x172005,x173000,x173001,x173002,x173003,x173004,x177000,x177001,x177002,x177003,x177004=>if x59 < x58 then (turner_Takes.l1 k x59 x58 x59 x173000 0 x172000 x172001 x172002 x172003 x172004 x172005 x173000 x173001 x173002 x173003 x173004 x177000 x177001 x177002 x177003 x177004) else (some (x177000,x177001,x177002,x177003,x177004,0))
def turner_Takes.l1 : Nat → Int → Int → Int → Int → Int → Int → Int → Int → List (List Int) → List (List (List Int)) → Int → Int → Int → List (List Int) → Int → Int → Int → Int → List (List Int) → Int → Int → Option (Int × Int × (List (List Int)) × Int × Int × Int)
 | 0,_,_,_,_,_,_,_,_,_,_,_,_,_,_,_,_,_,_,_,_,_=>none
 | k + 1,x9,x58,x59,x63,x64,x172000,x172001,x172002,x172003,x172004,x172005,x173000,x173001,x173002,x173003,x173004,x177000,x177001,x177002,x177003,x177004=>if x64 < x63 then (turner_Takes.l2 k x9 x64 ([] : List Int) x58 x59 x63 x64 x172001 0 x172000 x172001 x172002 x172003 x172004 x172005 x173000 x173001 x173002 x173003 x173004 x177000 x177001 x177002 x177003 x177004) else (turner_Takes.l0 k x58 (wrap64 (x59 + 1)) x172000 x172001 x172002 x172003 x172004 x172005 x173000 x173001 x173002 x173003 x173004 x177000 x177001 x177002 x177003 x177004)
def turner_Takes.l2 : Nat → Int → Int → List Int → Int → Int → Int → Int → Int → Int → Int → Int → Int → List (List Int) → List (List (List Int)) → Int → Int → Int → List (List Int) → Int → Int → Int → Int → List (List Int) → Int → Int → Option (Int × Int × (List (List Int)) × Int × Int × Int)
 | 0,_,_,_,_,_,_,_,_,_,_,_,_,_,_,_,_,_,_,_,_,_,_,_,_,_=>none
 | k + 1,x9,x10,x11,x58,x59,x63,x64,x68,x69,x172000,x172001,x172002,x172003,x172004,x172005,x173000,x173001,x173002,x173003,x173004,x177000,x177001,x177002,x177003,x177004=>if x69 < x68 then (if 0 ≤ x9 then (if x9 < (x172004.length : Int) then (if 0 ≤ x69 then (if x69 < ((rd_L2 x172004 x9).length : Int) then (turner_Takes.l3 k x9 x10 x11 x69 x10 x58 x59 x63 x64 x68 x69 (rd_L1 (rd_L2 x172004 x9) x69) ((rd_L1 (rd_L2 x172004 x9) x69).length : Int) 0 x172000 x172001 x172002 x172003 x172004 x172005 x173000 x173001 x173002 x173003 x173004 x177000 x177001 x177002 x177003 x177004) else (none)) else (none)) else (none)) else (none)) else (if x177002.length < 5864062014805 then (if 0 ≤ x10 then (if 0 ≤ (wrap64 ((wrap64 (x9 * x173000)) + x10)) then (turner_Takes.l1 k x9 x58 x59 x63 (wrap64 (x64 + 1)) x172000 x172001 x172002 x172003 x172004 x172005 x173000 x173001 x173002 x173003 x173004 x177000 x177001 (x177002 ++ [x11]) x177003 (Go.bits .or .u32 x177004 (shl .u32 (Go.bits .and .u32 (shr .u32 x173004 x10) 1) (wrap64 ((wrap64 (x9 * x173000)) + x10))))) else (none)) else (none)) else (none))
def turner_Takes.l3 : Nat → Int → Int → List Int → Int → Int → Int → Int → Int → Int → Int → Int → List Int → Int → Int → Int → Int → Int → List (List Int) → List (List (List Int)) → Int → Int → Int → List (List Int) → Int → Int → Int → Int → List (List Int) → Int → Int → Option (Int × Int × (List (List Int)) × Int × Int × Int)
 | 0,_,_,_,_,_,_,_,_,_,_,_,_,_,_,_,_,_,_,_,_,_,_,_,_,_,_,_,_,_,_=>none
 | k + 1,x9,x10,x11,x12,x13,x58,x59,x63,x64,x68,x69,x80,x81,x82,x172000,x172001,x172002,x172003,x172004,x172005,x173000,x173001,x173002,x173003,x173004,x177000,x177001,x177002,x177003,x177004=>if x82 < x81 then (if 0 ≤ x82 then (if x82 < (x80.length : Int) then (if 0 ≤ x13 then (if x13 < (x173002.length : Int) then (if 0 ≤ (rd x80 x82) then (if (rd x80 x82) < ((rd_L1 x173002 x13).length : Int) then (turner_Takes.l3 k x9 x10 x11 x12 (rd (rd_L1 x173002 x13) (rd x80 x82)) x58 x59 x63 x64 x68 x69 x80 x81 (wrap64 (x82 + 1)) x172000 x172001 x172002 x172003 x172004 x172005 x173000 x173001 x173002 x173003 x173004 x177000 x177001 x177002 x177003 x177004) else (none)) else (none)) else (none)) else (none)) else (none)) else (none)) else (if 0 ≤ x9 then (if x9 < (x172003.length : Int) then (if 0 ≤ x12 then (if x12 < ((rd_L1 x172003 x9).length : Int) then (if x11.length < 17592186044416 then (turner_Takes.l2 k x9 x10 (x11 ++ [wrap64 ((wrap64 ((rd (rd_L1 x172003 x9) x12) * x173000)) + x13)]) x58 x59 x63 x64 x68 (wrap64 (x69 + 1)) x172000 x172001 x172002 x172003 x172004 x172005 x173000 x173001 x173002 x173003 x173004 x177000 x177001 x177002 x177003 x177004) else (none)) else (none)) else (none)) else (none)) else (none))
end
def turner_Takes.f (k : Nat) (a0_0 : Int) (a0_1 : Int) (a0_2 : Int) (l0_3 : List (List Int)) (l0_4 : List (List (List Int))) (a0_5 : Int) (a1_0 : Int) (a1_1 : Int) (l1_2 : List (List Int)) (a1_3 : Int) (a1_4 : Int) : Option (Int × Int × (List (List Int)) × Int × Int × Int):=(turner_Check.f k a0_0 a0_1 a0_2 l0_3 l0_4 a0_5).bind fun t174=>(if t174 = 0 then ((machine_Check.f k a1_0 a1_1 l1_2 a1_3 a1_4).bind fun t175=>(if t175 = 0 then (if a0_2 = a1_1 then (if (wrap64 (a0_0 * a1_0)) > 7 then (some (0,0,([] : List (List Int)),0,0,1)) else (turner_Takes.l0 k a0_0 0 a0_0 a0_1 a0_2 l0_3 l0_4 a0_5 a1_0 a1_1 l1_2 a1_3 a1_4 (wrap64 (a0_0 * a1_0)) a0_1 ([] : List (List Int)) (wrap64 ((wrap64 (a0_5 * a1_0)) + a1_3)) 0)) else (some (0,0,([] : List (List Int)),0,0,3))) else (some (0,0,([] : List (List Int)),0,0,t175)))) else (some (0,0,([] : List (List Int)),0,0,t174)))
theorem turner_Takes.mono_l : ∀ k,(∀ y0 y1 y2 y3 y4 y5 y6 y7 y8 y9 y10 y11 y12 y13 y14 y15 y16 y17,LeO (turner_Takes.l0 k y0 y1 y2 y3 y4 y5 y6 y7 y8 y9 y10 y11 y12 y13 y14 y15 y16 y17) (turner_Takes.l0 (k + 1) y0 y1 y2 y3 y4 y5 y6 y7 y8 y9 y10 y11 y12 y13 y14 y15 y16 y17)) ∧ (∀ y0 y1 y2 y3 y4 y5 y6 y7 y8 y9 y10 y11 y12 y13 y14 y15 y16 y17 y18 y19 y20,LeO (turner_Takes.l1 k y0 y1 y2 y3 y4 y5 y6 y7 y8 y9 y10 y11 y12 y13 y14 y15 y16 y17 y18 y19 y20) (turner_Takes.l1 (k + 1) y0 y1 y2 y3 y4 y5 y6 y7 y8 y9 y10 y11 y12 y13 y14 y15 y16 y17 y18 y19 y20)) ∧ (∀ y0 y1 y2 y3 y4 y5 y6 y7 y8 y9 y10 y11 y12 y13 y14 y15 y16 y17 y18 y19 y20 y21 y22 y23 y24,LeO (turner_Takes.l2 k y0 y1 y2 y3 y4 y5 y6 y7 y8 y9 y10 y11 y12 y13 y14 y15 y16 y17 y18 y19 y20 y21 y22 y23 y24) (turner_Takes.l2 (k + 1) y0 y1 y2 y3 y4 y5 y6 y7 y8 y9 y10 y11 y12 y13 y14 y15 y16 y17 y18 y19 y20 y21 y22 y23 y24)) ∧ (∀ y0 y1 y2 y3 y4 y5 y6 y7 y8 y9 y10 y11 y12 y13 y14 y15 y16 y17 y18 y19 y20 y21 y22 y23 y24 y25 y26 y27 y28 y29,LeO (turner_Takes.l3 k y0 y1 y2 y3 y4 y5 y6 y7 y8 y9 y10 y11 y12 y13 y14 y15 y16 y17 y18 y19 y20 y21 y22 y23 y24 y25 y26 y27 y28 y29) (turner_Takes.l3 (k + 1) y0 y1 y2 y3 y4 y5 y6 y7 y8 y9 y10 y11 y12 y13 y14 y15 y16 y17 y18 y19 y20 y21 y22 y23 y24 y25 y26 y27 y28 y29))
 | 0=>⟨fun _ _ _ _ _ _ _ _ _ _ _ _ _ _ _ _ _ _ r h=>by simp [turner_Takes.l0] at h,fun _ _ _ _ _ _ _ _ _ _ _ _ _ _ _ _ _ _ _ _ _ r h=>by simp [turner_Takes.l1] at h,fun _ _ _ _ _ _ _ _ _ _ _ _ _ _ _ _ _ _ _ _ _ _ _ _ _ r h=>by simp [turner_Takes.l2] at h,fun _ _ _ _ _ _ _ _ _ _ _ _ _ _ _ _ _ _ _ _ _ _ _ _ _ _ _ _ _ _ r h=>by simp [turner_Takes.l3] at h⟩
 | k + 1=>by
  obtain ⟨ih0,ih1,ih2,ih3⟩:=turner_Takes.mono_l k
  refine ⟨?_,?_,?_,?_⟩
  ·intro y0 y1 y2 y3 y4 y5 y6 y7 y8 y9 y10 y11 y12 y13 y14 y15 y16 y17
   unfold turner_Takes.l0
   repeat' first
   | (with_reducible exact ih0 _ _ _ _ _ _ _ _ _ _ _ _ _ _ _ _ _ _)
   | (with_reducible exact ih1 _ _ _ _ _ _ _ _ _ _ _ _ _ _ _ _ _ _ _ _ _)
   | (with_reducible exact ih2 _ _ _ _ _ _ _ _ _ _ _ _ _ _ _ _ _ _ _ _ _ _ _ _ _)
   | (with_reducible exact ih3 _ _ _ _ _ _ _ _ _ _ _ _ _ _ _ _ _ _ _ _ _ _ _ _ _ _ _ _ _ _)
   | (with_reducible exact machine_Check.mono _ _ _ _ _ _)
   | (with_reducible exact turner_Check.mono _ _ _ _ _ _ _)
   | (with_reducible exact LeO.refl _)
   | (with_reducible exact LeO.none _)
   | (with_reducible refine LeO.ite ?_ ?_)
   | (with_reducible refine LeO.bind ?_ (fun _=>?_))
   | exact ih0 _ _ _ _ _ _ _ _ _ _ _ _ _ _ _ _ _ _
   | exact ih1 _ _ _ _ _ _ _ _ _ _ _ _ _ _ _ _ _ _ _ _ _
   | exact ih2 _ _ _ _ _ _ _ _ _ _ _ _ _ _ _ _ _ _ _ _ _ _ _ _ _
   | exact ih3 _ _ _ _ _ _ _ _ _ _ _ _ _ _ _ _ _ _ _ _ _ _ _ _ _ _ _ _ _ _
   | exact machine_Check.mono _ _ _ _ _ _
   | exact turner_Check.mono _ _ _ _ _ _ _
   | exact LeO.none _
   | refine LeO.ite ?_ ?_
   | refine LeO.bind ?_ (fun _=>?_)
  ·intro y0 y1 y2 y3 y4 y5 y6 y7 y8 y9 y10 y11 y12 y13 y14 y15 y16 y17 y18 y19 y20
   unfold turner_Takes.l1
   repeat' first
   | (with_reducible exact ih0 _ _ _ _ _ _ _ _ _ _ _ _ _ _ _ _ _ _)
   | (with_reducible exact ih1 _ _ _ _ _ _ _ _ _ _ _ _ _ _ _ _ _ _ _ _ _)
   | (with_reducible exact ih2 _ _ _ _ _ _ _ _ _ _ _ _ _ _ _ _ _ _ _ _ _ _ _ _ _)
   | (with_reducible exact ih3 _ _ _ _ _ _ _ _ _ _ _ _ _ _ _ _ _ _ _ _ _ _ _ _ _ _ _ _ _ _)
   | (with_reducible exact machine_Check.mono _ _ _ _ _ _)
   | (with_reducible exact turner_Check.mono _ _ _ _ _ _ _)
   | (with_reducible exact LeO.refl _)
   | (with_reducible exact LeO.none _)
   | (with_reducible refine LeO.ite ?_ ?_)
   | (with_reducible refine LeO.bind ?_ (fun _=>?_))
   | exact ih0 _ _ _ _ _ _ _ _ _ _ _ _ _ _ _ _ _ _
   | exact ih1 _ _ _ _ _ _ _ _ _ _ _ _ _ _ _ _ _ _ _ _ _
   | exact ih2 _ _ _ _ _ _ _ _ _ _ _ _ _ _ _ _ _ _ _ _ _ _ _ _ _
   | exact ih3 _ _ _ _ _ _ _ _ _ _ _ _ _ _ _ _ _ _ _ _ _ _ _ _ _ _ _ _ _ _
   | exact machine_Check.mono _ _ _ _ _ _
   | exact turner_Check.mono _ _ _ _ _ _ _
   | exact LeO.none _
   | refine LeO.ite ?_ ?_
   | refine LeO.bind ?_ (fun _=>?_)
  ·intro y0 y1 y2 y3 y4 y5 y6 y7 y8 y9 y10 y11 y12 y13 y14 y15 y16 y17 y18 y19 y20 y21 y22 y23 y24
   unfold turner_Takes.l2
   repeat' first
   | (with_reducible exact ih0 _ _ _ _ _ _ _ _ _ _ _ _ _ _ _ _ _ _)
   | (with_reducible exact ih1 _ _ _ _ _ _ _ _ _ _ _ _ _ _ _ _ _ _ _ _ _)
   | (with_reducible exact ih2 _ _ _ _ _ _ _ _ _ _ _ _ _ _ _ _ _ _ _ _ _ _ _ _ _)
   | (with_reducible exact ih3 _ _ _ _ _ _ _ _ _ _ _ _ _ _ _ _ _ _ _ _ _ _ _ _ _ _ _ _ _ _)
   | (with_reducible exact machine_Check.mono _ _ _ _ _ _)
   | (with_reducible exact turner_Check.mono _ _ _ _ _ _ _)
   | (with_reducible exact LeO.refl _)
   | (with_reducible exact LeO.none _)
   | (with_reducible refine LeO.ite ?_ ?_)
   | (with_reducible refine LeO.bind ?_ (fun _=>?_))
   | exact ih0 _ _ _ _ _ _ _ _ _ _ _ _ _ _ _ _ _ _
   | exact ih1 _ _ _ _ _ _ _ _ _ _ _ _ _ _ _ _ _ _ _ _ _
   | exact ih2 _ _ _ _ _ _ _ _ _ _ _ _ _ _ _ _ _ _ _ _ _ _ _ _ _
   | exact ih3 _ _ _ _ _ _ _ _ _ _ _ _ _ _ _ _ _ _ _ _ _ _ _ _ _ _ _ _ _ _
   | exact machine_Check.mono _ _ _ _ _ _
   | exact turner_Check.mono _ _ _ _ _ _ _
   | exact LeO.none _
   | refine LeO.ite ?_ ?_
   | refine LeO.bind ?_ (fun _=>?_)
  ·intro y0 y1 y2 y3 y4 y5 y6 y7 y8 y9 y10 y11 y12 y13 y14 y15 y16 y17 y18 y19 y20 y21 y22 y23 y24 y25 y26 y27 y28 y29
   unfold turner_Takes.l3
   repeat' first
   | (with_reducible exact ih0 _ _ _ _ _ _ _ _ _ _ _ _ _ _ _ _ _ _)
   | (with_reducible exact ih1 _ _ _ _ _ _ _ _ _ _ _ _ _ _ _ _ _ _ _ _ _)
   | (with_reducible exact ih2 _ _ _ _ _ _ _ _ _ _ _ _ _ _ _ _ _ _ _ _ _ _ _ _ _)
   | (with_reducible exact ih3 _ _ _ _ _ _ _ _ _ _ _ _ _ _ _ _ _ _ _ _ _ _ _ _ _ _ _ _ _ _)
   | (with_reducible exact machine_Check.mono _ _ _ _ _ _)
   | (with_reducible exact turner_Check.mono _ _ _ _ _ _ _)
   | (with_reducible exact LeO.refl _)
   | (with_reducible exact LeO.none _)
   | (with_reducible refine LeO.ite ?_ ?_)
   | (with_reducible refine LeO.bind ?_ (fun _=>?_))
   | exact ih0 _ _ _ _ _ _ _ _ _ _ _ _ _ _ _ _ _ _
   | exact ih1 _ _ _ _ _ _ _ _ _ _ _ _ _ _ _ _ _ _ _ _ _
   | exact ih2 _ _ _ _ _ _ _ _ _ _ _ _ _ _ _ _ _ _ _ _ _ _ _ _ _
   | exact ih3 _ _ _ _ _ _ _ _ _ _ _ _ _ _ _ _ _ _ _ _ _ _ _ _ _ _ _ _ _ _
   | exact machine_Check.mono _ _ _ _ _ _
   | exact turner_Check.mono _ _ _ _ _ _ _
   | exact LeO.none _
   | refine LeO.ite ?_ ?_
   | refine LeO.bind ?_ (fun _=>?_)
theorem turner_Takes.mono : ∀ a0 a1 a2 a3 a4 a5 a6 a7 a8 a9 a10 k,LeO (turner_Takes.f k a0 a1 a2 a3 a4 a5 a6 a7 a8 a9 a10) (turner_Takes.f (k + 1) a0 a1 a2 a3 a4 a5 a6 a7 a8 a9 a10):=by
 intro a0 a1 a2 a3 a4 a5 a6 a7 a8 a9 a10 k
 obtain ⟨ih0,ih1,ih2,ih3⟩:=turner_Takes.mono_l k
 unfold turner_Takes.f
 repeat' first
   | (with_reducible exact ih0 _ _ _ _ _ _ _ _ _ _ _ _ _ _ _ _ _ _)
   | (with_reducible exact ih1 _ _ _ _ _ _ _ _ _ _ _ _ _ _ _ _ _ _ _ _ _)
   | (with_reducible exact ih2 _ _ _ _ _ _ _ _ _ _ _ _ _ _ _ _ _ _ _ _ _ _ _ _ _)
   | (with_reducible exact ih3 _ _ _ _ _ _ _ _ _ _ _ _ _ _ _ _ _ _ _ _ _ _ _ _ _ _ _ _ _ _)
   | (with_reducible exact machine_Check.mono _ _ _ _ _ _)
   | (with_reducible exact turner_Check.mono _ _ _ _ _ _ _)
   | (with_reducible exact LeO.refl _)
   | (with_reducible exact LeO.none _)
   | (with_reducible refine LeO.ite ?_ ?_)
   | (with_reducible refine LeO.bind ?_ (fun _=>?_))
   | exact ih0 _ _ _ _ _ _ _ _ _ _ _ _ _ _ _ _ _ _
   | exact ih1 _ _ _ _ _ _ _ _ _ _ _ _ _ _ _ _ _ _ _ _ _
   | exact ih2 _ _ _ _ _ _ _ _ _ _ _ _ _ _ _ _ _ _ _ _ _ _ _ _ _
   | exact ih3 _ _ _ _ _ _ _ _ _ _ _ _ _ _ _ _ _ _ _ _ _ _ _ _ _ _ _ _ _ _
   | exact machine_Check.mono _ _ _ _ _ _
   | exact turner_Check.mono _ _ _ _ _ _ _
   | exact LeO.none _
   | refine LeO.ite ?_ ?_
   | refine LeO.bind ?_ (fun _=>?_)
def turner_Takes.T28 : Bool × List (List Nat × List Nat):=(true,[([],[]),([],[]),([1],[1]),([],[]),([2,3],[2,3]),([4],[4]),([],[]),([5,6],[5,6]),([7],[7]),([],[]),([9],[9]),([8,10],[8,10]),([],[]),([11,12],[11,12]),([13],[13]),([0,14],[0,14]),([15,15,0,1,2,3,4,5,6,7,8,9,10,11,12,13,14,15],[0,15])])
def turner_Takes.B28 : List Nat:=[0,0,2,0,14,30,0,126,254,0,512,2046,0,8190,16382,32767,65535]
theorem turner_Takes.tab28 : rtab .any (opsOf Try.f30 28) = turner_Takes.T28:=by kernel_rfl
theorem turner_Takes.bits28 : waitsOk turner_Takes.T28.2 turner_Takes.B28 = true:=by kernel_rfl
def turner_Takes.T31 : Bool × List (List Nat × List Nat):=(true,[([],[]),([0],[0]),([],[]),([2],[2]),([],[]),([3,4],[3,4]),([5],[5]),([],[]),([],[]),([8],[8]),([7,9],[7,9]),([],[]),([10,11],[10,11]),([6,12],[6,12]),([1,13],[1,13]),([0,1,2,3,4,5,6,7,8,9,10,11,12,13,14],[]),([15,14,0,1,2,3,4,5,6,7,8,9,10,11,12,13,14],[14,15])])
def turner_Takes.B31 : List Nat:=[0,1,0,4,0,28,60,0,0,256,896,0,3968,8188,16383,32767,65535]
theorem turner_Takes.tab31 : rtab .any (opsOf Try.f30 31) = turner_Takes.T31:=by kernel_rfl
theorem turner_Takes.bits31 : waitsOk turner_Takes.T31.2 turner_Takes.B31 = true:=by kernel_rfl
set_option maxHeartbeats 8000000 in
set_option maxRecDepth 100000 in
theorem turner_Takes.calls (k : Nat) (a0_0 : Int) (a0_1 : Int) (a0_2 : Int) (A0_3 : Option Addr) (c0_3 : Nat) (l0_3 : List (List Int)) (A0_4 : Option Addr) (c0_4 : Nat) (l0_4 : List (List (List Int))) (a0_5 : Int) (a1_0 : Int) (a1_1 : Int) (A1_2 : Option Addr) (c1_2 : Nat) (l1_2 : List (List Int)) (a1_3 : Int) (a1_4 : Int) (r1 : Int) (r2 : Int) (r3 : List (List Int)) (r4 : Int) (r5 : Int) (r6 : Int) (w : World) (hr0_3 : Kd.C (Kd.slice 3 (Kd.int .i64)) w A0_3 l0_3.length l0_3) (hc0_3 : l0_3.length ≤ c0_3) (hr0_4 : Kd.C (Kd.slice 28 (Kd.slice 3 (Kd.int .i64))) w A0_4 l0_4.length l0_4) (hc0_4 : l0_4.length ≤ c0_4) (hr1_2 : Kd.C (Kd.slice 3 (Kd.int .i64)) w A1_2 l1_2.length l1_2) (hc1_2 : l1_2.length ≤ c1_2) (h : turner_Takes.f k a0_0 a0_1 a0_2 l0_3 l0_4 a0_5 a1_0 a1_1 l1_2 a1_3 a1_4 = some (r1,r2,r3,r4,r5,r6)) :
  Calls Try.prog 30 #[.agg #[.int .i64 a0_0,.int .i64 a0_1,.int .i64 a0_2,.slice A0_3 l0_3.length c0_3,.slice A0_4 l0_4.length c0_4,.int .i64 a0_5],.agg #[.int .i64 a1_0,.int .i64 a1_1,.slice A1_2 l1_2.length c1_2,.int .i64 a1_3,.int .u32 a1_4]] w fun e w'=>∃ v2_ : Value,e = .returned (.tuple #[.agg #[.int .i64 r1,.int .i64 r2,v2_,.int .i64 r4,.int .u32 r5],.int .i64 r6]) ∧ Kd.S (Kd.slice 3 (Kd.int .i64)) 28 w' w.heap.size (fun _=>True) v2_ r3 ∧ Below w.heap.size w w':=by
 have hu50:=Try.underlying50
 have hu37:=Try.underlying37
 have HR0_3:=Aside0.mk hr0_3
 have HC0_3:=Aside0.mk hc0_3
 clear hr0_3 hc0_3
 have HR0_4:=Aside0.mk hr0_4
 have HC0_4:=Aside0.mk hc0_4
 clear hr0_4 hc0_4
 have HR1_2:=Aside0.mk hr1_2
 have HC1_2:=Aside0.mk hc1_2
 clear hr1_2 hc1_2
 have HB:=Aside0.mk (Below.refl w.heap.size w)
 have H : ((turner_Check.f k a0_0 a0_1 a0_2 l0_3 l0_4 a0_5).bind fun t174=>(if t174 = 0 then ((machine_Check.f k a1_0 a1_1 l1_2 a1_3 a1_4).bind fun t175=>(if t175 = 0 then (if a0_2 = a1_1 then (if (wrap64 (a0_0 * a1_0)) > 7 then (some (0,0,([] : List (List Int)),0,0,1)) else (turner_Takes.l0 k a0_0 0 a0_0 a0_1 a0_2 l0_3 l0_4 a0_5 a1_0 a1_1 l1_2 a1_3 a1_4 (wrap64 (a0_0 * a1_0)) a0_1 ([] : List (List Int)) (wrap64 ((wrap64 (a0_5 * a1_0)) + a1_3)) 0)) else (some (0,0,([] : List (List Int)),0,0,3))) else (some (0,0,([] : List (List Int)),0,0,t175)))) else (some (0,0,([] : List (List Int)),0,0,t174)))) = some (r1,r2,r3,r4,r5,r6):=h
 clear h
 replace H:=Option.bind_eq_some_iff.mp H
 obtain ⟨t174,A30,H⟩:=H
 replace H : (if t174 = 0 then ((machine_Check.f k a1_0 a1_1 l1_2 a1_3 a1_4).bind fun t175=>(if t175 = 0 then (if a0_2 = a1_1 then (if (wrap64 (a0_0 * a1_0)) > 7 then (some (0,0,([] : List (List Int)),0,0,1)) else (turner_Takes.l0 k a0_0 0 a0_0 a0_1 a0_2 l0_3 l0_4 a0_5 a1_0 a1_1 l1_2 a1_3 a1_4 (wrap64 (a0_0 * a1_0)) a0_1 ([] : List (List Int)) (wrap64 ((wrap64 (a0_5 * a1_0)) + a1_3)) 0)) else (some (0,0,([] : List (List Int)),0,0,3))) else (some (0,0,([] : List (List Int)),0,0,t175)))) else (some (0,0,([] : List (List Int)),0,0,t174))) = some (r1,r2,r3,r4,r5,r6):=H
 have A3:=Aside0.mk A30
 clear A30
 by_cases c4 : t174 = 0
 ·rw [if_pos c4] at H
  have c4b0 : (t174 == 0) = true:=beq_iff_eq.mpr c4
  have c4b1 : (t174 != 0) = false:=bne_eq_false_iff_eq.mpr c4
  clear c4
  replace H:=Option.bind_eq_some_iff.mp H
  obtain ⟨t175,A50,H⟩:=H
  replace H : (if t175 = 0 then (if a0_2 = a1_1 then (if (wrap64 (a0_0 * a1_0)) > 7 then (some (0,0,([] : List (List Int)),0,0,1)) else (turner_Takes.l0 k a0_0 0 a0_0 a0_1 a0_2 l0_3 l0_4 a0_5 a1_0 a1_1 l1_2 a1_3 a1_4 (wrap64 (a0_0 * a1_0)) a0_1 ([] : List (List Int)) (wrap64 ((wrap64 (a0_5 * a1_0)) + a1_3)) 0)) else (some (0,0,([] : List (List Int)),0,0,3))) else (some (0,0,([] : List (List Int)),0,0,t175))) = some (r1,r2,r3,r4,r5,r6):=H
  have A5:=Aside0.mk A50
  clear A50
  by_cases c6 : t175 = 0
  ·rw [if_pos c6] at H
   have c6b0 : (t175 == 0) = true:=beq_iff_eq.mpr c6
   have c6b1 : (t175 != 0) = false:=bne_eq_false_iff_eq.mpr c6
   clear c6
   by_cases c7 : a0_2 = a1_1
   ·rw [if_pos c7] at H
    have c7b0 : (a0_2 == a1_1) = true:=beq_iff_eq.mpr c7
    have c7b1 : (a0_2 != a1_1) = false:=bne_eq_false_iff_eq.mpr c7
    clear c7
    by_cases c8 : (wrap64 (a0_0 * a1_0)) > 7
    ·rw [if_pos c8] at H
     have c8b0 : decide (7 < (wrap64 (a0_0 * a1_0))) = true:=decide_eq_true c8
     clear c8
     simp only [Option.some.injEq,Prod.mk.injEq] at H
     obtain ⟨rfl,rfl,rfl,rfl,rfl,rfl⟩:=H
     go_enter Try.func30,Try.ntmps30
     go_wp2_with (first|((with_reducible refine gate_dst (N:=2) rfl ?_);refine box_event ?hg (N:=2) ?hd (cs:=#[.int .i64 a0_0,.int .i64 a0_1,.int .i64 a0_2,.slice A0_3 l0_3.length c0_3,.slice A0_4 l0_4.length c0_4,.int .i64 a0_5]) (t:=50) ?hr ?_;(case hd=>rfl);(case hg=>rfl);(case hr=>first|(go_simp;done)|(go_simp;rfl));intro gb171 hg w9 hbox hb;have n0_:=Aside0.mk (below_step (by repeat (first|(with_reducible first|exact HB.out|apply below_alloc|apply pw_below_drewN|apply below_drew1)|exact HB.out)) hb);have n1_:=Aside0.mk (hbox);have n2_:=Aside0.mk ((by rw [hg];exact (below_size (by repeat (first|(with_reducible first|exact HB.out|apply below_alloc|apply pw_below_drewN|apply below_drew1)|exact HB.out))) : w.heap.size ≤ gb171));have n3_:=Aside0.mk ((by rw [hg];exact (below_size (by repeat (first|(with_reducible first|exact HB.out|apply below_alloc|apply pw_below_drewN|apply below_drew1)|exact HB.out))) : w.heap.size ≤ gb171));clear HB;have HB:=n0_;have BK171:=n1_;have GW171:=n2_;have GE171:=n3_;clear n0_ n1_ n2_ n3_;clear hb hbox hg)|((with_reducible refine gate_dst (N:=3) rfl ?_);refine box_event ?hg (N:=3) ?hd (cs:=#[.int .i64 a1_0,.int .i64 a1_1,.slice A1_2 l1_2.length c1_2,.int .i64 a1_3,.int .u32 a1_4]) (t:=37) ?hr ?_;(case hd=>rfl);(case hg=>rfl);(case hr=>first|(go_simp;done)|(go_simp;rfl));intro gb172 hg w10 hbox hb;have n0_:=Aside0.mk (blk_below (g:=gb171) (o:=.cells #[.int .i64 a0_0,.int .i64 a0_1,.int .i64 a0_2,.slice A0_3 l0_3.length c0_3,.slice A0_4 l0_4.length c0_4,.int .i64 a0_5] 50 (0,0)) (by (with_reducible repeat (first|refine blk_drewN ?_ _|refine blk_drew ?_|refine blk_alloc ?_ _));exact BK171.out) hb);have n1_:=Aside0.mk (below_step (by repeat (first|(with_reducible first|exact HB.out|apply below_alloc|apply pw_below_drewN|apply below_drew1|refine below_set ?_ GE171.out)|exact HB.out)) hb);have n2_:=Aside0.mk (hbox);have n3_:=Aside0.mk ((by rw [hg];exact (below_size (by repeat (first|(with_reducible first|exact HB.out|apply below_alloc|apply pw_below_drewN|apply below_drew1|refine below_set ?_ GE171.out)|exact HB.out))) : w.heap.size ≤ gb172));have n4_:=Aside0.mk ((by rw [hg];exact (below_size (by repeat (first|(with_reducible first|exact HB.out|apply below_alloc|apply pw_below_drewN|apply below_drew1|refine below_set ?_ GE171.out)|exact HB.out))) : w.heap.size ≤ gb172));have n5_:=Aside0.mk ((by rw [hg];exact Nat.ne_of_lt (blk_lt (g:=gb171) (o:=.cells #[.int .i64 a0_0,.int .i64 a0_1,.int .i64 a0_2,.slice A0_3 l0_3.length c0_3,.slice A0_4 l0_4.length c0_4,.int .i64 a0_5] 50 (0,0)) (by (with_reducible repeat (first|refine blk_drewN ?_ _|refine blk_drew ?_|refine blk_alloc ?_ _));exact BK171.out)) : gb171 ≠ gb172));have n6_:=Aside0.mk ((by rw [hg];exact Nat.ne_of_gt (blk_lt (g:=gb171) (o:=.cells #[.int .i64 a0_0,.int .i64 a0_1,.int .i64 a0_2,.slice A0_3 l0_3.length c0_3,.slice A0_4 l0_4.length c0_4,.int .i64 a0_5] 50 (0,0)) (by (with_reducible repeat (first|refine blk_drewN ?_ _|refine blk_drew ?_|refine blk_alloc ?_ _));exact BK171.out)) : gb172 ≠ gb171));clear BK171;clear HB;have BK171:=n0_;have HB:=n1_;have BK172:=n2_;have GW172:=n3_;have GE172:=n4_;have NB171_172:=n5_;have NB172_171:=n6_;clear n0_ n1_ n2_ n3_ n4_ n5_ n6_;clear hb hbox hg)|((with_reducible refine gate_dst (N:=4) rfl ?_);refine box_event ?hg (N:=4) ?hd (cs:=#[.int .i64 0,.int .i64 0,.slice none 0 0,.int .i64 0,.int .u32 0]) (t:=37) ?hr ?_;(case hd=>rfl);(case hg=>rfl);(case hr=>first|(go_simp;done)|(go_simp;rfl));intro gb173 hg w11 hbox hb;have n0_:=Aside0.mk (blk_below (g:=gb171) (o:=.cells #[.int .i64 a0_0,.int .i64 a0_1,.int .i64 a0_2,.slice A0_3 l0_3.length c0_3,.slice A0_4 l0_4.length c0_4,.int .i64 a0_5] 50 (0,0)) (by (with_reducible repeat (first|refine blk_drewN ?_ _|refine blk_drew ?_|refine blk_alloc ?_ _));exact BK171.out) hb);have n1_:=Aside0.mk (blk_below (g:=gb172) (o:=.cells #[.int .i64 a1_0,.int .i64 a1_1,.slice A1_2 l1_2.length c1_2,.int .i64 a1_3,.int .u32 a1_4] 37 (0,0)) (by (with_reducible repeat (first|refine blk_drewN ?_ _|refine blk_drew ?_|refine blk_alloc ?_ _));exact BK172.out) hb);have n2_:=Aside0.mk (below_step (by repeat (first|(with_reducible first|exact HB.out|apply below_alloc|apply pw_below_drewN|apply below_drew1|refine below_set ?_ GE171.out|refine below_set ?_ GE172.out)|exact HB.out)) hb);have n3_:=Aside0.mk (hbox);have n4_:=Aside0.mk ((by rw [hg];exact (below_size (by repeat (first|(with_reducible first|exact HB.out|apply below_alloc|apply pw_below_drewN|apply below_drew1|refine below_set ?_ GE171.out|refine below_set ?_ GE172.out)|exact HB.out))) : w.heap.size ≤ gb173));have n5_:=Aside0.mk ((by rw [hg];exact (below_size (by repeat (first|(with_reducible first|exact HB.out|apply below_alloc|apply pw_below_drewN|apply below_drew1|refine below_set ?_ GE171.out|refine below_set ?_ GE172.out)|exact HB.out))) : w.heap.size ≤ gb173));have n6_:=Aside0.mk ((by rw [hg];exact Nat.ne_of_lt (blk_lt (g:=gb171) (o:=.cells #[.int .i64 a0_0,.int .i64 a0_1,.int .i64 a0_2,.slice A0_3 l0_3.length c0_3,.slice A0_4 l0_4.length c0_4,.int .i64 a0_5] 50 (0,0)) (by (with_reducible repeat (first|refine blk_drewN ?_ _|refine blk_drew ?_|refine blk_alloc ?_ _));exact BK171.out)) : gb171 ≠ gb173));have n7_:=Aside0.mk ((by rw [hg];exact Nat.ne_of_gt (blk_lt (g:=gb171) (o:=.cells #[.int .i64 a0_0,.int .i64 a0_1,.int .i64 a0_2,.slice A0_3 l0_3.length c0_3,.slice A0_4 l0_4.length c0_4,.int .i64 a0_5] 50 (0,0)) (by (with_reducible repeat (first|refine blk_drewN ?_ _|refine blk_drew ?_|refine blk_alloc ?_ _));exact BK171.out)) : gb173 ≠ gb171));have n8_:=Aside0.mk ((by rw [hg];exact Nat.ne_of_lt (blk_lt (g:=gb172) (o:=.cells #[.int .i64 a1_0,.int .i64 a1_1,.slice A1_2 l1_2.length c1_2,.int .i64 a1_3,.int .u32 a1_4] 37 (0,0)) (by (with_reducible repeat (first|refine blk_drewN ?_ _|refine blk_drew ?_|refine blk_alloc ?_ _));exact BK172.out)) : gb172 ≠ gb173));have n9_:=Aside0.mk ((by rw [hg];exact Nat.ne_of_gt (blk_lt (g:=gb172) (o:=.cells #[.int .i64 a1_0,.int .i64 a1_1,.slice A1_2 l1_2.length c1_2,.int .i64 a1_3,.int .u32 a1_4] 37 (0,0)) (by (with_reducible repeat (first|refine blk_drewN ?_ _|refine blk_drew ?_|refine blk_alloc ?_ _));exact BK172.out)) : gb173 ≠ gb172));clear BK171;clear BK172;clear HB;have BK171:=n0_;have BK172:=n1_;have HB:=n2_;have BK173:=n3_;have GW173:=n4_;have GE173:=n5_;have NB171_173:=n6_;have NB173_171:=n7_;have NB172_173:=n8_;have NB173_172:=n9_;clear n0_ n1_ n2_ n3_ n4_ n5_ n6_ n7_ n8_ n9_;clear hb hbox hg;have hnb12:=NB171_172.out;have hnc12:=NB172_171.out;have hnb13:=NB171_173.out;have hnc13:=NB173_171.out;have hcz14_0 : w11.cell? ⟨gb171,0,none⟩ = some (.int .i64 a0_0):=(blk_cell BK171.out 0).trans rfl;have hcz14_1 : w11.cell? ⟨gb171,1,none⟩ = some (.int .i64 a0_1):=(blk_cell BK171.out 1).trans rfl;have hcz14_2 : w11.cell? ⟨gb171,2,none⟩ = some (.int .i64 a0_2):=(blk_cell BK171.out 2).trans rfl;have hcz14_3 : w11.cell? ⟨gb171,3,none⟩ = some (.slice A0_3 l0_3.length c0_3):=(blk_cell BK171.out 3).trans rfl;have hcz14_4 : w11.cell? ⟨gb171,4,none⟩ = some (.slice A0_4 l0_4.length c0_4):=(blk_cell BK171.out 4).trans rfl;have hcz14_5 : w11.cell? ⟨gb171,5,none⟩ = some (.int .i64 a0_5):=(blk_cell BK171.out 5).trans rfl;have hfz14_0:=blk_frozen BK171.out 0;have hfz14_1:=blk_frozen BK171.out 1;have hfz14_2:=blk_frozen BK171.out 2;have hfz14_3:=blk_frozen BK171.out 3;have hfz14_4:=blk_frozen BK171.out 4;have hfz14_5:=blk_frozen BK171.out 5)|((with_reducible refine gate_callee (f:=46) rfl ?_);refine goesL_ (some 17) rfl rfl Try.func46 (by kernel_rfl) rfl #[.agg #[.int .i64 a0_0,.int .i64 a0_1,.int .i64 a0_2,.slice A0_3 l0_3.length c0_3,.slice A0_4 l0_4.length c0_4,.int .i64 a0_5]] rfl (by (try simp only [List.map_toArray,List.map_cons,List.map_nil]);first|done|rfl|(simp only [List.length_drop,List.length_take];rfl)) ?_;(with_reducible refine (turner_Check.calls k a0_0 a0_1 a0_2 _ _ l0_3 _ _ l0_4 a0_5 t174 _ ?side1 ?side2 ?side3 ?side4 A3.out).mono ?_);(case side1=>repeat (first|exact (Kd.C_below HR0_3.out HB.out)|(with_reducible refine Kd.C_alloc ?_ _)|(with_reducible refine Kd.C_drewN ?_ _)|(with_reducible refine Kd.C_drew ?_)));(case side2=>exact HC0_3.out);(case side3=>repeat (first|exact (Kd.C_below HR0_4.out HB.out)|(with_reducible refine Kd.C_alloc ?_ _)|(with_reducible refine Kd.C_drewN ?_ _)|(with_reducible refine Kd.C_drew ?_)));(case side4=>exact HC0_4.out);rintro e w15 ⟨rfl,hb⟩;refine ⟨_,rfl,?_⟩;have n0_:=Aside0.mk (blk_below (g:=gb171) (o:=.cells #[.int .i64 a0_0,.int .i64 a0_1,.int .i64 a0_2,.slice A0_3 l0_3.length c0_3,.slice A0_4 l0_4.length c0_4,.int .i64 a0_5] 50 (0,0)) (by (with_reducible repeat (first|refine blk_drewN ?_ _|refine blk_drew ?_|refine blk_alloc ?_ _));exact BK171.out) hb);have n1_:=Aside0.mk (blk_below (g:=gb172) (o:=.cells #[.int .i64 a1_0,.int .i64 a1_1,.slice A1_2 l1_2.length c1_2,.int .i64 a1_3,.int .u32 a1_4] 37 (0,0)) (by (with_reducible repeat (first|refine blk_drewN ?_ _|refine blk_drew ?_|refine blk_alloc ?_ _));exact BK172.out) hb);have n2_:=Aside0.mk (blk_below (g:=gb173) (o:=.cells #[.int .i64 0,.int .i64 0,.slice none 0 0,.int .i64 0,.int .u32 0] 37 (0,0)) (by (with_reducible repeat (first|refine blk_drewN ?_ _|refine blk_drew ?_|refine blk_alloc ?_ _));exact BK173.out) hb);have n3_:=Aside0.mk (below_step (by repeat (first|(with_reducible first|exact HB.out|apply below_alloc|apply pw_below_drewN|apply below_drew1|refine below_set ?_ GE171.out|refine below_set ?_ GE172.out|refine below_set ?_ GE173.out)|exact HB.out)) hb);clear BK171;clear BK172;clear BK173;clear HB;have BK171:=n0_;have BK172:=n1_;have BK173:=n2_;have HB:=n3_;clear n0_ n1_ n2_ n3_;(try clear hb);(try clear hb2);(try clear hk);(try clear hi);have hnb16:=NB172_173.out;have hnc16:=NB173_172.out;have hcz17_0 : w15.cell? ⟨gb172,0,none⟩ = some (.int .i64 a1_0):=(blk_cell BK172.out 0).trans rfl;have hcz17_1 : w15.cell? ⟨gb172,1,none⟩ = some (.int .i64 a1_1):=(blk_cell BK172.out 1).trans rfl;have hcz17_2 : w15.cell? ⟨gb172,2,none⟩ = some (.slice A1_2 l1_2.length c1_2):=(blk_cell BK172.out 2).trans rfl;have hcz17_3 : w15.cell? ⟨gb172,3,none⟩ = some (.int .i64 a1_3):=(blk_cell BK172.out 3).trans rfl;have hcz17_4 : w15.cell? ⟨gb172,4,none⟩ = some (.int .u32 a1_4):=(blk_cell BK172.out 4).trans rfl;have hfz17_0:=blk_frozen BK172.out 0;have hfz17_1:=blk_frozen BK172.out 1;have hfz17_2:=blk_frozen BK172.out 2;have hfz17_3:=blk_frozen BK172.out 3;have hfz17_4:=blk_frozen BK172.out 4)|((with_reducible refine gate_callee (f:=44) rfl ?_);refine goesL_ (some 23) rfl rfl Try.func44 (by kernel_rfl) rfl #[.agg #[.int .i64 a1_0,.int .i64 a1_1,.slice A1_2 l1_2.length c1_2,.int .i64 a1_3,.int .u32 a1_4]] rfl (by (try simp only [List.map_toArray,List.map_cons,List.map_nil]);first|done|rfl|(simp only [List.length_drop,List.length_take];rfl)) ?_;(with_reducible refine (machine_Check.calls k a1_0 a1_1 _ _ l1_2 a1_3 a1_4 t175 _ ?side1 ?side2 A5.out).mono ?_);(case side1=>repeat (first|exact (Kd.C_below HR1_2.out HB.out)|(with_reducible refine Kd.C_alloc ?_ _)|(with_reducible refine Kd.C_drewN ?_ _)|(with_reducible refine Kd.C_drew ?_)));(case side2=>exact HC1_2.out);rintro e w18 ⟨rfl,hb⟩;refine ⟨_,rfl,?_⟩;have n0_:=Aside0.mk (blk_below (g:=gb171) (o:=.cells #[.int .i64 a0_0,.int .i64 a0_1,.int .i64 a0_2,.slice A0_3 l0_3.length c0_3,.slice A0_4 l0_4.length c0_4,.int .i64 a0_5] 50 (0,0)) (by (with_reducible repeat (first|refine blk_drewN ?_ _|refine blk_drew ?_|refine blk_alloc ?_ _));exact BK171.out) hb);have n1_:=Aside0.mk (blk_below (g:=gb172) (o:=.cells #[.int .i64 a1_0,.int .i64 a1_1,.slice A1_2 l1_2.length c1_2,.int .i64 a1_3,.int .u32 a1_4] 37 (0,0)) (by (with_reducible repeat (first|refine blk_drewN ?_ _|refine blk_drew ?_|refine blk_alloc ?_ _));exact BK172.out) hb);have n2_:=Aside0.mk (blk_below (g:=gb173) (o:=.cells #[.int .i64 0,.int .i64 0,.slice none 0 0,.int .i64 0,.int .u32 0] 37 (0,0)) (by (with_reducible repeat (first|refine blk_drewN ?_ _|refine blk_drew ?_|refine blk_alloc ?_ _));exact BK173.out) hb);have n3_:=Aside0.mk (below_step (by repeat (first|(with_reducible first|exact HB.out|apply below_alloc|apply pw_below_drewN|apply below_drew1|refine below_set ?_ GE171.out|refine below_set ?_ GE172.out|refine below_set ?_ GE173.out)|exact HB.out)) hb);clear BK171;clear BK172;clear BK173;clear HB;have BK171:=n0_;have BK172:=n1_;have BK173:=n2_;have HB:=n3_;clear n0_ n1_ n2_ n3_;(try clear hb);(try clear hb2);(try clear hk);(try clear hi);have hcz19_0 : w18.cell? ⟨gb171,0,none⟩ = some (.int .i64 a0_0):=(blk_cell BK171.out 0).trans rfl;have hcz19_1 : w18.cell? ⟨gb171,1,none⟩ = some (.int .i64 a0_1):=(blk_cell BK171.out 1).trans rfl;have hcz19_2 : w18.cell? ⟨gb171,2,none⟩ = some (.int .i64 a0_2):=(blk_cell BK171.out 2).trans rfl;have hcz19_3 : w18.cell? ⟨gb171,3,none⟩ = some (.slice A0_3 l0_3.length c0_3):=(blk_cell BK171.out 3).trans rfl;have hcz19_4 : w18.cell? ⟨gb171,4,none⟩ = some (.slice A0_4 l0_4.length c0_4):=(blk_cell BK171.out 4).trans rfl;have hcz19_5 : w18.cell? ⟨gb171,5,none⟩ = some (.int .i64 a0_5):=(blk_cell BK171.out 5).trans rfl;have hfz19_0:=blk_frozen BK171.out 0;have hfz19_1:=blk_frozen BK171.out 1;have hfz19_2:=blk_frozen BK171.out 2;have hfz19_3:=blk_frozen BK171.out 3;have hfz19_4:=blk_frozen BK171.out 4;have hfz19_5:=blk_frozen BK171.out 5;have hcz20_0 : w18.cell? ⟨gb172,0,none⟩ = some (.int .i64 a1_0):=(blk_cell BK172.out 0).trans rfl;have hcz20_1 : w18.cell? ⟨gb172,1,none⟩ = some (.int .i64 a1_1):=(blk_cell BK172.out 1).trans rfl;have hcz20_2 : w18.cell? ⟨gb172,2,none⟩ = some (.slice A1_2 l1_2.length c1_2):=(blk_cell BK172.out 2).trans rfl;have hcz20_3 : w18.cell? ⟨gb172,3,none⟩ = some (.int .i64 a1_3):=(blk_cell BK172.out 3).trans rfl;have hcz20_4 : w18.cell? ⟨gb172,4,none⟩ = some (.int .u32 a1_4):=(blk_cell BK172.out 4).trans rfl;have hfz20_0:=blk_frozen BK172.out 0;have hfz20_1:=blk_frozen BK172.out 1;have hfz20_2:=blk_frozen BK172.out 2;have hfz20_3:=blk_frozen BK172.out 3;have hfz20_4:=blk_frozen BK172.out 4;have hcz21_0 : w18.cell? ⟨gb173,0,none⟩ = some (.int .i64 0):=(blk_cell BK173.out 0).trans rfl;have hcz21_1 : w18.cell? ⟨gb173,1,none⟩ = some (.int .i64 0):=(blk_cell BK173.out 1).trans rfl;have hcz21_2 : w18.cell? ⟨gb173,2,none⟩ = some (.slice none 0 0):=(blk_cell BK173.out 2).trans rfl;have hcz21_3 : w18.cell? ⟨gb173,3,none⟩ = some (.int .i64 0):=(blk_cell BK173.out 3).trans rfl;have hcz21_4 : w18.cell? ⟨gb173,4,none⟩ = some (.int .u32 0):=(blk_cell BK173.out 4).trans rfl;have hfz21_0:=blk_frozen BK173.out 0;have hfz21_1:=blk_frozen BK173.out 1;have hfz21_2:=blk_frozen BK173.out 2;have hfz21_3:=blk_frozen BK173.out 3;have hfz21_4:=blk_frozen BK173.out 4))
     refine bodyPost_ret (results_ct rfl _ _ gb173 37 #[.int .i64 0,.int .i64 0,.slice none 0 0,.int .i64 0,.int .u32 0] (0,0) _ rfl (by (with_reducible repeat (first|refine blk_drewN ?_ _|refine blk_drew ?_|refine blk_alloc ?_ _));refine blk_put (cs:=#[.int .i64 0,.int .i64 0,.slice none 0 0,.int .i64 0,.int .u32 0]) ?_ 4 _ rfl;(with_reducible repeat (first|refine blk_drewN ?_ _|refine blk_drew ?_|refine blk_alloc ?_ _));refine blk_put (cs:=#[.int .i64 0,.int .i64 0,.slice none 0 0,.int .i64 0,.int .u32 0]) ?_ 3 _ rfl;(with_reducible repeat (first|refine blk_drewN ?_ _|refine blk_drew ?_|refine blk_alloc ?_ _));refine blk_put (cs:=#[.int .i64 0,.int .i64 0,.slice none 0 0,.int .i64 0,.int .u32 0]) ?_ 2 _ rfl;(with_reducible repeat (first|refine blk_drewN ?_ _|refine blk_drew ?_|refine blk_alloc ?_ _));refine blk_put (cs:=#[.int .i64 0,.int .i64 0,.slice none 0 0,.int .i64 0,.int .u32 0]) ?_ 1 _ rfl;(with_reducible repeat (first|refine blk_drewN ?_ _|refine blk_drew ?_|refine blk_alloc ?_ _));refine blk_put (cs:=#[.int .i64 0,.int .i64 0,.slice none 0 0,.int .i64 0,.int .u32 0]) ?_ 0 _ rfl;(with_reducible repeat (first|refine blk_drewN ?_ _|refine blk_drew ?_|refine blk_alloc ?_ _));exact BK173.out) Try.underlying37 rfl (by kernel_rfl)) rfl ?_
     exact ⟨_,by first|rfl|(simp [errW_none,errW_some] <;> rfl)|(simp [*,errW_none,errW_some] <;> rfl),by first|exact Kd.S_nil _ _ _ _ _|exact Kd.N_nil _ _ _ _ _|exact Kd.V_nil _ _ _ _ _|exact Kd.Q_nil _ _ _ _ _|exact Kd.R_nil _ _ _ _ _,by repeat (first|(with_reducible first|exact HB.out|apply below_alloc|apply pw_below_drewN|apply below_drew1|refine below_set ?_ GE171.out|refine below_set ?_ GE172.out|refine below_set ?_ GE173.out)|exact HB.out)⟩
    ·rw [if_neg c8] at H
     have c8b0 : decide (7 < (wrap64 (a0_0 * a1_0))) = false:=decide_eq_false c8
     clear c8
     have H':=Aside0.mk H
     clear H
     go_enter Try.func30,Try.ntmps30
     go_wp2_with (first|((with_reducible refine gate_dst (N:=2) rfl ?_);refine box_event ?hg (N:=2) ?hd (cs:=#[.int .i64 a0_0,.int .i64 a0_1,.int .i64 a0_2,.slice A0_3 l0_3.length c0_3,.slice A0_4 l0_4.length c0_4,.int .i64 a0_5]) (t:=50) ?hr ?_;(case hd=>rfl);(case hg=>rfl);(case hr=>first|(go_simp;done)|(go_simp;rfl));intro gb171 hg w22 hbox hb;have n0_:=Aside0.mk (below_step (by repeat (first|(with_reducible first|exact HB.out|apply below_alloc|apply pw_below_drewN|apply below_drew1)|exact HB.out)) hb);have n1_:=Aside0.mk (hbox);have n2_:=Aside0.mk ((by rw [hg];exact (below_size (by repeat (first|(with_reducible first|exact HB.out|apply below_alloc|apply pw_below_drewN|apply below_drew1)|exact HB.out))) : w.heap.size ≤ gb171));have n3_:=Aside0.mk ((by rw [hg];exact (below_size (by repeat (first|(with_reducible first|exact HB.out|apply below_alloc|apply pw_below_drewN|apply below_drew1)|exact HB.out))) : w.heap.size ≤ gb171));clear HB;have HB:=n0_;have BK171:=n1_;have GW171:=n2_;have GE171:=n3_;clear n0_ n1_ n2_ n3_;clear hb hbox hg)|((with_reducible refine gate_dst (N:=3) rfl ?_);refine box_event ?hg (N:=3) ?hd (cs:=#[.int .i64 a1_0,.int .i64 a1_1,.slice A1_2 l1_2.length c1_2,.int .i64 a1_3,.int .u32 a1_4]) (t:=37) ?hr ?_;(case hd=>rfl);(case hg=>rfl);(case hr=>first|(go_simp;done)|(go_simp;rfl));intro gb172 hg w23 hbox hb;have n0_:=Aside0.mk (blk_below (g:=gb171) (o:=.cells #[.int .i64 a0_0,.int .i64 a0_1,.int .i64 a0_2,.slice A0_3 l0_3.length c0_3,.slice A0_4 l0_4.length c0_4,.int .i64 a0_5] 50 (0,0)) (by (with_reducible repeat (first|refine blk_drewN ?_ _|refine blk_drew ?_|refine blk_alloc ?_ _));exact BK171.out) hb);have n1_:=Aside0.mk (below_step (by repeat (first|(with_reducible first|exact HB.out|apply below_alloc|apply pw_below_drewN|apply below_drew1|refine below_set ?_ GE171.out)|exact HB.out)) hb);have n2_:=Aside0.mk (hbox);have n3_:=Aside0.mk ((by rw [hg];exact (below_size (by repeat (first|(with_reducible first|exact HB.out|apply below_alloc|apply pw_below_drewN|apply below_drew1|refine below_set ?_ GE171.out)|exact HB.out))) : w.heap.size ≤ gb172));have n4_:=Aside0.mk ((by rw [hg];exact (below_size (by repeat (first|(with_reducible first|exact HB.out|apply below_alloc|apply pw_below_drewN|apply below_drew1|refine below_set ?_ GE171.out)|exact HB.out))) : w.heap.size ≤ gb172));have n5_:=Aside0.mk ((by rw [hg];exact Nat.ne_of_lt (blk_lt (g:=gb171) (o:=.cells #[.int .i64 a0_0,.int .i64 a0_1,.int .i64 a0_2,.slice A0_3 l0_3.length c0_3,.slice A0_4 l0_4.length c0_4,.int .i64 a0_5] 50 (0,0)) (by (with_reducible repeat (first|refine blk_drewN ?_ _|refine blk_drew ?_|refine blk_alloc ?_ _));exact BK171.out)) : gb171 ≠ gb172));have n6_:=Aside0.mk ((by rw [hg];exact Nat.ne_of_gt (blk_lt (g:=gb171) (o:=.cells #[.int .i64 a0_0,.int .i64 a0_1,.int .i64 a0_2,.slice A0_3 l0_3.length c0_3,.slice A0_4 l0_4.length c0_4,.int .i64 a0_5] 50 (0,0)) (by (with_reducible repeat (first|refine blk_drewN ?_ _|refine blk_drew ?_|refine blk_alloc ?_ _));exact BK171.out)) : gb172 ≠ gb171));clear BK171;clear HB;have BK171:=n0_;have HB:=n1_;have BK172:=n2_;have GW172:=n3_;have GE172:=n4_;have NB171_172:=n5_;have NB172_171:=n6_;clear n0_ n1_ n2_ n3_ n4_ n5_ n6_;clear hb hbox hg)|((with_reducible refine gate_dst (N:=4) rfl ?_);refine box_event ?hg (N:=4) ?hd (cs:=#[.int .i64 0,.int .i64 0,.slice none 0 0,.int .i64 0,.int .u32 0]) (t:=37) ?hr ?_;(case hd=>rfl);(case hg=>rfl);(case hr=>first|(go_simp;done)|(go_simp;rfl));intro gb173 hg w24 hbox hb;have n0_:=Aside0.mk (blk_below (g:=gb171) (o:=.cells #[.int .i64 a0_0,.int .i64 a0_1,.int .i64 a0_2,.slice A0_3 l0_3.length c0_3,.slice A0_4 l0_4.length c0_4,.int .i64 a0_5] 50 (0,0)) (by (with_reducible repeat (first|refine blk_drewN ?_ _|refine blk_drew ?_|refine blk_alloc ?_ _));exact BK171.out) hb);have n1_:=Aside0.mk (blk_below (g:=gb172) (o:=.cells #[.int .i64 a1_0,.int .i64 a1_1,.slice A1_2 l1_2.length c1_2,.int .i64 a1_3,.int .u32 a1_4] 37 (0,0)) (by (with_reducible repeat (first|refine blk_drewN ?_ _|refine blk_drew ?_|refine blk_alloc ?_ _));exact BK172.out) hb);have n2_:=Aside0.mk (below_step (by repeat (first|(with_reducible first|exact HB.out|apply below_alloc|apply pw_below_drewN|apply below_drew1|refine below_set ?_ GE171.out|refine below_set ?_ GE172.out)|exact HB.out)) hb);have n3_:=Aside0.mk (hbox);have n4_:=Aside0.mk ((by rw [hg];exact (below_size (by repeat (first|(with_reducible first|exact HB.out|apply below_alloc|apply pw_below_drewN|apply below_drew1|refine below_set ?_ GE171.out|refine below_set ?_ GE172.out)|exact HB.out))) : w.heap.size ≤ gb173));have n5_:=Aside0.mk ((by rw [hg];exact (below_size (by repeat (first|(with_reducible first|exact HB.out|apply below_alloc|apply pw_below_drewN|apply below_drew1|refine below_set ?_ GE171.out|refine below_set ?_ GE172.out)|exact HB.out))) : w.heap.size ≤ gb173));have n6_:=Aside0.mk ((by rw [hg];exact Nat.ne_of_lt (blk_lt (g:=gb171) (o:=.cells #[.int .i64 a0_0,.int .i64 a0_1,.int .i64 a0_2,.slice A0_3 l0_3.length c0_3,.slice A0_4 l0_4.length c0_4,.int .i64 a0_5] 50 (0,0)) (by (with_reducible repeat (first|refine blk_drewN ?_ _|refine blk_drew ?_|refine blk_alloc ?_ _));exact BK171.out)) : gb171 ≠ gb173));have n7_:=Aside0.mk ((by rw [hg];exact Nat.ne_of_gt (blk_lt (g:=gb171) (o:=.cells #[.int .i64 a0_0,.int .i64 a0_1,.int .i64 a0_2,.slice A0_3 l0_3.length c0_3,.slice A0_4 l0_4.length c0_4,.int .i64 a0_5] 50 (0,0)) (by (with_reducible repeat (first|refine blk_drewN ?_ _|refine blk_drew ?_|refine blk_alloc ?_ _));exact BK171.out)) : gb173 ≠ gb171));have n8_:=Aside0.mk ((by rw [hg];exact Nat.ne_of_lt (blk_lt (g:=gb172) (o:=.cells #[.int .i64 a1_0,.int .i64 a1_1,.slice A1_2 l1_2.length c1_2,.int .i64 a1_3,.int .u32 a1_4] 37 (0,0)) (by (with_reducible repeat (first|refine blk_drewN ?_ _|refine blk_drew ?_|refine blk_alloc ?_ _));exact BK172.out)) : gb172 ≠ gb173));have n9_:=Aside0.mk ((by rw [hg];exact Nat.ne_of_gt (blk_lt (g:=gb172) (o:=.cells #[.int .i64 a1_0,.int .i64 a1_1,.slice A1_2 l1_2.length c1_2,.int .i64 a1_3,.int .u32 a1_4] 37 (0,0)) (by (with_reducible repeat (first|refine blk_drewN ?_ _|refine blk_drew ?_|refine blk_alloc ?_ _));exact BK172.out)) : gb173 ≠ gb172));clear BK171;clear BK172;clear HB;have BK171:=n0_;have BK172:=n1_;have HB:=n2_;have BK173:=n3_;have GW173:=n4_;have GE173:=n5_;have NB171_173:=n6_;have NB173_171:=n7_;have NB172_173:=n8_;have NB173_172:=n9_;clear n0_ n1_ n2_ n3_ n4_ n5_ n6_ n7_ n8_ n9_;clear hb hbox hg;have hnb25:=NB171_172.out;have hnc25:=NB172_171.out;have hnb26:=NB171_173.out;have hnc26:=NB173_171.out;have hcz27_0 : w24.cell? ⟨gb171,0,none⟩ = some (.int .i64 a0_0):=(blk_cell BK171.out 0).trans rfl;have hcz27_1 : w24.cell? ⟨gb171,1,none⟩ = some (.int .i64 a0_1):=(blk_cell BK171.out 1).trans rfl;have hcz27_2 : w24.cell? ⟨gb171,2,none⟩ = some (.int .i64 a0_2):=(blk_cell BK171.out 2).trans rfl;have hcz27_3 : w24.cell? ⟨gb171,3,none⟩ = some (.slice A0_3 l0_3.length c0_3):=(blk_cell BK171.out 3).trans rfl;have hcz27_4 : w24.cell? ⟨gb171,4,none⟩ = some (.slice A0_4 l0_4.length c0_4):=(blk_cell BK171.out 4).trans rfl;have hcz27_5 : w24.cell? ⟨gb171,5,none⟩ = some (.int .i64 a0_5):=(blk_cell BK171.out 5).trans rfl;have hfz27_0:=blk_frozen BK171.out 0;have hfz27_1:=blk_frozen BK171.out 1;have hfz27_2:=blk_frozen BK171.out 2;have hfz27_3:=blk_frozen BK171.out 3;have hfz27_4:=blk_frozen BK171.out 4;have hfz27_5:=blk_frozen BK171.out 5)|((with_reducible refine gate_callee (f:=46) rfl ?_);refine goesL_ (some 17) rfl rfl Try.func46 (by kernel_rfl) rfl #[.agg #[.int .i64 a0_0,.int .i64 a0_1,.int .i64 a0_2,.slice A0_3 l0_3.length c0_3,.slice A0_4 l0_4.length c0_4,.int .i64 a0_5]] rfl (by (try simp only [List.map_toArray,List.map_cons,List.map_nil]);first|done|rfl|(simp only [List.length_drop,List.length_take];rfl)) ?_;(with_reducible refine (turner_Check.calls k a0_0 a0_1 a0_2 _ _ l0_3 _ _ l0_4 a0_5 t174 _ ?side1 ?side2 ?side3 ?side4 A3.out).mono ?_);(case side1=>repeat (first|exact (Kd.C_below HR0_3.out HB.out)|(with_reducible refine Kd.C_alloc ?_ _)|(with_reducible refine Kd.C_drewN ?_ _)|(with_reducible refine Kd.C_drew ?_)));(case side2=>exact HC0_3.out);(case side3=>repeat (first|exact (Kd.C_below HR0_4.out HB.out)|(with_reducible refine Kd.C_alloc ?_ _)|(with_reducible refine Kd.C_drewN ?_ _)|(with_reducible refine Kd.C_drew ?_)));(case side4=>exact HC0_4.out);rintro e w28 ⟨rfl,hb⟩;refine ⟨_,rfl,?_⟩;have n0_:=Aside0.mk (blk_below (g:=gb171) (o:=.cells #[.int .i64 a0_0,.int .i64 a0_1,.int .i64 a0_2,.slice A0_3 l0_3.length c0_3,.slice A0_4 l0_4.length c0_4,.int .i64 a0_5] 50 (0,0)) (by (with_reducible repeat (first|refine blk_drewN ?_ _|refine blk_drew ?_|refine blk_alloc ?_ _));exact BK171.out) hb);have n1_:=Aside0.mk (blk_below (g:=gb172) (o:=.cells #[.int .i64 a1_0,.int .i64 a1_1,.slice A1_2 l1_2.length c1_2,.int .i64 a1_3,.int .u32 a1_4] 37 (0,0)) (by (with_reducible repeat (first|refine blk_drewN ?_ _|refine blk_drew ?_|refine blk_alloc ?_ _));exact BK172.out) hb);have n2_:=Aside0.mk (blk_below (g:=gb173) (o:=.cells #[.int .i64 0,.int .i64 0,.slice none 0 0,.int .i64 0,.int .u32 0] 37 (0,0)) (by (with_reducible repeat (first|refine blk_drewN ?_ _|refine blk_drew ?_|refine blk_alloc ?_ _));exact BK173.out) hb);have n3_:=Aside0.mk (below_step (by repeat (first|(with_reducible first|exact HB.out|apply below_alloc|apply pw_below_drewN|apply below_drew1|refine below_set ?_ GE171.out|refine below_set ?_ GE172.out|refine below_set ?_ GE173.out)|exact HB.out)) hb);clear BK171;clear BK172;clear BK173;clear HB;have BK171:=n0_;have BK172:=n1_;have BK173:=n2_;have HB:=n3_;clear n0_ n1_ n2_ n3_;(try clear hb);(try clear hb2);(try clear hk);(try clear hi);have hnb29:=NB172_173.out;have hnc29:=NB173_172.out;have hcz30_0 : w28.cell? ⟨gb172,0,none⟩ = some (.int .i64 a1_0):=(blk_cell BK172.out 0).trans rfl;have hcz30_1 : w28.cell? ⟨gb172,1,none⟩ = some (.int .i64 a1_1):=(blk_cell BK172.out 1).trans rfl;have hcz30_2 : w28.cell? ⟨gb172,2,none⟩ = some (.slice A1_2 l1_2.length c1_2):=(blk_cell BK172.out 2).trans rfl;have hcz30_3 : w28.cell? ⟨gb172,3,none⟩ = some (.int .i64 a1_3):=(blk_cell BK172.out 3).trans rfl;have hcz30_4 : w28.cell? ⟨gb172,4,none⟩ = some (.int .u32 a1_4):=(blk_cell BK172.out 4).trans rfl;have hfz30_0:=blk_frozen BK172.out 0;have hfz30_1:=blk_frozen BK172.out 1;have hfz30_2:=blk_frozen BK172.out 2;have hfz30_3:=blk_frozen BK172.out 3;have hfz30_4:=blk_frozen BK172.out 4)|((with_reducible refine gate_callee (f:=44) rfl ?_);refine goesL_ (some 23) rfl rfl Try.func44 (by kernel_rfl) rfl #[.agg #[.int .i64 a1_0,.int .i64 a1_1,.slice A1_2 l1_2.length c1_2,.int .i64 a1_3,.int .u32 a1_4]] rfl (by (try simp only [List.map_toArray,List.map_cons,List.map_nil]);first|done|rfl|(simp only [List.length_drop,List.length_take];rfl)) ?_;(with_reducible refine (machine_Check.calls k a1_0 a1_1 _ _ l1_2 a1_3 a1_4 t175 _ ?side1 ?side2 A5.out).mono ?_);(case side1=>repeat (first|exact (Kd.C_below HR1_2.out HB.out)|(with_reducible refine Kd.C_alloc ?_ _)|(with_reducible refine Kd.C_drewN ?_ _)|(with_reducible refine Kd.C_drew ?_)));(case side2=>exact HC1_2.out);rintro e w31 ⟨rfl,hb⟩;refine ⟨_,rfl,?_⟩;have n0_:=Aside0.mk (blk_below (g:=gb171) (o:=.cells #[.int .i64 a0_0,.int .i64 a0_1,.int .i64 a0_2,.slice A0_3 l0_3.length c0_3,.slice A0_4 l0_4.length c0_4,.int .i64 a0_5] 50 (0,0)) (by (with_reducible repeat (first|refine blk_drewN ?_ _|refine blk_drew ?_|refine blk_alloc ?_ _));exact BK171.out) hb);have n1_:=Aside0.mk (blk_below (g:=gb172) (o:=.cells #[.int .i64 a1_0,.int .i64 a1_1,.slice A1_2 l1_2.length c1_2,.int .i64 a1_3,.int .u32 a1_4] 37 (0,0)) (by (with_reducible repeat (first|refine blk_drewN ?_ _|refine blk_drew ?_|refine blk_alloc ?_ _));exact BK172.out) hb);have n2_:=Aside0.mk (blk_below (g:=gb173) (o:=.cells #[.int .i64 0,.int .i64 0,.slice none 0 0,.int .i64 0,.int .u32 0] 37 (0,0)) (by (with_reducible repeat (first|refine blk_drewN ?_ _|refine blk_drew ?_|refine blk_alloc ?_ _));exact BK173.out) hb);have n3_:=Aside0.mk (below_step (by repeat (first|(with_reducible first|exact HB.out|apply below_alloc|apply pw_below_drewN|apply below_drew1|refine below_set ?_ GE171.out|refine below_set ?_ GE172.out|refine below_set ?_ GE173.out)|exact HB.out)) hb);clear BK171;clear BK172;clear BK173;clear HB;have BK171:=n0_;have BK172:=n1_;have BK173:=n2_;have HB:=n3_;clear n0_ n1_ n2_ n3_;(try clear hb);(try clear hb2);(try clear hk);(try clear hi);have hcz32_0 : w31.cell? ⟨gb171,0,none⟩ = some (.int .i64 a0_0):=(blk_cell BK171.out 0).trans rfl;have hcz32_1 : w31.cell? ⟨gb171,1,none⟩ = some (.int .i64 a0_1):=(blk_cell BK171.out 1).trans rfl;have hcz32_2 : w31.cell? ⟨gb171,2,none⟩ = some (.int .i64 a0_2):=(blk_cell BK171.out 2).trans rfl;have hcz32_3 : w31.cell? ⟨gb171,3,none⟩ = some (.slice A0_3 l0_3.length c0_3):=(blk_cell BK171.out 3).trans rfl;have hcz32_4 : w31.cell? ⟨gb171,4,none⟩ = some (.slice A0_4 l0_4.length c0_4):=(blk_cell BK171.out 4).trans rfl;have hcz32_5 : w31.cell? ⟨gb171,5,none⟩ = some (.int .i64 a0_5):=(blk_cell BK171.out 5).trans rfl;have hfz32_0:=blk_frozen BK171.out 0;have hfz32_1:=blk_frozen BK171.out 1;have hfz32_2:=blk_frozen BK171.out 2;have hfz32_3:=blk_frozen BK171.out 3;have hfz32_4:=blk_frozen BK171.out 4;have hfz32_5:=blk_frozen BK171.out 5;have hcz33_0 : w31.cell? ⟨gb172,0,none⟩ = some (.int .i64 a1_0):=(blk_cell BK172.out 0).trans rfl;have hcz33_1 : w31.cell? ⟨gb172,1,none⟩ = some (.int .i64 a1_1):=(blk_cell BK172.out 1).trans rfl;have hcz33_2 : w31.cell? ⟨gb172,2,none⟩ = some (.slice A1_2 l1_2.length c1_2):=(blk_cell BK172.out 2).trans rfl;have hcz33_3 : w31.cell? ⟨gb172,3,none⟩ = some (.int .i64 a1_3):=(blk_cell BK172.out 3).trans rfl;have hcz33_4 : w31.cell? ⟨gb172,4,none⟩ = some (.int .u32 a1_4):=(blk_cell BK172.out 4).trans rfl;have hfz33_0:=blk_frozen BK172.out 0;have hfz33_1:=blk_frozen BK172.out 1;have hfz33_2:=blk_frozen BK172.out 2;have hfz33_3:=blk_frozen BK172.out 3;have hfz33_4:=blk_frozen BK172.out 4)|((with_reducible refine gate_dst (N:=8) rfl ?_);refine box_event ?hg (N:=8) ?hd (cs:=#[.int .i64 0,.int .i64 0,.slice none 0 0,.int .i64 0,.int .u32 0]) (t:=37) ?hr ?_;(case hd=>rfl);(case hg=>rfl);(case hr=>first|(go_simp;done)|(go_simp;rfl));intro gb176 hg w34 hbox hb;have n0_:=Aside0.mk (blk_below (g:=gb171) (o:=.cells #[.int .i64 a0_0,.int .i64 a0_1,.int .i64 a0_2,.slice A0_3 l0_3.length c0_3,.slice A0_4 l0_4.length c0_4,.int .i64 a0_5] 50 (0,0)) (by (with_reducible repeat (first|refine blk_drewN ?_ _|refine blk_drew ?_|refine blk_alloc ?_ _));exact BK171.out) hb);have n1_:=Aside0.mk (blk_below (g:=gb172) (o:=.cells #[.int .i64 a1_0,.int .i64 a1_1,.slice A1_2 l1_2.length c1_2,.int .i64 a1_3,.int .u32 a1_4] 37 (0,0)) (by (with_reducible repeat (first|refine blk_drewN ?_ _|refine blk_drew ?_|refine blk_alloc ?_ _));exact BK172.out) hb);have n2_:=Aside0.mk (blk_below (g:=gb173) (o:=.cells #[.int .i64 0,.int .i64 0,.slice none 0 0,.int .i64 0,.int .u32 0] 37 (0,0)) (by (with_reducible repeat (first|refine blk_drewN ?_ _|refine blk_drew ?_|refine blk_alloc ?_ _));exact BK173.out) hb);have n3_:=Aside0.mk (below_step (by repeat (first|(with_reducible first|exact HB.out|apply below_alloc|apply pw_below_drewN|apply below_drew1|refine below_set ?_ GE171.out|refine below_set ?_ GE172.out|refine below_set ?_ GE173.out)|exact HB.out)) hb);have n4_:=Aside0.mk (hbox);have n5_:=Aside0.mk ((by rw [hg];exact (below_size (by repeat (first|(with_reducible first|exact HB.out|apply below_alloc|apply pw_below_drewN|apply below_drew1|refine below_set ?_ GE171.out|refine below_set ?_ GE172.out|refine below_set ?_ GE173.out)|exact HB.out))) : w.heap.size ≤ gb176));have n6_:=Aside0.mk ((by rw [hg];exact (below_size (by repeat (first|(with_reducible first|exact HB.out|apply below_alloc|apply pw_below_drewN|apply below_drew1|refine below_set ?_ GE171.out|refine below_set ?_ GE172.out|refine below_set ?_ GE173.out)|exact HB.out))) : w.heap.size ≤ gb176));have n7_:=Aside0.mk ((by rw [hg];exact Nat.ne_of_lt (blk_lt (g:=gb171) (o:=.cells #[.int .i64 a0_0,.int .i64 a0_1,.int .i64 a0_2,.slice A0_3 l0_3.length c0_3,.slice A0_4 l0_4.length c0_4,.int .i64 a0_5] 50 (0,0)) (by (with_reducible repeat (first|refine blk_drewN ?_ _|refine blk_drew ?_|refine blk_alloc ?_ _));exact BK171.out)) : gb171 ≠ gb176));have n8_:=Aside0.mk ((by rw [hg];exact Nat.ne_of_gt (blk_lt (g:=gb171) (o:=.cells #[.int .i64 a0_0,.int .i64 a0_1,.int .i64 a0_2,.slice A0_3 l0_3.length c0_3,.slice A0_4 l0_4.length c0_4,.int .i64 a0_5] 50 (0,0)) (by (with_reducible repeat (first|refine blk_drewN ?_ _|refine blk_drew ?_|refine blk_alloc ?_ _));exact BK171.out)) : gb176 ≠ gb171));have n9_:=Aside0.mk ((by rw [hg];exact Nat.ne_of_lt (blk_lt (g:=gb172) (o:=.cells #[.int .i64 a1_0,.int .i64 a1_1,.slice A1_2 l1_2.length c1_2,.int .i64 a1_3,.int .u32 a1_4] 37 (0,0)) (by (with_reducible repeat (first|refine blk_drewN ?_ _|refine blk_drew ?_|refine blk_alloc ?_ _));exact BK172.out)) : gb172 ≠ gb176));have n10_:=Aside0.mk ((by rw [hg];exact Nat.ne_of_gt (blk_lt (g:=gb172) (o:=.cells #[.int .i64 a1_0,.int .i64 a1_1,.slice A1_2 l1_2.length c1_2,.int .i64 a1_3,.int .u32 a1_4] 37 (0,0)) (by (with_reducible repeat (first|refine blk_drewN ?_ _|refine blk_drew ?_|refine blk_alloc ?_ _));exact BK172.out)) : gb176 ≠ gb172));have n11_:=Aside0.mk ((by rw [hg];exact Nat.ne_of_lt (blk_lt (g:=gb173) (o:=.cells #[.int .i64 0,.int .i64 0,.slice none 0 0,.int .i64 0,.int .u32 0] 37 (0,0)) (by (with_reducible repeat (first|refine blk_drewN ?_ _|refine blk_drew ?_|refine blk_alloc ?_ _));exact BK173.out)) : gb173 ≠ gb176));have n12_:=Aside0.mk ((by rw [hg];exact Nat.ne_of_gt (blk_lt (g:=gb173) (o:=.cells #[.int .i64 0,.int .i64 0,.slice none 0 0,.int .i64 0,.int .u32 0] 37 (0,0)) (by (with_reducible repeat (first|refine blk_drewN ?_ _|refine blk_drew ?_|refine blk_alloc ?_ _));exact BK173.out)) : gb176 ≠ gb173));clear BK171;clear BK172;clear BK173;clear HB;have BK171:=n0_;have BK172:=n1_;have BK173:=n2_;have HB:=n3_;have BK176:=n4_;have GW176:=n5_;have GE176:=n6_;have NB171_176:=n7_;have NB176_171:=n8_;have NB172_176:=n9_;have NB176_172:=n10_;have NB173_176:=n11_;have NB176_173:=n12_;clear n0_ n1_ n2_ n3_ n4_ n5_ n6_ n7_ n8_ n9_ n10_ n11_ n12_;clear hb hbox hg;have hnb35:=NB176_171.out;have hnc35:=NB171_176.out;have hnb36:=NB176_172.out;have hnc36:=NB172_176.out;have hnb37:=NB176_173.out;have hnc37:=NB173_176.out;have hcz38_0 : w34.cell? ⟨gb176,0,none⟩ = some (.int .i64 0):=(blk_cell BK176.out 0).trans rfl;have hcz38_1 : w34.cell? ⟨gb176,1,none⟩ = some (.int .i64 0):=(blk_cell BK176.out 1).trans rfl;have hcz38_2 : w34.cell? ⟨gb176,2,none⟩ = some (.slice none 0 0):=(blk_cell BK176.out 2).trans rfl;have hcz38_3 : w34.cell? ⟨gb176,3,none⟩ = some (.int .i64 0):=(blk_cell BK176.out 3).trans rfl;have hcz38_4 : w34.cell? ⟨gb176,4,none⟩ = some (.int .u32 0):=(blk_cell BK176.out 4).trans rfl;have hfz38_0:=blk_frozen BK176.out 0;have hfz38_1:=blk_frozen BK176.out 1;have hfz38_2:=blk_frozen BK176.out 2;have hfz38_3:=blk_frozen BK176.out 3;have hfz38_4:=blk_frozen BK176.out 4;have hcz39_0 : w34.cell? ⟨gb171,0,none⟩ = some (.int .i64 a0_0):=(blk_cell BK171.out 0).trans rfl;have hcz39_1 : w34.cell? ⟨gb171,1,none⟩ = some (.int .i64 a0_1):=(blk_cell BK171.out 1).trans rfl;have hcz39_2 : w34.cell? ⟨gb171,2,none⟩ = some (.int .i64 a0_2):=(blk_cell BK171.out 2).trans rfl;have hcz39_3 : w34.cell? ⟨gb171,3,none⟩ = some (.slice A0_3 l0_3.length c0_3):=(blk_cell BK171.out 3).trans rfl;have hcz39_4 : w34.cell? ⟨gb171,4,none⟩ = some (.slice A0_4 l0_4.length c0_4):=(blk_cell BK171.out 4).trans rfl;have hcz39_5 : w34.cell? ⟨gb171,5,none⟩ = some (.int .i64 a0_5):=(blk_cell BK171.out 5).trans rfl;have hfz39_0:=blk_frozen BK171.out 0;have hfz39_1:=blk_frozen BK171.out 1;have hfz39_2:=blk_frozen BK171.out 2;have hfz39_3:=blk_frozen BK171.out 3;have hfz39_4:=blk_frozen BK171.out 4;have hfz39_5:=blk_frozen BK171.out 5))
     go_loopg [59] k (fun kq v59 w'=>∃ (x59_1 : Int) (x177002_1 : List (List Int)) (x177004_1 : Int) (u177002 : Value),v59 = .int .i64 x59_1 ∧ Aside0 (turner_Takes.l0 kq a0_0 x59_1 a0_0 a0_1 a0_2 l0_3 l0_4 a0_5 a1_0 a1_1 l1_2 a1_3 a1_4 (wrap64 (a0_0 * a1_0)) a0_1 x177002_1 (wrap64 ((wrap64 (a0_5 * a1_0)) + a1_3)) x177004_1 = some (r1,r2,r3,r4,r5,r6)) ∧ Aside0 (kq ≤ k) ∧ Aside0 (Kd.S (Kd.slice 3 (Kd.int .i64)) 28 w' w.heap.size (fun _=>True) u177002 x177002_1) ∧ Aside0 (w'.heap[gb171]? = some (.cells #[.int .i64 a0_0,.int .i64 a0_1,.int .i64 a0_2,(.slice A0_3 l0_3.length c0_3),(.slice A0_4 l0_4.length c0_4),.int .i64 a0_5] 50 (0,0))) ∧ Aside0 (w'.heap[gb172]? = some (.cells #[.int .i64 a1_0,.int .i64 a1_1,(.slice A1_2 l1_2.length c1_2),.int .i64 a1_3,.int .u32 a1_4] 37 (0,0))) ∧ Aside0 (w'.heap[gb173]? = some (.cells #[.int .i64 0,.int .i64 0,(.slice none 0 0),.int .i64 0,.int .u32 0] 37 (0,0))) ∧ Aside0 (w'.heap[gb176]? = some (.cells #[.int .i64 (wrap64 (a0_0 * a1_0)),.int .i64 a0_1,u177002,.int .i64 (wrap64 ((wrap64 (a0_5 * a1_0)) + a1_3)),.int .u32 x177004_1] 37 (0,0))) ∧ Aside0 (Below w.heap.size w w'))
     case atStart=>exact ⟨(0),(([] : List (List Int))),(0),(.slice none 0 0),(by first|rfl|(simp;done)|(simp [*];done)),H',⟨Nat.le_refl _⟩,⟨by first|exact Kd.S_nil _ _ _ _ _|exact Kd.N_nil _ _ _ _ _|exact Kd.V_nil _ _ _ _ _|exact Kd.Q_nil _ _ _ _ _|exact Kd.R_nil _ _ _ _ _⟩,⟨by (with_reducible repeat (first|refine blk_drewN ?_ _|refine blk_drew ?_|refine blk_alloc ?_ _));refine blk_far ?_ NB171_176.out _;(with_reducible repeat (first|refine blk_drewN ?_ _|refine blk_drew ?_|refine blk_alloc ?_ _));refine blk_far ?_ NB171_176.out _;(with_reducible repeat (first|refine blk_drewN ?_ _|refine blk_drew ?_|refine blk_alloc ?_ _));refine blk_far ?_ NB171_176.out _;(with_reducible repeat (first|refine blk_drewN ?_ _|refine blk_drew ?_|refine blk_alloc ?_ _));refine blk_far ?_ NB171_176.out _;(with_reducible repeat (first|refine blk_drewN ?_ _|refine blk_drew ?_|refine blk_alloc ?_ _));refine blk_far ?_ NB171_176.out _;(with_reducible repeat (first|refine blk_drewN ?_ _|refine blk_drew ?_|refine blk_alloc ?_ _));exact BK171.out⟩,⟨by (with_reducible repeat (first|refine blk_drewN ?_ _|refine blk_drew ?_|refine blk_alloc ?_ _));refine blk_far ?_ NB172_176.out _;(with_reducible repeat (first|refine blk_drewN ?_ _|refine blk_drew ?_|refine blk_alloc ?_ _));refine blk_far ?_ NB172_176.out _;(with_reducible repeat (first|refine blk_drewN ?_ _|refine blk_drew ?_|refine blk_alloc ?_ _));refine blk_far ?_ NB172_176.out _;(with_reducible repeat (first|refine blk_drewN ?_ _|refine blk_drew ?_|refine blk_alloc ?_ _));refine blk_far ?_ NB172_176.out _;(with_reducible repeat (first|refine blk_drewN ?_ _|refine blk_drew ?_|refine blk_alloc ?_ _));refine blk_far ?_ NB172_176.out _;(with_reducible repeat (first|refine blk_drewN ?_ _|refine blk_drew ?_|refine blk_alloc ?_ _));exact BK172.out⟩,⟨by (with_reducible repeat (first|refine blk_drewN ?_ _|refine blk_drew ?_|refine blk_alloc ?_ _));refine blk_far ?_ NB173_176.out _;(with_reducible repeat (first|refine blk_drewN ?_ _|refine blk_drew ?_|refine blk_alloc ?_ _));refine blk_far ?_ NB173_176.out _;(with_reducible repeat (first|refine blk_drewN ?_ _|refine blk_drew ?_|refine blk_alloc ?_ _));refine blk_far ?_ NB173_176.out _;(with_reducible repeat (first|refine blk_drewN ?_ _|refine blk_drew ?_|refine blk_alloc ?_ _));refine blk_far ?_ NB173_176.out _;(with_reducible repeat (first|refine blk_drewN ?_ _|refine blk_drew ?_|refine blk_alloc ?_ _));refine blk_far ?_ NB173_176.out _;(with_reducible repeat (first|refine blk_drewN ?_ _|refine blk_drew ?_|refine blk_alloc ?_ _));exact BK173.out⟩,⟨by (with_reducible repeat (first|refine blk_drewN ?_ _|refine blk_drew ?_|refine blk_alloc ?_ _));refine blk_put (cs:=#[.int .i64 (wrap64 (a0_0 * a1_0)),.int .i64 a0_1,.slice none 0 0,.int .i64 (wrap64 ((wrap64 (a0_5 * a1_0)) + a1_3)),.int .u32 0]) ?_ 4 _ rfl;(with_reducible repeat (first|refine blk_drewN ?_ _|refine blk_drew ?_|refine blk_alloc ?_ _));refine blk_put (cs:=#[.int .i64 (wrap64 (a0_0 * a1_0)),.int .i64 a0_1,.slice none 0 0,.int .i64 0,.int .u32 0]) ?_ 3 _ rfl;(with_reducible repeat (first|refine blk_drewN ?_ _|refine blk_drew ?_|refine blk_alloc ?_ _));refine blk_put (cs:=#[.int .i64 (wrap64 (a0_0 * a1_0)),.int .i64 a0_1,.slice none 0 0,.int .i64 0,.int .u32 0]) ?_ 2 _ rfl;(with_reducible repeat (first|refine blk_drewN ?_ _|refine blk_drew ?_|refine blk_alloc ?_ _));refine blk_put (cs:=#[.int .i64 (wrap64 (a0_0 * a1_0)),.int .i64 0,.slice none 0 0,.int .i64 0,.int .u32 0]) ?_ 1 _ rfl;(with_reducible repeat (first|refine blk_drewN ?_ _|refine blk_drew ?_|refine blk_alloc ?_ _));refine blk_put (cs:=#[.int .i64 0,.int .i64 0,.slice none 0 0,.int .i64 0,.int .u32 0]) ?_ 0 _ rfl;(with_reducible repeat (first|refine blk_drewN ?_ _|refine blk_drew ?_|refine blk_alloc ?_ _));exact BK176.out⟩,⟨by repeat (first|(with_reducible first|exact HB.out|apply below_alloc|apply pw_below_drewN|apply below_drew1|refine below_set ?_ GE171.out|refine below_set ?_ GE172.out|refine below_set ?_ GE173.out|refine below_set ?_ GE176.out)|exact HB.out)⟩⟩
     case round =>
      clear H'
      try clear c1
      try clear c2
      try clear p2
      try clear c3
      try clear c4
      try clear c4b0
      try clear c4b1
      try clear c6
      try clear c6b0
      try clear c6b1
      try clear p6
      try clear c7
      try clear c7b0
      try clear c7b1
      try clear c8
      try clear c8b0
      try clear c12
      try clear c13
      try clear c16
      try clear c25
      try clear c26
      try clear c29
      try clear c30
      try clear c35
      try clear c36
      try clear c37
      try clear hcz14_0
      try clear hcz14_1
      try clear hcz14_2
      try clear hcz14_3
      try clear hcz14_4
      try clear hcz14_5
      try clear hcz17_0
      try clear hcz17_1
      try clear hcz17_2
      try clear hcz17_3
      try clear hcz17_4
      try clear hcz19_0
      try clear hcz19_1
      try clear hcz19_2
      try clear hcz19_3
      try clear hcz19_4
      try clear hcz19_5
      try clear hcz20_0
      try clear hcz20_1
      try clear hcz20_2
      try clear hcz20_3
      try clear hcz20_4
      try clear hcz21_0
      try clear hcz21_1
      try clear hcz21_2
      try clear hcz21_3
      try clear hcz21_4
      try clear hcz27_0
      try clear hcz27_1
      try clear hcz27_2
      try clear hcz27_3
      try clear hcz27_4
      try clear hcz27_5
      try clear hcz30_0
      try clear hcz30_1
      try clear hcz30_2
      try clear hcz30_3
      try clear hcz30_4
      try clear hcz32_0
      try clear hcz32_1
      try clear hcz32_2
      try clear hcz32_3
      try clear hcz32_4
      try clear hcz32_5
      try clear hcz33_0
      try clear hcz33_1
      try clear hcz33_2
      try clear hcz33_3
      try clear hcz33_4
      try clear hcz38_0
      try clear hcz38_1
      try clear hcz38_2
      try clear hcz38_3
      try clear hcz38_4
      try clear hcz39_0
      try clear hcz39_1
      try clear hcz39_2
      try clear hcz39_3
      try clear hcz39_4
      try clear hcz39_5
      try clear hfz14_0
      try clear hfz14_1
      try clear hfz14_2
      try clear hfz14_3
      try clear hfz14_4
      try clear hfz14_5
      try clear hfz17_0
      try clear hfz17_1
      try clear hfz17_2
      try clear hfz17_3
      try clear hfz17_4
      try clear hfz19_0
      try clear hfz19_1
      try clear hfz19_2
      try clear hfz19_3
      try clear hfz19_4
      try clear hfz19_5
      try clear hfz20_0
      try clear hfz20_1
      try clear hfz20_2
      try clear hfz20_3
      try clear hfz20_4
      try clear hfz21_0
      try clear hfz21_1
      try clear hfz21_2
      try clear hfz21_3
      try clear hfz21_4
      try clear hfz27_0
      try clear hfz27_1
      try clear hfz27_2
      try clear hfz27_3
      try clear hfz27_4
      try clear hfz27_5
      try clear hfz30_0
      try clear hfz30_1
      try clear hfz30_2
      try clear hfz30_3
      try clear hfz30_4
      try clear hfz32_0
      try clear hfz32_1
      try clear hfz32_2
      try clear hfz32_3
      try clear hfz32_4
      try clear hfz32_5
      try clear hfz33_0
      try clear hfz33_1
      try clear hfz33_2
      try clear hfz33_3
      try clear hfz33_4
      try clear hfz38_0
      try clear hfz38_1
      try clear hfz38_2
      try clear hfz38_3
      try clear hfz38_4
      try clear hfz39_0
      try clear hfz39_1
      try clear hfz39_2
      try clear hfz39_3
      try clear hfz39_4
      try clear hfz39_5
      obtain ⟨x59_1,x177002_1,x177004_1,u177002,rfl,HA,HK1,HO_177002,BK171,BK172,BK173,BK176,HB⟩:=hrel
      cases gk with
      | zero=>exact absurd HA.out (by simp [turner_Takes.l0])
      | succ k1 =>
       have H:=HA.out
       clear HA
       simp only [turner_Takes.l0] at H
       by_cases c40 : x59_1 < a0_0
       ·rw [if_pos c40] at H
        have c40b0 : decide (x59_1 < a0_0) = true:=decide_eq_true c40
        clear c40
        have H':=Aside0.mk H
        clear H
        have hnb41:=NB172_171.out
        have hnc41:=NB171_172.out
        have hnb42:=NB172_173.out
        have hnc42:=NB173_172.out
        have hnb43:=NB172_176.out
        have hnc43:=NB176_172.out
        have hcz44_0 : wr.cell? ⟨gb172,0,none⟩ = some (.int .i64 a1_0):=(blk_cell BK172.out 0).trans rfl
        have hcz44_1 : wr.cell? ⟨gb172,1,none⟩ = some (.int .i64 a1_1):=(blk_cell BK172.out 1).trans rfl
        have hcz44_2 : wr.cell? ⟨gb172,2,none⟩ = some (.slice A1_2 l1_2.length c1_2):=(blk_cell BK172.out 2).trans rfl
        have hcz44_3 : wr.cell? ⟨gb172,3,none⟩ = some (.int .i64 a1_3):=(blk_cell BK172.out 3).trans rfl
        have hcz44_4 : wr.cell? ⟨gb172,4,none⟩ = some (.int .u32 a1_4):=(blk_cell BK172.out 4).trans rfl
        have hfz44_0:=blk_frozen BK172.out 0
        have hfz44_1:=blk_frozen BK172.out 1
        have hfz44_2:=blk_frozen BK172.out 2
        have hfz44_3:=blk_frozen BK172.out 3
        have hfz44_4:=blk_frozen BK172.out 4
        go_wp2
        go_loopg [64] k1 (fun kq v64 w'=>∃ (x64_2 : Int) (x177002_2 : List (List Int)) (x177004_2 : Int) (u177002 : Value),v64 = .int .i64 x64_2 ∧ Aside0 (turner_Takes.l1 kq x59_1 a0_0 x59_1 a1_0 x64_2 a0_0 a0_1 a0_2 l0_3 l0_4 a0_5 a1_0 a1_1 l1_2 a1_3 a1_4 (wrap64 (a0_0 * a1_0)) a0_1 x177002_2 (wrap64 ((wrap64 (a0_5 * a1_0)) + a1_3)) x177004_2 = some (r1,r2,r3,r4,r5,r6)) ∧ Aside0 (kq ≤ k1) ∧ Aside0 (Kd.S (Kd.slice 3 (Kd.int .i64)) 28 w' w.heap.size (fun _=>True) u177002 x177002_2) ∧ Aside0 (w'.heap[gb171]? = some (.cells #[.int .i64 a0_0,.int .i64 a0_1,.int .i64 a0_2,(.slice A0_3 l0_3.length c0_3),(.slice A0_4 l0_4.length c0_4),.int .i64 a0_5] 50 (0,0))) ∧ Aside0 (w'.heap[gb172]? = some (.cells #[.int .i64 a1_0,.int .i64 a1_1,(.slice A1_2 l1_2.length c1_2),.int .i64 a1_3,.int .u32 a1_4] 37 (0,0))) ∧ Aside0 (w'.heap[gb173]? = some (.cells #[.int .i64 0,.int .i64 0,(.slice none 0 0),.int .i64 0,.int .u32 0] 37 (0,0))) ∧ Aside0 (w'.heap[gb176]? = some (.cells #[.int .i64 (wrap64 (a0_0 * a1_0)),.int .i64 a0_1,u177002,.int .i64 (wrap64 ((wrap64 (a0_5 * a1_0)) + a1_3)),.int .u32 x177004_2] 37 (0,0))) ∧ Aside0 (Below w.heap.size w w'))
        case atStart=>exact ⟨(0),(x177002_1),(x177004_1),(u177002),(by first|rfl|(simp;done)|(simp [*];done)),H',⟨Nat.le_refl _⟩,⟨by (with_reducible repeat (first|apply Kd.S_alloc|apply Kd.S_drewN|apply Kd.S_drew));exact HO_177002.out⟩,⟨by (with_reducible repeat (first|refine blk_drewN ?_ _|refine blk_drew ?_|refine blk_alloc ?_ _));exact BK171.out⟩,⟨by (with_reducible repeat (first|refine blk_drewN ?_ _|refine blk_drew ?_|refine blk_alloc ?_ _));exact BK172.out⟩,⟨by (with_reducible repeat (first|refine blk_drewN ?_ _|refine blk_drew ?_|refine blk_alloc ?_ _));exact BK173.out⟩,⟨by (with_reducible repeat (first|refine blk_drewN ?_ _|refine blk_drew ?_|refine blk_alloc ?_ _));exact BK176.out⟩,⟨by repeat (first|(with_reducible first|exact HB.out|apply below_alloc|apply pw_below_drewN|apply below_drew1|refine below_set ?_ GE171.out|refine below_set ?_ GE172.out|refine below_set ?_ GE173.out|refine below_set ?_ GE176.out)|exact HB.out)⟩⟩
        case round =>
         clear H'
         try clear c1
         try clear c2
         try clear p2
         try clear c3
         try clear c4
         try clear c4b0
         try clear c4b1
         try clear c6
         try clear c6b0
         try clear c6b1
         try clear p6
         try clear c7
         try clear c7b0
         try clear c7b1
         try clear c8
         try clear c8b0
         try clear c12
         try clear c13
         try clear c16
         try clear c25
         try clear c26
         try clear c29
         try clear c30
         try clear c35
         try clear c36
         try clear c37
         try clear c40
         try clear c40b0
         try clear c41
         try clear c42
         try clear c43
         try clear c44
         try clear hcz14_0
         try clear hcz14_1
         try clear hcz14_2
         try clear hcz14_3
         try clear hcz14_4
         try clear hcz14_5
         try clear hcz17_0
         try clear hcz17_1
         try clear hcz17_2
         try clear hcz17_3
         try clear hcz17_4
         try clear hcz19_0
         try clear hcz19_1
         try clear hcz19_2
         try clear hcz19_3
         try clear hcz19_4
         try clear hcz19_5
         try clear hcz20_0
         try clear hcz20_1
         try clear hcz20_2
         try clear hcz20_3
         try clear hcz20_4
         try clear hcz21_0
         try clear hcz21_1
         try clear hcz21_2
         try clear hcz21_3
         try clear hcz21_4
         try clear hcz27_0
         try clear hcz27_1
         try clear hcz27_2
         try clear hcz27_3
         try clear hcz27_4
         try clear hcz27_5
         try clear hcz30_0
         try clear hcz30_1
         try clear hcz30_2
         try clear hcz30_3
         try clear hcz30_4
         try clear hcz32_0
         try clear hcz32_1
         try clear hcz32_2
         try clear hcz32_3
         try clear hcz32_4
         try clear hcz32_5
         try clear hcz33_0
         try clear hcz33_1
         try clear hcz33_2
         try clear hcz33_3
         try clear hcz33_4
         try clear hcz38_0
         try clear hcz38_1
         try clear hcz38_2
         try clear hcz38_3
         try clear hcz38_4
         try clear hcz39_0
         try clear hcz39_1
         try clear hcz39_2
         try clear hcz39_3
         try clear hcz39_4
         try clear hcz39_5
         try clear hcz44_0
         try clear hcz44_1
         try clear hcz44_2
         try clear hcz44_3
         try clear hcz44_4
         try clear hfz14_0
         try clear hfz14_1
         try clear hfz14_2
         try clear hfz14_3
         try clear hfz14_4
         try clear hfz14_5
         try clear hfz17_0
         try clear hfz17_1
         try clear hfz17_2
         try clear hfz17_3
         try clear hfz17_4
         try clear hfz19_0
         try clear hfz19_1
         try clear hfz19_2
         try clear hfz19_3
         try clear hfz19_4
         try clear hfz19_5
         try clear hfz20_0
         try clear hfz20_1
         try clear hfz20_2
         try clear hfz20_3
         try clear hfz20_4
         try clear hfz21_0
         try clear hfz21_1
         try clear hfz21_2
         try clear hfz21_3
         try clear hfz21_4
         try clear hfz27_0
         try clear hfz27_1
         try clear hfz27_2
         try clear hfz27_3
         try clear hfz27_4
         try clear hfz27_5
         try clear hfz30_0
         try clear hfz30_1
         try clear hfz30_2
         try clear hfz30_3
         try clear hfz30_4
         try clear hfz32_0
         try clear hfz32_1
         try clear hfz32_2
         try clear hfz32_3
         try clear hfz32_4
         try clear hfz32_5
         try clear hfz33_0
         try clear hfz33_1
         try clear hfz33_2
         try clear hfz33_3
         try clear hfz33_4
         try clear hfz38_0
         try clear hfz38_1
         try clear hfz38_2
         try clear hfz38_3
         try clear hfz38_4
         try clear hfz39_0
         try clear hfz39_1
         try clear hfz39_2
         try clear hfz39_3
         try clear hfz39_4
         try clear hfz39_5
         try clear hfz44_0
         try clear hfz44_1
         try clear hfz44_2
         try clear hfz44_3
         try clear hfz44_4
         try clear p2
         try clear p6
         obtain ⟨x64_2,x177002_2,x177004_2,u177002,rfl,HA,HK2,HO_177002,BK171,BK172,BK173,BK176,HB⟩:=hrel
         cases gk with
         | zero=>exact absurd HA.out (by simp [turner_Takes.l1])
         | succ k2 =>
          have H:=HA.out
          clear HA
          simp only [turner_Takes.l1] at H
          by_cases c45 : x64_2 < a1_0
          ·rw [if_pos c45] at H
           have c45b0 : decide (x64_2 < a1_0) = true:=decide_eq_true c45
           clear c45
           have H':=Aside0.mk H
           clear H
           have hnb46:=NB171_172.out
           have hnc46:=NB172_171.out
           have hnb47:=NB171_173.out
           have hnc47:=NB173_171.out
           have hnb48:=NB171_176.out
           have hnc48:=NB176_171.out
           have hcz49_0 : wr.cell? ⟨gb171,0,none⟩ = some (.int .i64 a0_0):=(blk_cell BK171.out 0).trans rfl
           have hcz49_1 : wr.cell? ⟨gb171,1,none⟩ = some (.int .i64 a0_1):=(blk_cell BK171.out 1).trans rfl
           have hcz49_2 : wr.cell? ⟨gb171,2,none⟩ = some (.int .i64 a0_2):=(blk_cell BK171.out 2).trans rfl
           have hcz49_3 : wr.cell? ⟨gb171,3,none⟩ = some (.slice A0_3 l0_3.length c0_3):=(blk_cell BK171.out 3).trans rfl
           have hcz49_4 : wr.cell? ⟨gb171,4,none⟩ = some (.slice A0_4 l0_4.length c0_4):=(blk_cell BK171.out 4).trans rfl
           have hcz49_5 : wr.cell? ⟨gb171,5,none⟩ = some (.int .i64 a0_5):=(blk_cell BK171.out 5).trans rfl
           have hfz49_0:=blk_frozen BK171.out 0
           have hfz49_1:=blk_frozen BK171.out 1
           have hfz49_2:=blk_frozen BK171.out 2
           have hfz49_3:=blk_frozen BK171.out 3
           have hfz49_4:=blk_frozen BK171.out 4
           have hfz49_5:=blk_frozen BK171.out 5
           go_wp2
           go_loopg [11,69] k2 (fun kq v11 v69 w'=>∃ (x11_3 : List Int) (x69_3 : Int),v69 = .int .i64 x69_3 ∧ Aside0 (turner_Takes.l2 kq x59_1 x64_2 x11_3 a0_0 x59_1 a1_0 x64_2 a0_1 x69_3 a0_0 a0_1 a0_2 l0_3 l0_4 a0_5 a1_0 a1_1 l1_2 a1_3 a1_4 (wrap64 (a0_0 * a1_0)) a0_1 x177002_2 (wrap64 ((wrap64 (a0_5 * a1_0)) + a1_3)) x177004_2 = some (r1,r2,r3,r4,r5,r6)) ∧ Aside0 (kq ≤ k2) ∧ Aside0 (Kd.R (Kd.int .i64) 3 w' w.heap.size (fun _=>True) v11 x11_3) ∧ Aside0 (Kd.S (Kd.slice 3 (Kd.int .i64)) 28 w' w.heap.size (fun k_=>some k_ ≠ (v11 : Value).ownBlock) u177002 x177002_2) ∧ Aside0 (w'.heap[gb171]? = some (.cells #[.int .i64 a0_0,.int .i64 a0_1,.int .i64 a0_2,(.slice A0_3 l0_3.length c0_3),(.slice A0_4 l0_4.length c0_4),.int .i64 a0_5] 50 (0,0))) ∧ Aside0 (w'.heap[gb172]? = some (.cells #[.int .i64 a1_0,.int .i64 a1_1,(.slice A1_2 l1_2.length c1_2),.int .i64 a1_3,.int .u32 a1_4] 37 (0,0))) ∧ Aside0 (w'.heap[gb173]? = some (.cells #[.int .i64 0,.int .i64 0,(.slice none 0 0),.int .i64 0,.int .u32 0] 37 (0,0))) ∧ Aside0 (w'.heap[gb176]? = some (.cells #[.int .i64 (wrap64 (a0_0 * a1_0)),.int .i64 a0_1,u177002,.int .i64 (wrap64 ((wrap64 (a0_5 * a1_0)) + a1_3)),.int .u32 x177004_2] 37 (0,0))) ∧ Aside0 (Below w.heap.size w w'))
           case atStart=>exact ⟨(([] : List Int)),(0),(by first|rfl|(simp;done)|(simp [*];done)),H',⟨Nat.le_refl _⟩,⟨by first|exact Kd.R_nil _ _ _ _ _|exact Kd.N_nil _ _ _ _ _|exact Kd.V_nil _ _ _ _ _|exact Kd.Q_nil _ _ _ _ _|exact Kd.S_nil _ _ _ _ _⟩,⟨by (with_reducible repeat (first|apply Kd.S_alloc|apply Kd.S_drewN|apply Kd.S_drew));exact Kd.S_mono HO_177002.out (fun _ hk=>(by simp [Value.ownBlock]))⟩,⟨by (with_reducible repeat (first|refine blk_drewN ?_ _|refine blk_drew ?_|refine blk_alloc ?_ _));exact BK171.out⟩,⟨by (with_reducible repeat (first|refine blk_drewN ?_ _|refine blk_drew ?_|refine blk_alloc ?_ _));exact BK172.out⟩,⟨by (with_reducible repeat (first|refine blk_drewN ?_ _|refine blk_drew ?_|refine blk_alloc ?_ _));exact BK173.out⟩,⟨by (with_reducible repeat (first|refine blk_drewN ?_ _|refine blk_drew ?_|refine blk_alloc ?_ _));exact BK176.out⟩,⟨by repeat (first|(with_reducible first|exact HB.out|apply below_alloc|apply pw_below_drewN|apply below_drew1|refine below_set ?_ GE171.out|refine below_set ?_ GE172.out|refine below_set ?_ GE173.out|refine below_set ?_ GE176.out)|exact HB.out)⟩⟩
           case round =>
            clear H'
            try clear c1
            try clear c2
            try clear p2
            try clear c3
            try clear c4
            try clear c4b0
            try clear c4b1
            try clear c6
            try clear c6b0
            try clear c6b1
            try clear p6
            try clear c7
            try clear c7b0
            try clear c7b1
            try clear c8
            try clear c8b0
            try clear c12
            try clear c13
            try clear c16
            try clear c25
            try clear c26
            try clear c29
            try clear c30
            try clear c35
            try clear c36
            try clear c37
            try clear c40
            try clear c40b0
            try clear c41
            try clear c42
            try clear c43
            try clear c44
            try clear c45
            try clear c45b0
            try clear c46
            try clear c47
            try clear c48
            try clear hcz14_0
            try clear hcz14_1
            try clear hcz14_2
            try clear hcz14_3
            try clear hcz14_4
            try clear hcz14_5
            try clear hcz17_0
            try clear hcz17_1
            try clear hcz17_2
            try clear hcz17_3
            try clear hcz17_4
            try clear hcz19_0
            try clear hcz19_1
            try clear hcz19_2
            try clear hcz19_3
            try clear hcz19_4
            try clear hcz19_5
            try clear hcz20_0
            try clear hcz20_1
            try clear hcz20_2
            try clear hcz20_3
            try clear hcz20_4
            try clear hcz21_0
            try clear hcz21_1
            try clear hcz21_2
            try clear hcz21_3
            try clear hcz21_4
            try clear hcz27_0
            try clear hcz27_1
            try clear hcz27_2
            try clear hcz27_3
            try clear hcz27_4
            try clear hcz27_5
            try clear hcz30_0
            try clear hcz30_1
            try clear hcz30_2
            try clear hcz30_3
            try clear hcz30_4
            try clear hcz32_0
            try clear hcz32_1
            try clear hcz32_2
            try clear hcz32_3
            try clear hcz32_4
            try clear hcz32_5
            try clear hcz33_0
            try clear hcz33_1
            try clear hcz33_2
            try clear hcz33_3
            try clear hcz33_4
            try clear hcz38_0
            try clear hcz38_1
            try clear hcz38_2
            try clear hcz38_3
            try clear hcz38_4
            try clear hcz39_0
            try clear hcz39_1
            try clear hcz39_2
            try clear hcz39_3
            try clear hcz39_4
            try clear hcz39_5
            try clear hcz44_0
            try clear hcz44_1
            try clear hcz44_2
            try clear hcz44_3
            try clear hcz44_4
            try clear hcz49_0
            try clear hcz49_1
            try clear hcz49_2
            try clear hcz49_3
            try clear hcz49_4
            try clear hcz49_5
            try clear hfz14_0
            try clear hfz14_1
            try clear hfz14_2
            try clear hfz14_3
            try clear hfz14_4
            try clear hfz14_5
            try clear hfz17_0
            try clear hfz17_1
            try clear hfz17_2
            try clear hfz17_3
            try clear hfz17_4
            try clear hfz19_0
            try clear hfz19_1
            try clear hfz19_2
            try clear hfz19_3
            try clear hfz19_4
            try clear hfz19_5
            try clear hfz20_0
            try clear hfz20_1
            try clear hfz20_2
            try clear hfz20_3
            try clear hfz20_4
            try clear hfz21_0
            try clear hfz21_1
            try clear hfz21_2
            try clear hfz21_3
            try clear hfz21_4
            try clear hfz27_0
            try clear hfz27_1
            try clear hfz27_2
            try clear hfz27_3
            try clear hfz27_4
            try clear hfz27_5
            try clear hfz30_0
            try clear hfz30_1
            try clear hfz30_2
            try clear hfz30_3
            try clear hfz30_4
            try clear hfz32_0
            try clear hfz32_1
            try clear hfz32_2
            try clear hfz32_3
            try clear hfz32_4
            try clear hfz32_5
            try clear hfz33_0
            try clear hfz33_1
            try clear hfz33_2
            try clear hfz33_3
            try clear hfz33_4
            try clear hfz38_0
            try clear hfz38_1
            try clear hfz38_2
            try clear hfz38_3
            try clear hfz38_4
            try clear hfz39_0
            try clear hfz39_1
            try clear hfz39_2
            try clear hfz39_3
            try clear hfz39_4
            try clear hfz39_5
            try clear hfz44_0
            try clear hfz44_1
            try clear hfz44_2
            try clear hfz44_3
            try clear hfz44_4
            try clear hfz49_0
            try clear hfz49_1
            try clear hfz49_2
            try clear hfz49_3
            try clear hfz49_4
            try clear hfz49_5
            try clear p2
            try clear p6
            obtain ⟨x11_3,x69_3,rfl,HA,HK3,HO_11,HO_177002,BK171,BK172,BK173,BK176,HB⟩:=hrel
            cases gk with
            | zero=>exact absurd HA.out (by simp [turner_Takes.l2])
            | succ k3 =>
             have H:=HA.out
             clear HA
             simp only [turner_Takes.l2] at H
             by_cases c50 : x69_3 < a0_1
             ·rw [if_pos c50] at H
              have c50b0 : decide (x69_3 < a0_1) = true:=decide_eq_true c50
              clear c50
              by_cases c51 : 0 ≤ x59_1
              ·rw [if_pos c51] at H
               have c51b0 : decide (0 ≤ x59_1) = true:=decide_eq_true c51
               clear c51
               by_cases c52 : x59_1 < (l0_4.length : Int)
               ·rw [if_pos c52] at H
                have c52b0 : decide (x59_1 < (l0_4.length : Int)) = true:=decide_eq_true c52
                clear c52
                by_cases c53 : 0 ≤ x69_3
                ·rw [if_pos c53] at H
                 have c53b0 : decide (0 ≤ x69_3) = true:=decide_eq_true c53
                 clear c53
                 by_cases c54 : x69_3 < ((rd_L2 l0_4 x59_1).length : Int)
                 ·rw [if_pos c54] at H
                  have c54b0 : decide (x69_3 < ((rd_L2 l0_4 x59_1).length : Int)) = true:=decide_eq_true c54
                  clear c54
                  have H':=Aside0.mk H
                  clear H
                  have hnb55:=NB171_172.out
                  have hnc55:=NB172_171.out
                  have hnb56:=NB171_173.out
                  have hnc56:=NB173_171.out
                  have hnb57:=NB171_176.out
                  have hnc57:=NB176_171.out
                  have hcz58_0 : wr.cell? ⟨gb171,0,none⟩ = some (.int .i64 a0_0):=(blk_cell BK171.out 0).trans rfl
                  have hcz58_1 : wr.cell? ⟨gb171,1,none⟩ = some (.int .i64 a0_1):=(blk_cell BK171.out 1).trans rfl
                  have hcz58_2 : wr.cell? ⟨gb171,2,none⟩ = some (.int .i64 a0_2):=(blk_cell BK171.out 2).trans rfl
                  have hcz58_3 : wr.cell? ⟨gb171,3,none⟩ = some (.slice A0_3 l0_3.length c0_3):=(blk_cell BK171.out 3).trans rfl
                  have hcz58_4 : wr.cell? ⟨gb171,4,none⟩ = some (.slice A0_4 l0_4.length c0_4):=(blk_cell BK171.out 4).trans rfl
                  have hcz58_5 : wr.cell? ⟨gb171,5,none⟩ = some (.int .i64 a0_5):=(blk_cell BK171.out 5).trans rfl
                  have hfz58_0:=blk_frozen BK171.out 0
                  have hfz58_1:=blk_frozen BK171.out 1
                  have hfz58_2:=blk_frozen BK171.out 2
                  have hfz58_3:=blk_frozen BK171.out 3
                  have hfz58_4:=blk_frozen BK171.out 4
                  have hfz58_5:=blk_frozen BK171.out 5
                  have p180 : 0 ≤ (x59_1 : Int):=of_decide_eq_true (by first|(with_reducible assumption)|assumption)
                  have q180 : x59_1 < (l0_4.length : Int):=of_decide_eq_true (by first|(with_reducible assumption)|assumption)
                  obtain ⟨ad180,A180_0,c180_0,e180,hx180_0,hl180_0,hi180_0⟩:=at_L2 HR0_4.out x59_1 p180 q180
                  cases e180
                  replace hx180_0:=(HB.out.cell (World.block_lt_of_cell? w _ hx180_0)).trans hx180_0
                  have HR180_0:=Aside0.mk hi180_0
                  have HC180_0:=Aside0.mk hl180_0
                  clear hi180_0 hl180_0
                  replace p180:=eq_true p180
                  replace q180:=eq_true q180
                  have p181 : 0 ≤ (x69_3 : Int):=of_decide_eq_true (by first|(with_reducible assumption)|assumption)
                  have q181 : x69_3 < ((rd_L2 l0_4 x59_1).length : Int):=of_decide_eq_true (by first|(with_reducible assumption)|assumption)
                  obtain ⟨ad181,A181_0,c181_0,e181,hx181_0,hl181_0,hi181_0⟩:=at_L1 HR180_0.out x69_3 p181 q181
                  cases e181
                  replace hx181_0:=(HB.out.cell (World.block_lt_of_cell? w _ hx181_0)).trans hx181_0
                  have HR181_0:=Aside0.mk hi181_0
                  have HC181_0:=Aside0.mk hl181_0
                  clear hi181_0 hl181_0
                  replace p181:=eq_true p181
                  replace q181:=eq_true q181
                  go_wp2
                  go_loopg [13,82] k3 (fun kq v13 v82 w'=>∃ (x13_4 : Int) (x82_4 : Int),v13 = .int .i64 x13_4 ∧ v82 = .int .i64 x82_4 ∧ Aside0 (turner_Takes.l3 kq x59_1 x64_2 x11_3 x69_3 x13_4 a0_0 x59_1 a1_0 x64_2 a0_1 x69_3 (rd_L1 (rd_L2 l0_4 x59_1) x69_3) ((rd_L1 (rd_L2 l0_4 x59_1) x69_3).length : Int) x82_4 a0_0 a0_1 a0_2 l0_3 l0_4 a0_5 a1_0 a1_1 l1_2 a1_3 a1_4 (wrap64 (a0_0 * a1_0)) a0_1 x177002_2 (wrap64 ((wrap64 (a0_5 * a1_0)) + a1_3)) x177004_2 = some (r1,r2,r3,r4,r5,r6)) ∧ Aside0 (kq ≤ k3) ∧ Aside0 (Kd.R (Kd.int .i64) 3 w' w.heap.size (fun _=>True) u11 x11_3) ∧ Aside0 (Kd.S (Kd.slice 3 (Kd.int .i64)) 28 w' w.heap.size (fun k_=>some k_ ≠ (u11 : Value).ownBlock) u177002 x177002_2) ∧ Aside0 (w'.heap[gb171]? = some (.cells #[.int .i64 a0_0,.int .i64 a0_1,.int .i64 a0_2,(.slice A0_3 l0_3.length c0_3),(.slice (some ad180) l0_4.length c0_4),.int .i64 a0_5] 50 (0,0))) ∧ Aside0 (w'.heap[gb172]? = some (.cells #[.int .i64 a1_0,.int .i64 a1_1,(.slice A1_2 l1_2.length c1_2),.int .i64 a1_3,.int .u32 a1_4] 37 (0,0))) ∧ Aside0 (w'.heap[gb173]? = some (.cells #[.int .i64 0,.int .i64 0,(.slice none 0 0),.int .i64 0,.int .u32 0] 37 (0,0))) ∧ Aside0 (w'.heap[gb176]? = some (.cells #[.int .i64 (wrap64 (a0_0 * a1_0)),.int .i64 a0_1,u177002,.int .i64 (wrap64 ((wrap64 (a0_5 * a1_0)) + a1_3)),.int .u32 x177004_2] 37 (0,0))) ∧ Aside0 (Below w.heap.size w w'))
                  case atStart=>exact ⟨(x64_2),(0),(by first|rfl|(simp;done)|(simp [*];done)),(by first|rfl|(simp;done)|(simp [*];done)),H',⟨Nat.le_refl _⟩,⟨by (with_reducible repeat (first|apply Kd.R_alloc|apply Kd.R_drewN|apply Kd.R_drew));exact HO_11.out⟩,⟨by (with_reducible repeat (first|apply Kd.S_alloc|apply Kd.S_drewN|apply Kd.S_drew));exact HO_177002.out⟩,⟨by (with_reducible repeat (first|refine blk_drewN ?_ _|refine blk_drew ?_|refine blk_alloc ?_ _));exact BK171.out⟩,⟨by (with_reducible repeat (first|refine blk_drewN ?_ _|refine blk_drew ?_|refine blk_alloc ?_ _));exact BK172.out⟩,⟨by (with_reducible repeat (first|refine blk_drewN ?_ _|refine blk_drew ?_|refine blk_alloc ?_ _));exact BK173.out⟩,⟨by (with_reducible repeat (first|refine blk_drewN ?_ _|refine blk_drew ?_|refine blk_alloc ?_ _));exact BK176.out⟩,⟨by repeat (first|(with_reducible first|exact HB.out|apply below_alloc|apply pw_below_drewN|apply below_drew1|refine below_set ?_ GE171.out|refine below_set ?_ GE172.out|refine below_set ?_ GE173.out|refine below_set ?_ GE176.out)|exact HB.out)⟩⟩
                  case round =>
                   clear H'
                   try clear c1
                   try clear p1
                   try clear q1
                   try clear hx1
                   try clear c2
                   try clear p2
                   try clear c3
                   try clear c4
                   try clear c4b0
                   try clear c4b1
                   try clear c5
                   try clear c6
                   try clear c6b0
                   try clear c6b1
                   try clear p6
                   try clear c7
                   try clear c7b0
                   try clear c7b1
                   try clear c8
                   try clear c8b0
                   try clear c12
                   try clear c13
                   try clear c16
                   try clear c18
                   try clear p18
                   try clear q18
                   try clear hx18
                   try clear c25
                   try clear c26
                   try clear c29
                   try clear c30
                   try clear c35
                   try clear c36
                   try clear c37
                   try clear c40
                   try clear c40b0
                   try clear c41
                   try clear c42
                   try clear c43
                   try clear c44
                   try clear c45
                   try clear c45b0
                   try clear c46
                   try clear c47
                   try clear c48
                   try clear c50
                   try clear c50b0
                   try clear c51
                   try clear c51b0
                   try clear c52
                   try clear c52b0
                   try clear c53
                   try clear c53b0
                   try clear c54
                   try clear c54b0
                   try clear c55
                   try clear c56
                   try clear c57
                   try clear hcz14_0
                   try clear hcz14_1
                   try clear hcz14_2
                   try clear hcz14_3
                   try clear hcz14_4
                   try clear hcz14_5
                   try clear hcz17_0
                   try clear hcz17_1
                   try clear hcz17_2
                   try clear hcz17_3
                   try clear hcz17_4
                   try clear hcz19_0
                   try clear hcz19_1
                   try clear hcz19_2
                   try clear hcz19_3
                   try clear hcz19_4
                   try clear hcz19_5
                   try clear hcz20_0
                   try clear hcz20_1
                   try clear hcz20_2
                   try clear hcz20_3
                   try clear hcz20_4
                   try clear hcz21_0
                   try clear hcz21_1
                   try clear hcz21_2
                   try clear hcz21_3
                   try clear hcz21_4
                   try clear hcz27_0
                   try clear hcz27_1
                   try clear hcz27_2
                   try clear hcz27_3
                   try clear hcz27_4
                   try clear hcz27_5
                   try clear hcz30_0
                   try clear hcz30_1
                   try clear hcz30_2
                   try clear hcz30_3
                   try clear hcz30_4
                   try clear hcz32_0
                   try clear hcz32_1
                   try clear hcz32_2
                   try clear hcz32_3
                   try clear hcz32_4
                   try clear hcz32_5
                   try clear hcz33_0
                   try clear hcz33_1
                   try clear hcz33_2
                   try clear hcz33_3
                   try clear hcz33_4
                   try clear hcz38_0
                   try clear hcz38_1
                   try clear hcz38_2
                   try clear hcz38_3
                   try clear hcz38_4
                   try clear hcz39_0
                   try clear hcz39_1
                   try clear hcz39_2
                   try clear hcz39_3
                   try clear hcz39_4
                   try clear hcz39_5
                   try clear hcz44_0
                   try clear hcz44_1
                   try clear hcz44_2
                   try clear hcz44_3
                   try clear hcz44_4
                   try clear hcz49_0
                   try clear hcz49_1
                   try clear hcz49_2
                   try clear hcz49_3
                   try clear hcz49_4
                   try clear hcz49_5
                   try clear hcz58_0
                   try clear hcz58_1
                   try clear hcz58_2
                   try clear hcz58_3
                   try clear hcz58_4
                   try clear hcz58_5
                   try clear hfz14_0
                   try clear hfz14_1
                   try clear hfz14_2
                   try clear hfz14_3
                   try clear hfz14_4
                   try clear hfz14_5
                   try clear hfz17_0
                   try clear hfz17_1
                   try clear hfz17_2
                   try clear hfz17_3
                   try clear hfz17_4
                   try clear hfz19_0
                   try clear hfz19_1
                   try clear hfz19_2
                   try clear hfz19_3
                   try clear hfz19_4
                   try clear hfz19_5
                   try clear hfz20_0
                   try clear hfz20_1
                   try clear hfz20_2
                   try clear hfz20_3
                   try clear hfz20_4
                   try clear hfz21_0
                   try clear hfz21_1
                   try clear hfz21_2
                   try clear hfz21_3
                   try clear hfz21_4
                   try clear hfz27_0
                   try clear hfz27_1
                   try clear hfz27_2
                   try clear hfz27_3
                   try clear hfz27_4
                   try clear hfz27_5
                   try clear hfz30_0
                   try clear hfz30_1
                   try clear hfz30_2
                   try clear hfz30_3
                   try clear hfz30_4
                   try clear hfz32_0
                   try clear hfz32_1
                   try clear hfz32_2
                   try clear hfz32_3
                   try clear hfz32_4
                   try clear hfz32_5
                   try clear hfz33_0
                   try clear hfz33_1
                   try clear hfz33_2
                   try clear hfz33_3
                   try clear hfz33_4
                   try clear hfz38_0
                   try clear hfz38_1
                   try clear hfz38_2
                   try clear hfz38_3
                   try clear hfz38_4
                   try clear hfz39_0
                   try clear hfz39_1
                   try clear hfz39_2
                   try clear hfz39_3
                   try clear hfz39_4
                   try clear hfz39_5
                   try clear hfz44_0
                   try clear hfz44_1
                   try clear hfz44_2
                   try clear hfz44_3
                   try clear hfz44_4
                   try clear hfz49_0
                   try clear hfz49_1
                   try clear hfz49_2
                   try clear hfz49_3
                   try clear hfz49_4
                   try clear hfz49_5
                   try clear hfz58_0
                   try clear hfz58_1
                   try clear hfz58_2
                   try clear hfz58_3
                   try clear hfz58_4
                   try clear hfz58_5
                   try clear hx180_0
                   try clear hx181_0
                   try clear p180
                   try clear p181
                   try clear p2
                   try clear p6
                   try clear q180
                   try clear q181
                   obtain ⟨x13_4,x82_4,rfl,rfl,HA,HK4,HO_11,HO_177002,BK171,BK172,BK173,BK176,HB⟩:=hrel
                   cases gk with
                   | zero=>exact absurd HA.out (by simp [turner_Takes.l3])
                   | succ k4 =>
                    have H:=HA.out
                    clear HA
                    simp only [turner_Takes.l3] at H
                    by_cases c59 : x82_4 < ((rd_L1 (rd_L2 l0_4 x59_1) x69_3).length : Int)
                    ·rw [if_pos c59] at H
                     have c59b0 : decide (x82_4 < ((rd_L1 (rd_L2 l0_4 x59_1) x69_3).length : Int)) = true:=decide_eq_true c59
                     clear c59
                     by_cases c60 : 0 ≤ x82_4
                     ·rw [if_pos c60] at H
                      have c60b0 : decide (0 ≤ x82_4) = true:=decide_eq_true c60
                      clear c60
                      by_cases c61 : x82_4 < ((rd_L1 (rd_L2 l0_4 x59_1) x69_3).length : Int)
                      ·rw [if_pos c61] at H
                       have c61b0 : decide (x82_4 < ((rd_L1 (rd_L2 l0_4 x59_1) x69_3).length : Int)) = true:=decide_eq_true c61
                       clear c61
                       by_cases c62 : 0 ≤ x13_4
                       ·rw [if_pos c62] at H
                        have c62b0 : decide (0 ≤ x13_4) = true:=decide_eq_true c62
                        clear c62
                        by_cases c63 : x13_4 < (l1_2.length : Int)
                        ·rw [if_pos c63] at H
                         have c63b0 : decide (x13_4 < (l1_2.length : Int)) = true:=decide_eq_true c63
                         clear c63
                         by_cases c64 : 0 ≤ (rd (rd_L1 (rd_L2 l0_4 x59_1) x69_3) x82_4)
                         ·rw [if_pos c64] at H
                          have c64b0 : decide (0 ≤ (rd (rd_L1 (rd_L2 l0_4 x59_1) x69_3) x82_4)) = true:=decide_eq_true c64
                          clear c64
                          by_cases c65 : (rd (rd_L1 (rd_L2 l0_4 x59_1) x69_3) x82_4) < ((rd_L1 l1_2 x13_4).length : Int)
                          ·rw [if_pos c65] at H
                           have c65b0 : decide ((rd (rd_L1 (rd_L2 l0_4 x59_1) x69_3) x82_4) < ((rd_L1 l1_2 x13_4).length : Int)) = true:=decide_eq_true c65
                           clear c65
                           have H':=Aside0.mk H
                           clear H
                           have p182 : 0 ≤ (x82_4 : Int):=of_decide_eq_true (by first|(with_reducible assumption)|assumption)
                           have q182 : x82_4 < ((rd_L1 (rd_L2 l0_4 x59_1) x69_3).length : Int):=of_decide_eq_true (by first|(with_reducible assumption)|assumption)
                           obtain ⟨ad182,e182,hx182_0⟩:=Kd.at_int HR181_0.out x82_4 p182 q182
                           cases e182
                           replace hx182_0:=(HB.out.cell (World.block_lt_of_cell? w _ hx182_0)).trans hx182_0
                           replace p182:=eq_true p182
                           replace q182:=eq_true q182
                           have hnb66:=NB172_171.out
                           have hnc66:=NB171_172.out
                           have hnb67:=NB172_173.out
                           have hnc67:=NB173_172.out
                           have hnb68:=NB172_176.out
                           have hnc68:=NB176_172.out
                           have hcz69_0 : wr.cell? ⟨gb172,0,none⟩ = some (.int .i64 a1_0):=(blk_cell BK172.out 0).trans rfl
                           have hcz69_1 : wr.cell? ⟨gb172,1,none⟩ = some (.int .i64 a1_1):=(blk_cell BK172.out 1).trans rfl
                           have hcz69_2 : wr.cell? ⟨gb172,2,none⟩ = some (.slice A1_2 l1_2.length c1_2):=(blk_cell BK172.out 2).trans rfl
                           have hcz69_3 : wr.cell? ⟨gb172,3,none⟩ = some (.int .i64 a1_3):=(blk_cell BK172.out 3).trans rfl
                           have hcz69_4 : wr.cell? ⟨gb172,4,none⟩ = some (.int .u32 a1_4):=(blk_cell BK172.out 4).trans rfl
                           have hfz69_0:=blk_frozen BK172.out 0
                           have hfz69_1:=blk_frozen BK172.out 1
                           have hfz69_2:=blk_frozen BK172.out 2
                           have hfz69_3:=blk_frozen BK172.out 3
                           have hfz69_4:=blk_frozen BK172.out 4
                           have p183 : 0 ≤ (x13_4 : Int):=of_decide_eq_true (by first|(with_reducible assumption)|assumption)
                           have q183 : x13_4 < (l1_2.length : Int):=of_decide_eq_true (by first|(with_reducible assumption)|assumption)
                           obtain ⟨ad183,A183_0,c183_0,e183,hx183_0,hl183_0,hi183_0⟩:=at_L1 HR1_2.out x13_4 p183 q183
                           cases e183
                           replace hx183_0:=(HB.out.cell (World.block_lt_of_cell? w _ hx183_0)).trans hx183_0
                           have HR183_0:=Aside0.mk hi183_0
                           have HC183_0:=Aside0.mk hl183_0
                           clear hi183_0 hl183_0
                           replace p183:=eq_true p183
                           replace q183:=eq_true q183
                           have p184 : 0 ≤ ((rd (rd_L1 (rd_L2 l0_4 x59_1) x69_3) x82_4) : Int):=of_decide_eq_true (by first|(with_reducible assumption)|assumption)
                           have q184 : (rd (rd_L1 (rd_L2 l0_4 x59_1) x69_3) x82_4) < ((rd_L1 l1_2 x13_4).length : Int):=of_decide_eq_true (by first|(with_reducible assumption)|assumption)
                           obtain ⟨ad184,e184,hx184_0⟩:=Kd.at_int HR183_0.out (rd (rd_L1 (rd_L2 l0_4 x59_1) x69_3) x82_4) p184 q184
                           cases e184
                           replace hx184_0:=(HB.out.cell (World.block_lt_of_cell? w _ hx184_0)).trans hx184_0
                           replace p184:=eq_true p184
                           replace q184:=eq_true q184
                           go_wp2
                           go_roundg k4
                           case measure=>have:=HK1.out;have:=HK2.out;have:=HK3.out;have:=HK4.out;omega
                           case rel=>exact ⟨(rd (rd_L1 l1_2 x13_4) (rd (rd_L1 (rd_L2 l0_4 x59_1) x69_3) x82_4)),(wrap64 (x82_4 + 1)),(by first|rfl|(simp;done)|(simp [*];done)),(by first|rfl|(simp;done)|(simp [*];done)),H',⟨by have:=HK1.out;have:=HK2.out;have:=HK3.out;have:=HK4.out;omega⟩,⟨by (with_reducible repeat (first|apply Kd.R_alloc|apply Kd.R_drewN|apply Kd.R_drew));exact HO_11.out⟩,⟨by (with_reducible repeat (first|apply Kd.S_alloc|apply Kd.S_drewN|apply Kd.S_drew));exact HO_177002.out⟩,⟨by (with_reducible repeat (first|refine blk_drewN ?_ _|refine blk_drew ?_|refine blk_alloc ?_ _));exact BK171.out⟩,⟨by (with_reducible repeat (first|refine blk_drewN ?_ _|refine blk_drew ?_|refine blk_alloc ?_ _));exact BK172.out⟩,⟨by (with_reducible repeat (first|refine blk_drewN ?_ _|refine blk_drew ?_|refine blk_alloc ?_ _));exact BK173.out⟩,⟨by (with_reducible repeat (first|refine blk_drewN ?_ _|refine blk_drew ?_|refine blk_alloc ?_ _));exact BK176.out⟩,⟨by repeat (first|(with_reducible first|exact HB.out|apply below_alloc|apply pw_below_drewN|apply below_drew1|refine below_set ?_ GE171.out|refine below_set ?_ GE172.out|refine below_set ?_ GE173.out|refine below_set ?_ GE176.out)|exact HB.out)⟩⟩
                          ·rw [if_neg c65] at H
                           exact absurd H (by simp)
                         ·rw [if_neg c64] at H
                          exact absurd H (by simp)
                        ·rw [if_neg c63] at H
                         exact absurd H (by simp)
                       ·rw [if_neg c62] at H
                        exact absurd H (by simp)
                      ·rw [if_neg c61] at H
                       exact absurd H (by simp)
                     ·rw [if_neg c60] at H
                      exact absurd H (by simp)
                    ·rw [if_neg c59] at H
                     have c59b0 : decide (x82_4 < ((rd_L1 (rd_L2 l0_4 x59_1) x69_3).length : Int)) = false:=decide_eq_false c59
                     clear c59
                     by_cases c70 : 0 ≤ x59_1
                     ·rw [if_pos c70] at H
                      have c70b0 : decide (0 ≤ x59_1) = true:=decide_eq_true c70
                      clear c70
                      by_cases c71 : x59_1 < (l0_3.length : Int)
                      ·rw [if_pos c71] at H
                       have c71b0 : decide (x59_1 < (l0_3.length : Int)) = true:=decide_eq_true c71
                       clear c71
                       by_cases c72 : 0 ≤ x69_3
                       ·rw [if_pos c72] at H
                        have c72b0 : decide (0 ≤ x69_3) = true:=decide_eq_true c72
                        clear c72
                        by_cases c73 : x69_3 < ((rd_L1 l0_3 x59_1).length : Int)
                        ·rw [if_pos c73] at H
                         have c73b0 : decide (x69_3 < ((rd_L1 l0_3 x59_1).length : Int)) = true:=decide_eq_true c73
                         clear c73
                         by_cases c74 : x11_3.length < 17592186044416
                         ·rw [if_pos c74] at H
                          have LMc74:=Aside0.mk c74
                          clear c74
                          obtain ⟨y187,hy187⟩ : ∃ y_ : List Int,y_ = (x11_3 ++ [wrap64 ((wrap64 ((rd (rd_L1 l0_3 x59_1) x69_3) * a1_0)) + x13_4)]):=⟨_,rfl⟩
                          replace H : (turner_Takes.l2 k4 x59_1 x64_2 y187 a0_0 x59_1 a1_0 x64_2 a0_1 (wrap64 (x69_3 + 1)) a0_0 a0_1 a0_2 l0_3 l0_4 a0_5 a1_0 a1_1 l1_2 a1_3 a1_4 (wrap64 (a0_0 * a1_0)) a0_1 x177002_2 (wrap64 ((wrap64 (a0_5 * a1_0)) + a1_3)) x177004_2) = some (r1,r2,r3,r4,r5,r6):=by first|(rw [hy187];with_reducible exact H)|(have H2_:=(Option.bind_some _ _).symm.trans H;rw [hy187];with_reducible exact H2_)|(have H2_:=(Option.bind_some _ _).symm.trans H;with_reducible exact H2_)|with_reducible exact H|(rw [hy187];exact H)|exact H
                          have Ny187:=Aside0.mk hy187
                          clear hy187
                          have H':=Aside0.mk H
                          clear H
                          try go_wp2
                          have n0_:=Aside0.mk (Kd.R_drew HO_11.out)
                          have n1_:=Aside0.mk (Kd.S_drew HO_177002.out)
                          have n2_:=Aside0.mk (blk_drew BK171.out)
                          have n3_:=Aside0.mk (blk_drew BK172.out)
                          have n4_:=Aside0.mk (blk_drew BK173.out)
                          have n5_:=Aside0.mk (blk_drew BK176.out)
                          have n6_:=Aside0.mk (below_drew1 HB.out)
                          clear HO_11
                          clear HO_177002
                          clear BK171
                          clear BK172
                          clear BK173
                          clear BK176
                          clear HB
                          have HO_11:=n0_
                          have HO_177002:=n1_
                          have BK171:=n2_
                          have BK172:=n3_
                          have BK173:=n4_
                          have BK176:=n5_
                          have HB:=n6_
                          clear n0_ n1_ n2_ n3_ n4_ n5_ n6_
                          have p185 : 0 ≤ (x59_1 : Int):=of_decide_eq_true (by first|(with_reducible assumption)|assumption)
                          have q185 : x59_1 < (l0_3.length : Int):=of_decide_eq_true (by first|(with_reducible assumption)|assumption)
                          obtain ⟨ad185,A185_0,c185_0,e185,hx185_0,hl185_0,hi185_0⟩:=at_L1 HR0_3.out x59_1 p185 q185
                          have hw185_0:=hx185_0
                          cases e185
                          replace hx185_0:=(HB.out.cell (World.block_lt_of_cell? w _ hx185_0)).trans hx185_0
                          have HR185_0:=Aside0.mk hi185_0
                          have HC185_0:=Aside0.mk hl185_0
                          clear hi185_0 hl185_0
                          replace p185:=eq_true p185
                          replace q185:=eq_true q185
                          have p186 : 0 ≤ (x69_3 : Int):=of_decide_eq_true (by first|(with_reducible assumption)|assumption)
                          have q186 : x69_3 < ((rd_L1 l0_3 x59_1).length : Int):=of_decide_eq_true (by first|(with_reducible assumption)|assumption)
                          obtain ⟨ad186,e186,hx186_0⟩:=Kd.at_int HR185_0.out x69_3 p186 q186
                          have hw186_0:=hx186_0
                          cases e186
                          replace hx186_0:=(HB.out.cell (World.block_lt_of_cell? w _ hx186_0)).trans hx186_0
                          replace p186:=eq_true p186
                          replace q186:=eq_true q186
                          refine start_ (n:=17) (S:=fun w'=>w'.cell? ⟨gb171,0,none⟩ = some (.int .i64 a0_0) ∧ w'.cell? ⟨gb171,1,none⟩ = some (.int .i64 a0_1) ∧ w'.cell? ⟨gb171,2,none⟩ = some (.int .i64 a0_2) ∧ w'.cell? ⟨gb171,3,none⟩ = some (.slice (some ad185) l0_3.length c0_3) ∧ w'.cell? ⟨gb171,4,none⟩ = some (.slice (some ad180) l0_4.length c0_4) ∧ w'.cell? ⟨gb171,5,none⟩ = some (.int .i64 a0_5) ∧ w'.cell? ⟨gb172,0,none⟩ = some (.int .i64 a1_0) ∧ w'.cell? ⟨gb172,1,none⟩ = some (.int .i64 a1_1) ∧ w'.cell? ⟨gb172,2,none⟩ = some (.slice A1_2 l1_2.length c1_2) ∧ w'.cell? ⟨gb172,3,none⟩ = some (.int .i64 a1_3) ∧ w'.cell? ⟨gb172,4,none⟩ = some (.int .u32 a1_4) ∧ w'.cell? (ad185.add (x59_1).toNat) = some (.slice (some ad186) (rd_L1 l0_3 x59_1).length c185_0) ∧ w'.cell? (ad186.add (x69_3).toNat) = some (.int .i64 (rd (rd_L1 l0_3 x59_1) x69_3))) (ds:=[]) #[false,false,false,false,false,false,false,false,false,false,false,false,false,false,false,false,false] (by kernel_rfl) rfl rfl ⟨(blk_cell BK171.out 0).trans rfl,(blk_cell BK171.out 1).trans rfl,(blk_cell BK171.out 2).trans rfl,(blk_cell BK171.out 3).trans rfl,(blk_cell BK171.out 4).trans rfl,(blk_cell BK171.out 5).trans rfl,(blk_cell BK172.out 0).trans rfl,(blk_cell BK172.out 1).trans rfl,(blk_cell BK172.out 2).trans rfl,(blk_cell BK172.out 3).trans rfl,(blk_cell BK172.out 4).trans rfl,((HB.out.cell (World.block_lt_of_cell? w _ hw185_0)).trans hw185_0),((HB.out.cell (World.block_lt_of_cell? w _ hw186_0)).trans hw186_0)⟩ (fun hHeld=>?_);refine with_tabW turner_Takes.tab28 turner_Takes.bits28 (fun HT_ HW_=>?_)
                          generalize wr.drew = w75 at HO_11 HO_177002 BK171 BK172 BK173 BK176 HB HR185_0 hx185_0 hx186_0 hHeld ⊢
                          refine pure_ (i:=0) (N:=some 95) (v:=?_) (a':=?_) #[true,false,false,false,false,false,false,false,false,false,false,false,false,false,false,false,false] rfl rfl (any_of HT_.out (by kernel_rfl)) (fun _ _ _ h=>h) (Or.inl ⟨by rfl,?_⟩) ?_ ?_
                          rotate_left
                          ·intro w'
                           go_simp
                           with_reducible rfl
                          rotate_left
                          ·simp only [Act.put,List.setIfInBounds_toArray,List.set_cons_zero,List.set_cons_succ,i64_w,i32_w]
                           rfl
                          refine pure_ (i:=1) (N:=some 96) (v:=?_) (a':=?_) #[true,true,false,false,false,false,false,false,false,false,false,false,false,false,false,false,false] rfl rfl (any_of HT_.out (by kernel_rfl)) (fun _ _ _ h=>h) (Or.inl ⟨by rfl,?_⟩) ?_ ?_
                          rotate_left
                          ·intro w'
                           go_simp
                           with_reducible rfl
                          rotate_left
                          ·simp only [Act.put,List.setIfInBounds_toArray,List.set_cons_zero,List.set_cons_succ,i64_w,i32_w]
                           rfl
                          refine pure_ (i:=3) (N:=some 98) (v:=?_) (a':=?_) #[true,true,false,true,false,false,false,false,false,false,false,false,false,false,false,false,false] rfl rfl (any_of HT_.out (by kernel_rfl)) (fun _ _ _ h=>h) (Or.inl ⟨by rfl,?_⟩) ?_ ?_
                          rotate_left
                          ·intro w'
                           go_simp
                           with_reducible rfl
                          rotate_left
                          ·simp only [Act.put,List.setIfInBounds_toArray,List.set_cons_zero,List.set_cons_succ,i64_w,i32_w]
                           rfl
                          refine pure_ (i:=6) (N:=some 101) (v:=?_) (a':=?_) #[true,true,false,true,false,false,true,false,false,false,false,false,false,false,false,false,false] rfl rfl (any_of HT_.out (by kernel_rfl)) (fun _ _ _ h=>h) (Or.inl ⟨by rfl,?_⟩) ?_ ?_
                          rotate_left
                          ·intro w'
                           go_simp
                           with_reducible rfl
                          rotate_left
                          ·simp only [Act.put,List.setIfInBounds_toArray,List.set_cons_zero,List.set_cons_succ,i64_w,i32_w]
                           rfl
                          refine pure_ (i:=9) (N:=some 104) (v:=?_) (a':=?_) #[true,true,false,true,false,false,true,false,false,true,false,false,false,false,false,false,false] rfl rfl (any_of HT_.out (by kernel_rfl)) (fun _ _ _ h=>h) (Or.inl ⟨by rfl,?_⟩) ?_ ?_
                          rotate_left
                          ·intro w'
                           go_simp
                           with_reducible rfl
                          rotate_left
                          ·simp only [Act.put,List.setIfInBounds_toArray,List.set_cons_zero,List.set_cons_succ,i64_w,i32_w]
                           rfl
                          refine pure_ (i:=12) (N:=some 107) (v:=?_) (a':=?_) #[true,true,false,true,false,false,true,false,false,true,false,false,true,false,false,false,false] rfl rfl (any_of HT_.out (by kernel_rfl)) (fun _ _ _ h=>h) (Or.inl ⟨by rfl,?_⟩) ?_ ?_
                          rotate_left
                          ·intro w'
                           go_simp
                           with_reducible rfl
                          rotate_left
                          ·simp only [Act.put,List.setIfInBounds_toArray,List.set_cons_zero,List.set_cons_succ,i64_w,i32_w]
                           rfl
                          refine take_ (i:=2) (N:=some 97) (v:=?_) (a':=?_) #[true,true,true,true,false,false,true,false,false,true,false,false,true,false,false,false,false] rfl rfl (take_ofW HT_.out HW_.out (by kernel_rfl)) (fun _ _ _ h=>h) (Or.inl ⟨by rfl,?_⟩) hHeld ?_ ?_
                          rotate_left
                          ·rintro w' ⟨s0,s1,s2,s3,s4,s5,s6,s7,s8,s9,s10,s11,s12⟩
                           go_simp
                           with_reducible rfl
                          rotate_left
                          ·simp only [Act.put,List.setIfInBounds_toArray,List.set_cons_zero,List.set_cons_succ,i64_w,i32_w]
                           rfl
                          refine pure_ (i:=4) (N:=some 99) (v:=?_) (a':=?_) #[true,true,true,true,true,false,true,false,false,true,false,false,true,false,false,false,false] rfl rfl (any_of HT_.out (by kernel_rfl)) (fun _ _ _ h=>h) (Or.inl ⟨by rfl,?_⟩) ?_ ?_
                          rotate_left
                          ·intro w'
                           go_simp
                           with_reducible rfl
                          rotate_left
                          ·simp only [Act.put,List.setIfInBounds_toArray,List.set_cons_zero,List.set_cons_succ,i64_w,i32_w]
                           rfl
                          refine take_ (i:=5) (N:=some 100) (v:=?_) (a':=?_) #[true,true,true,true,true,true,true,false,false,true,false,false,true,false,false,false,false] rfl rfl (take_ofW HT_.out HW_.out (by kernel_rfl)) (fun _ _ _ h=>h) (Or.inl ⟨by rfl,?_⟩) hHeld ?_ ?_
                          rotate_left
                          ·rintro w' ⟨s0,s1,s2,s3,s4,s5,s6,s7,s8,s9,s10,s11,s12⟩
                           go_simp
                           with_reducible rfl
                          rotate_left
                          ·simp only [Act.put,List.setIfInBounds_toArray,List.set_cons_zero,List.set_cons_succ,i64_w,i32_w]
                           rfl
                          refine pure_ (i:=7) (N:=some 102) (v:=?_) (a':=?_) #[true,true,true,true,true,true,true,true,false,true,false,false,true,false,false,false,false] rfl rfl (any_of HT_.out (by kernel_rfl)) (fun _ _ _ h=>h) (Or.inl ⟨by rfl,?_⟩) ?_ ?_
                          rotate_left
                          ·intro w'
                           go_simp
                           with_reducible rfl
                          rotate_left
                          ·simp only [Act.put,List.setIfInBounds_toArray,List.set_cons_zero,List.set_cons_succ,i64_w,i32_w]
                           rfl
                          refine take_ (i:=8) (N:=some 103) (v:=?_) (a':=?_) #[true,true,true,true,true,true,true,true,true,true,false,false,true,false,false,false,false] rfl rfl (take_ofW HT_.out HW_.out (by kernel_rfl)) (fun _ _ _ h=>h) (Or.inl ⟨by rfl,?_⟩) hHeld ?_ ?_
                          rotate_left
                          ·rintro w' ⟨s0,s1,s2,s3,s4,s5,s6,s7,s8,s9,s10,s11,s12⟩
                           go_simp
                           with_reducible rfl
                          rotate_left
                          ·simp only [Act.put,List.setIfInBounds_toArray,List.set_cons_zero,List.set_cons_succ,i64_w,i32_w]
                           rfl
                          refine take_ (i:=10) (N:=some 105) (v:=?_) (a':=?_) #[true,true,true,true,true,true,true,true,true,true,true,false,true,false,false,false,false] rfl rfl (take_ofW HT_.out HW_.out (by kernel_rfl)) (fun _ _ _ h=>h) (Or.inl ⟨by rfl,?_⟩) hHeld ?_ ?_
                          rotate_left
                          ·rintro w' ⟨s0,s1,s2,s3,s4,s5,s6,s7,s8,s9,s10,s11,s12⟩
                           go_simp
                           with_reducible rfl
                          rotate_left
                          ·simp only [Act.put,List.setIfInBounds_toArray,List.set_cons_zero,List.set_cons_succ,i64_w,i32_w]
                           rfl
                          refine pure_ (i:=11) (N:=some 106) (v:=?_) (a':=?_) #[true,true,true,true,true,true,true,true,true,true,true,true,true,false,false,false,false] rfl rfl (any_of HT_.out (by kernel_rfl)) (fun _ _ _ h=>h) (Or.inl ⟨by rfl,?_⟩) ?_ ?_
                          rotate_left
                          ·intro w'
                           go_simp
                           with_reducible rfl
                          rotate_left
                          ·simp only [Act.put,List.setIfInBounds_toArray,List.set_cons_zero,List.set_cons_succ,i64_w,i32_w]
                           rfl
                          refine pure_ (i:=13) (N:=some 108) (v:=?_) (a':=?_) #[true,true,true,true,true,true,true,true,true,true,true,true,true,true,false,false,false] rfl rfl (any_of HT_.out (by kernel_rfl)) (fun _ _ _ h=>h) (Or.inl ⟨by rfl,?_⟩) ?_ ?_
                          rotate_left
                          ·intro w'
                           go_simp
                           with_reducible rfl
                          rotate_left
                          ·simp only [Act.put,List.setIfInBounds_toArray,List.set_cons_zero,List.set_cons_succ,i64_w,i32_w]
                           rfl
                          refine one_ (i:=14) (N:=some 109) #[true,true,true,true,true,true,true,true,true,true,true,true,true,true,true,false,false] rfl rfl (one_of HT_.out (by kernel_rfl)) (by decide) (fun K hK=>?_)
                          refine value_ (w1:=?_) (v:=?_) (by rfl) rfl ?_ ?_
                          rotate_left 2
                          ·go_simp
                           constructor
                           ·rfl
                           ·rfl
                          refine hK.out _ _ ⟨(blk_cell (blk_alloc BK171.out _) 0).trans rfl,(blk_cell (blk_alloc BK171.out _) 1).trans rfl,(blk_cell (blk_alloc BK171.out _) 2).trans rfl,(blk_cell (blk_alloc BK171.out _) 3).trans rfl,(blk_cell (blk_alloc BK171.out _) 4).trans rfl,(blk_cell (blk_alloc BK171.out _) 5).trans rfl,(blk_cell (blk_alloc BK172.out _) 0).trans rfl,(blk_cell (blk_alloc BK172.out _) 1).trans rfl,(blk_cell (blk_alloc BK172.out _) 2).trans rfl,(blk_cell (blk_alloc BK172.out _) 3).trans rfl,(blk_cell (blk_alloc BK172.out _) 4).trans rfl,(World.cell?_alloc_lt _ _ _ (World.block_lt_of_cell? _ _ (((HB.out.cell (World.block_lt_of_cell? w _ hw185_0)).trans hw185_0)))).trans (((HB.out.cell (World.block_lt_of_cell? w _ hw185_0)).trans hw185_0)),(World.cell?_alloc_lt _ _ _ (World.block_lt_of_cell? _ _ (((HB.out.cell (World.block_lt_of_cell? w _ hw186_0)).trans hw186_0)))).trans (((HB.out.cell (World.block_lt_of_cell? w _ hw186_0)).trans hw186_0))⟩ (fun hHeld=>?_)
                          clear hK K
                          refine norm_ (a':=?_) ?_ ?_
                          rotate_left
                          ·show Act.put _ (some 109) _ = _
                           simp only [Act.put,List.setIfInBounds_toArray,List.set_cons_zero,List.set_cons_succ,i64_w,i32_w]
                           rfl
                          refine one_ (i:=15) (N:=some 110) #[true,true,true,true,true,true,true,true,true,true,true,true,true,true,true,true,false] rfl rfl (one_of HT_.out (by kernel_rfl)) (by decide) (fun K hK=>?_)
                          refine Kd.R_append_step (Kd.int .i64) (w0:=w) w.heap.size (by rfl) (.tmp 95) (.tmp 109) 28 3 (.int .i64 0) 8 rfl Try.underlying28 info3 rfl (by decide) (by omega) u11 x11_3 (wrap64 ((wrap64 ((rd (rd_L1 l0_3 x59_1) x69_3) * a1_0)) + x13_4)) [.int .i64 (wrap64 ((wrap64 ((rd (rd_L1 l0_3 x59_1) x69_3) * a1_0)) + x13_4))] (fun _=>True) (fun _=>False) rfl rfl ?aP (fun _ hk=>hk.elim) ?aF ?aO ?aB ?aS ?aL ?_
                          (case aP=>exact rfl)
                          (case aB=>exact (by repeat (first|(with_reducible first|exact HB.out|apply below_alloc|apply pw_below_drewN|apply below_drew1|refine below_set ?_ GE171.out|refine below_set ?_ GE172.out|refine below_set ?_ GE173.out|refine below_set ?_ GE176.out)|exact HB.out)))
                          (case aF=>exact (fun _ _=>trivial))
                          (case aO=>exact (by (with_reducible repeat (first|apply Kd.R_alloc|apply Kd.R_drewN|apply Kd.R_drew));exact HO_11.out))
                          (case aS=>exact (below_size (by repeat (first|(with_reducible first|exact HB.out|apply below_alloc|apply pw_below_drewN|apply below_drew1|refine below_set ?_ GE171.out|refine below_set ?_ GE172.out|refine below_set ?_ GE173.out|refine below_set ?_ GE176.out)|exact HB.out))))
                          (case aL=>have:=LMc74.out;omega)
                          intro v188 w76 ho hb hg hat
                          rw [← Ny187.out] at ho
                          have n0_:=Aside0.mk (Kd.S_after (ok:=(fun _=>True)) (by (with_reducible repeat (first|apply Kd.S_alloc|apply Kd.S_drewN|apply Kd.S_drew));exact Kd.S_mono HO_177002.out (fun _ hk=>⟨trivial,hk⟩)) hg hat)
                          have n1_:=Aside0.mk (blk_grown (g:=gb171) (o:=.cells #[.int .i64 a0_0,.int .i64 a0_1,.int .i64 a0_2,.slice (some ad185) l0_3.length c0_3,.slice (some ad180) l0_4.length c0_4,.int .i64 a0_5] 50 (0,0)) (by (with_reducible repeat (first|refine blk_drewN ?_ _|refine blk_drew ?_|refine blk_alloc ?_ _));exact BK171.out) hg (Kd.R_ne HO_11.out BK171.out (by decide)))
                          have n2_:=Aside0.mk (blk_grown (g:=gb172) (o:=.cells #[.int .i64 a1_0,.int .i64 a1_1,.slice A1_2 l1_2.length c1_2,.int .i64 a1_3,.int .u32 a1_4] 37 (0,0)) (by (with_reducible repeat (first|refine blk_drewN ?_ _|refine blk_drew ?_|refine blk_alloc ?_ _));exact BK172.out) hg (Kd.R_ne HO_11.out BK172.out (by decide)))
                          have n3_:=Aside0.mk (blk_grown (g:=gb173) (o:=.cells #[.int .i64 0,.int .i64 0,.slice none 0 0,.int .i64 0,.int .u32 0] 37 (0,0)) (by (with_reducible repeat (first|refine blk_drewN ?_ _|refine blk_drew ?_|refine blk_alloc ?_ _));exact BK173.out) hg (Kd.R_ne HO_11.out BK173.out (by decide)))
                          have n4_:=Aside0.mk (blk_grown (g:=gb176) (o:=.cells #[.int .i64 (wrap64 (a0_0 * a1_0)),.int .i64 a0_1,u177002,.int .i64 (wrap64 ((wrap64 (a0_5 * a1_0)) + a1_3)),.int .u32 x177004_2] 37 (0,0)) (by (with_reducible repeat (first|refine blk_drewN ?_ _|refine blk_drew ?_|refine blk_alloc ?_ _));exact BK176.out) hg (Kd.R_ne HO_11.out BK176.out (by decide)))
                          have n5_:=Aside0.mk (hb)
                          have n6_:=Aside0.mk (ho)
                          clear HO_177002
                          clear BK171
                          clear BK172
                          clear BK173
                          clear BK176
                          clear HB
                          clear HO_11
                          have HO_177002:=n0_
                          have BK171:=n1_
                          have BK172:=n2_
                          have BK173:=n3_
                          have BK176:=n4_
                          have HB:=n5_
                          have HO189:=n6_
                          clear n0_ n1_ n2_ n3_ n4_ n5_ n6_
                          clear ho hb hg hat
                          refine hK.out _ _ ⟨(blk_cell BK171.out 0).trans rfl,(blk_cell BK171.out 1).trans rfl,(blk_cell BK171.out 2).trans rfl,(blk_cell BK171.out 3).trans rfl,(blk_cell BK171.out 4).trans rfl,(blk_cell BK171.out 5).trans rfl,(blk_cell BK172.out 0).trans rfl,(blk_cell BK172.out 1).trans rfl,(blk_cell BK172.out 2).trans rfl,(blk_cell BK172.out 3).trans rfl,(blk_cell BK172.out 4).trans rfl,((HB.out.cell (World.block_lt_of_cell? w _ hw185_0)).trans hw185_0),((HB.out.cell (World.block_lt_of_cell? w _ hw186_0)).trans hw186_0)⟩ (fun hHeld=>?_)
                          clear hK K
                          refine norm_ (a':=?_) ?_ ?_
                          rotate_left
                          ·show Act.put _ (some 110) _ = _
                           simp only [Act.put,List.setIfInBounds_toArray,List.set_cons_zero,List.set_cons_succ,i64_w,i32_w]
                           rfl
                          refine pure_ (i:=16) (N:=some 11) (v:=?_) (a':=?_) #[true,true,true,true,true,true,true,true,true,true,true,true,true,true,true,true,true] rfl rfl (any_of HT_.out (by kernel_rfl)) (fun _ _ _ h=>h) (Or.inl ⟨by rfl,?_⟩) ?_ ?_
                          rotate_left
                          ·intro w'
                           go_simp
                           with_reducible rfl
                          rotate_left
                          ·simp only [Act.put,List.setIfInBounds_toArray,List.set_cons_zero,List.set_cons_succ,i64_w,i32_w]
                           rfl
                          refine done_ (done_of HT_.out (by kernel_rfl)) ?_
                          try go_wp2
                          go_roundg k4
                          case measure=>have:=HK1.out;have:=HK2.out;have:=HK3.out;have:=HK4.out;omega
                          case rel=>exact ⟨(y187),(wrap64 (x69_3 + 1)),(by first|rfl|(simp;done)|(simp [*];done)),H',⟨by have:=HK1.out;have:=HK2.out;have:=HK3.out;have:=HK4.out;omega⟩,⟨by (with_reducible repeat (first|apply Kd.R_alloc|apply Kd.R_drewN|apply Kd.R_drew));exact HO189.out⟩,⟨by (with_reducible repeat (first|apply Kd.S_alloc|apply Kd.S_drewN|apply Kd.S_drew));exact Kd.S_mono HO_177002.out (fun _ hk=>hk.2)⟩,⟨by (with_reducible repeat (first|refine blk_drewN ?_ _|refine blk_drew ?_|refine blk_alloc ?_ _));exact BK171.out⟩,⟨by (with_reducible repeat (first|refine blk_drewN ?_ _|refine blk_drew ?_|refine blk_alloc ?_ _));exact BK172.out⟩,⟨by (with_reducible repeat (first|refine blk_drewN ?_ _|refine blk_drew ?_|refine blk_alloc ?_ _));exact BK173.out⟩,⟨by (with_reducible repeat (first|refine blk_drewN ?_ _|refine blk_drew ?_|refine blk_alloc ?_ _));exact BK176.out⟩,⟨by repeat (first|(with_reducible first|exact HB.out|apply below_alloc|apply pw_below_drewN|apply below_drew1|refine below_set ?_ GE171.out|refine below_set ?_ GE172.out|refine below_set ?_ GE173.out|refine below_set ?_ GE176.out)|exact HB.out)⟩⟩
                         ·rw [if_neg c74] at H
                          exact absurd H (by simp)
                        ·rw [if_neg c73] at H
                         exact absurd H (by simp)
                       ·rw [if_neg c72] at H
                        exact absurd H (by simp)
                      ·rw [if_neg c71] at H
                       exact absurd H (by simp)
                     ·rw [if_neg c70] at H
                      exact absurd H (by simp)
                 ·rw [if_neg c54] at H
                  exact absurd H (by simp)
                ·rw [if_neg c53] at H
                 exact absurd H (by simp)
               ·rw [if_neg c52] at H
                exact absurd H (by simp)
              ·rw [if_neg c51] at H
               exact absurd H (by simp)
             ·rw [if_neg c50] at H
              have c50b0 : decide (x69_3 < a0_1) = false:=decide_eq_false c50
              clear c50
              by_cases c77 : x177002_2.length < 5864062014805
              ·rw [if_pos c77] at H
               have LMc77:=Aside0.mk c77
               clear c77
               obtain ⟨y177,hy177⟩ : ∃ y_ : List (List Int),y_ = (x177002_2 ++ [x11_3]):=⟨_,rfl⟩
               replace H : (if 0 ≤ x64_2 then (if 0 ≤ (wrap64 ((wrap64 (x59_1 * a1_0)) + x64_2)) then (turner_Takes.l1 k3 x59_1 a0_0 x59_1 a1_0 (wrap64 (x64_2 + 1)) a0_0 a0_1 a0_2 l0_3 l0_4 a0_5 a1_0 a1_1 l1_2 a1_3 a1_4 (wrap64 (a0_0 * a1_0)) a0_1 y177 (wrap64 ((wrap64 (a0_5 * a1_0)) + a1_3)) (Go.bits .or .u32 x177004_2 (shl .u32 (Go.bits .and .u32 (shr .u32 a1_4 x64_2) 1) (wrap64 ((wrap64 (x59_1 * a1_0)) + x64_2))))) else (none)) else (none)) = some (r1,r2,r3,r4,r5,r6):=by first|(rw [hy177];with_reducible exact H)|(have H2_:=(Option.bind_some _ _).symm.trans H;rw [hy177];with_reducible exact H2_)|(have H2_:=(Option.bind_some _ _).symm.trans H;with_reducible exact H2_)|with_reducible exact H|(rw [hy177];exact H)|exact H
               have Ny177:=Aside0.mk hy177
               clear hy177
               by_cases c78 : 0 ≤ x64_2
               ·rw [if_pos c78] at H
                have c78b0:=eq_true c78
                have c78b1 : decide (0 ≤ x64_2) = true:=decide_eq_true c78
                clear c78
                obtain ⟨ji79,hji79⟩ : ∃ j_ : Int,(shr .u32 a1_4 x64_2) = j_:=⟨_,rfl⟩
                replace H : (if 0 ≤ (wrap64 ((wrap64 (x59_1 * a1_0)) + x64_2)) then (turner_Takes.l1 k3 x59_1 a0_0 x59_1 a1_0 (wrap64 (x64_2 + 1)) a0_0 a0_1 a0_2 l0_3 l0_4 a0_5 a1_0 a1_1 l1_2 a1_3 a1_4 (wrap64 (a0_0 * a1_0)) a0_1 y177 (wrap64 ((wrap64 (a0_5 * a1_0)) + a1_3)) (Go.bits .or .u32 x177004_2 (shl .u32 (Go.bits .and .u32 (ji79) 1) (wrap64 ((wrap64 (x59_1 * a1_0)) + x64_2))))) else (none)) = some (r1,r2,r3,r4,r5,r6):=by first|(rw [hji79] at H;exact H)|(simp only [hji79] at H ⊢;exact H)
                have hji79_ : (a1_4 / 2 ^ min x64_2.toNat 32) = ji79:=hji79
                have hji79z : x64_2 ≤ 32 → (a1_4 / 2 ^ x64_2.toNat) = ji79:=shr_small hji79
                obtain ⟨ji80,hji80⟩ : ∃ j_ : Int,(wrap64 ((wrap64 (x59_1 * a1_0)) + x64_2)) = j_:=⟨_,rfl⟩
                replace H : (if 0 ≤ (ji80) then (turner_Takes.l1 k3 x59_1 a0_0 x59_1 a1_0 (wrap64 (x64_2 + 1)) a0_0 a0_1 a0_2 l0_3 l0_4 a0_5 a1_0 a1_1 l1_2 a1_3 a1_4 (wrap64 (a0_0 * a1_0)) a0_1 y177 (wrap64 ((wrap64 (a0_5 * a1_0)) + a1_3)) (Go.bits .or .u32 x177004_2 (shl .u32 (Go.bits .and .u32 (ji79) 1) (ji80)))) else (none)) = some (r1,r2,r3,r4,r5,r6):=by first|(rw [hji80] at H;exact H)|(simp only [hji80] at H ⊢;exact H)
                have hji80w : (IntKind.i64.wrap ((wrap64 (x59_1 * a1_0)) + x64_2)) = ji80:=(i64_w _).trans hji80
                by_cases c81 : 0 ≤ (ji80)
                ·rw [if_pos c81] at H
                 have c81b0:=eq_true c81
                 have c81b1 : decide (0 ≤ (ji80)) = true:=decide_eq_true c81
                 clear c81
                 obtain ⟨ji82,hji82⟩ : ∃ j_ : Int,(shl .u32 (Go.bits .and .u32 (ji79) 1) (ji80)) = j_:=⟨_,rfl⟩
                 replace H : (turner_Takes.l1 k3 x59_1 a0_0 x59_1 a1_0 (wrap64 (x64_2 + 1)) a0_0 a0_1 a0_2 l0_3 l0_4 a0_5 a1_0 a1_1 l1_2 a1_3 a1_4 (wrap64 (a0_0 * a1_0)) a0_1 y177 (wrap64 ((wrap64 (a0_5 * a1_0)) + a1_3)) (Go.bits .or .u32 x177004_2 (ji82))) = some (r1,r2,r3,r4,r5,r6):=by first|(rw [hji82] at H;exact H)|(simp only [hji82] at H ⊢;exact H)
                 have hji82_ : (IntKind.u32.wrap ((Go.bits .and .u32 (ji79) 1) * 2 ^ min (ji80).toNat 32)) = ji82:=hji82
                 have hji82z : (ji80) ≤ 32 → (IntKind.u32.wrap ((Go.bits .and .u32 (ji79) 1) * 2 ^ (ji80).toNat)) = ji82:=shl_small hji82
                 have H':=Aside0.mk H
                 clear H
                 have hnb83:=NB176_171.out
                 have hnc83:=NB171_176.out
                 have hnb84:=NB176_172.out
                 have hnc84:=NB172_176.out
                 have hnb85:=NB176_173.out
                 have hnc85:=NB173_176.out
                 have hcz86_0 : wr.cell? ⟨gb176,0,none⟩ = some (.int .i64 (wrap64 (a0_0 * a1_0))):=(blk_cell BK176.out 0).trans rfl
                 have hcz86_1 : wr.cell? ⟨gb176,1,none⟩ = some (.int .i64 a0_1):=(blk_cell BK176.out 1).trans rfl
                 have hcz86_2 : wr.cell? ⟨gb176,2,none⟩ = some (u177002):=(blk_cell BK176.out 2).trans rfl
                 have hcz86_3 : wr.cell? ⟨gb176,3,none⟩ = some (.int .i64 (wrap64 ((wrap64 (a0_5 * a1_0)) + a1_3))):=(blk_cell BK176.out 3).trans rfl
                 have hcz86_4 : wr.cell? ⟨gb176,4,none⟩ = some (.int .u32 x177004_2):=(blk_cell BK176.out 4).trans rfl
                 have hfz86_0:=blk_frozen BK176.out 0
                 have hfz86_1:=blk_frozen BK176.out 1
                 have hfz86_2:=blk_frozen BK176.out 2
                 have hfz86_3:=blk_frozen BK176.out 3
                 have hfz86_4:=blk_frozen BK176.out 4
                 obtain ⟨Ao88,co88,eo88⟩:=Kd.R_slice HO_11.out
                 subst eo88
                 try go_wp2_with (first|((with_reducible refine gate_builtin (b:=.append) (xs:=#[.tmp 113,.tmp 115]) rfl ?_);at_builtin;refine Kd.S_append (Kd.slice 3 (Kd.int .i64)) (w0:=w) w.heap.size rfl (.tmp 113) (.tmp 115) 35 28 (.slice none 0 0) 24 rfl Try.underlying35 info28 rfl (by decide) (by omega) u177002 x177002_2 x11_3 [.slice Ao88 x11_3.length co88] (fun _=>True) (fun k_=>some k_ = (.slice Ao88 x11_3.length co88 : Value).ownBlock) rfl rfl ?aP (fun k_ hk_=>((Kd.R_mono (ok':=fun k_=>((fun _=>True)) k_ ∧ some k_ ≠ (u177002 : Value).ownBlock) (Kd.R_apart' (HO_11.out) (Kd.S_typed HO_177002.out) (by decide)) (fun k_ hk=>⟨trivial,hk.2⟩))).1 k_ hk_.symm) ?aF ?aO ?aB ?aS ?aL ?_;(case aP=>exact Kd.M_row (Kd.R_mono (Kd.R_tight rfl (Kd.R_mono (ok':=fun k_=>((fun _=>True)) k_ ∧ some k_ ≠ (u177002 : Value).ownBlock) (Kd.R_apart' (HO_11.out) (Kd.S_typed HO_177002.out) (by decide)) (fun k_ hk=>⟨trivial,hk.2⟩))) (fun _ h_=>h_)));(case aB=>exact (by repeat (first|(with_reducible first|exact HB.out|apply below_alloc|apply pw_below_drewN|apply below_drew1|refine below_set ?_ GE171.out|refine below_set ?_ GE172.out|refine below_set ?_ GE173.out|refine below_set ?_ GE176.out)|exact HB.out)));(case aF=>exact (fun _ _=>trivial));(case aO=>exact (by (with_reducible repeat (first|apply Kd.S_alloc|apply Kd.S_drewN|apply Kd.S_drew));exact Kd.S_mono HO_177002.out (fun k_ hk=>⟨trivial,fun e_=>hk e_⟩)));(case aS=>exact (below_size (by repeat (first|(with_reducible first|exact HB.out|apply below_alloc|apply pw_below_drewN|apply below_drew1|refine below_set ?_ GE171.out|refine below_set ?_ GE172.out|refine below_set ?_ GE173.out|refine below_set ?_ GE176.out)|exact HB.out))));(case aL=>have:=LMc77.out;omega);intro v178 w87 ho hb hg hat;rw [← Ny177.out] at ho;have n0_:=Aside0.mk (blk_grown (g:=gb171) (o:=.cells #[.int .i64 a0_0,.int .i64 a0_1,.int .i64 a0_2,.slice A0_3 l0_3.length c0_3,.slice A0_4 l0_4.length c0_4,.int .i64 a0_5] 50 (0,0)) (by (with_reducible repeat (first|refine blk_drewN ?_ _|refine blk_drew ?_|refine blk_alloc ?_ _));exact BK171.out) hg (Kd.S_ne HO_177002.out BK171.out (by decide)));have n1_:=Aside0.mk (blk_grown (g:=gb172) (o:=.cells #[.int .i64 a1_0,.int .i64 a1_1,.slice A1_2 l1_2.length c1_2,.int .i64 a1_3,.int .u32 a1_4] 37 (0,0)) (by (with_reducible repeat (first|refine blk_drewN ?_ _|refine blk_drew ?_|refine blk_alloc ?_ _));exact BK172.out) hg (Kd.S_ne HO_177002.out BK172.out (by decide)));have n2_:=Aside0.mk (blk_grown (g:=gb173) (o:=.cells #[.int .i64 0,.int .i64 0,.slice none 0 0,.int .i64 0,.int .u32 0] 37 (0,0)) (by (with_reducible repeat (first|refine blk_drewN ?_ _|refine blk_drew ?_|refine blk_alloc ?_ _));exact BK173.out) hg (Kd.S_ne HO_177002.out BK173.out (by decide)));have n3_:=Aside0.mk (blk_grown (g:=gb176) (o:=.cells #[.int .i64 (wrap64 (a0_0 * a1_0)),.int .i64 a0_1,u177002,.int .i64 (wrap64 ((wrap64 (a0_5 * a1_0)) + a1_3)),.int .u32 x177004_2] 37 (0,0)) (by (with_reducible repeat (first|refine blk_drewN ?_ _|refine blk_drew ?_|refine blk_alloc ?_ _));exact BK176.out) hg (Kd.S_ne HO_177002.out BK176.out (by decide)));have n4_:=Aside0.mk (hb);have n5_:=Aside0.mk (ho);clear BK171;clear BK172;clear BK173;clear BK176;clear HB;clear HO_177002;clear HO_11;have BK171:=n0_;have BK172:=n1_;have BK173:=n2_;have BK176:=n3_;have HB:=n4_;have HO179:=n5_;clear n0_ n1_ n2_ n3_ n4_ n5_;clear ho hb hg hat;obtain ⟨Ao89,co89,eo89⟩:=Kd.S_slice HO179.out;subst eo89;have hcz90_0 : w87.cell? ⟨gb176,0,none⟩ = some (.int .i64 (wrap64 (a0_0 * a1_0))):=(blk_cell BK176.out 0).trans rfl;have hcz90_1 : w87.cell? ⟨gb176,1,none⟩ = some (.int .i64 a0_1):=(blk_cell BK176.out 1).trans rfl;have hcz90_2 : w87.cell? ⟨gb176,2,none⟩ = some (u177002):=(blk_cell BK176.out 2).trans rfl;have hcz90_3 : w87.cell? ⟨gb176,3,none⟩ = some (.int .i64 (wrap64 ((wrap64 (a0_5 * a1_0)) + a1_3))):=(blk_cell BK176.out 3).trans rfl;have hcz90_4 : w87.cell? ⟨gb176,4,none⟩ = some (.int .u32 x177004_2):=(blk_cell BK176.out 4).trans rfl;have hfz90_0:=blk_frozen BK176.out 0;have hfz90_1:=blk_frozen BK176.out 1;have hfz90_2:=blk_frozen BK176.out 2;have hfz90_3:=blk_frozen BK176.out 3;have hfz90_4:=blk_frozen BK176.out 4))
                 have n0_ : Aside0 (Kd.S (Kd.slice 3 (Kd.int .i64)) 28 (w87.setCell ⟨gb176,2,none⟩ (.slice Ao89 y177.length co89)) w.heap.size (fun _=>True) (.slice Ao89 y177.length co89) y177):=⟨by (with_reducible repeat (first|apply Kd.S_alloc|apply Kd.S_drewN|apply Kd.S_drew));exact Kd.S_mono (Kd.S_far (p:=⟨gb176,2,none⟩) (Kd.S_types HO179.out BK176.out (by decide)) (fun _ hk=>hk.2) (.slice Ao89 y177.length co89)) (fun _ hk=>trivial)⟩
                 have n1_ : Aside0 ((w87.setCell ⟨gb176,2,none⟩ (.slice Ao89 y177.length co89)).heap[gb171]? = some (.cells #[.int .i64 a0_0,.int .i64 a0_1,.int .i64 a0_2,.slice A0_3 l0_3.length c0_3,.slice A0_4 l0_4.length c0_4,.int .i64 a0_5] 50 (0,0))):=⟨by (with_reducible repeat (first|refine blk_drewN ?_ _|refine blk_drew ?_|refine blk_alloc ?_ _));refine blk_far ?_ NB171_176.out _;(with_reducible repeat (first|refine blk_drewN ?_ _|refine blk_drew ?_|refine blk_alloc ?_ _));exact BK171.out⟩
                 have n2_ : Aside0 ((w87.setCell ⟨gb176,2,none⟩ (.slice Ao89 y177.length co89)).heap[gb172]? = some (.cells #[.int .i64 a1_0,.int .i64 a1_1,.slice A1_2 l1_2.length c1_2,.int .i64 a1_3,.int .u32 a1_4] 37 (0,0))):=⟨by (with_reducible repeat (first|refine blk_drewN ?_ _|refine blk_drew ?_|refine blk_alloc ?_ _));refine blk_far ?_ NB172_176.out _;(with_reducible repeat (first|refine blk_drewN ?_ _|refine blk_drew ?_|refine blk_alloc ?_ _));exact BK172.out⟩
                 have n3_ : Aside0 ((w87.setCell ⟨gb176,2,none⟩ (.slice Ao89 y177.length co89)).heap[gb173]? = some (.cells #[.int .i64 0,.int .i64 0,.slice none 0 0,.int .i64 0,.int .u32 0] 37 (0,0))):=⟨by (with_reducible repeat (first|refine blk_drewN ?_ _|refine blk_drew ?_|refine blk_alloc ?_ _));refine blk_far ?_ NB173_176.out _;(with_reducible repeat (first|refine blk_drewN ?_ _|refine blk_drew ?_|refine blk_alloc ?_ _));exact BK173.out⟩
                 have n4_ : Aside0 ((w87.setCell ⟨gb176,2,none⟩ (.slice Ao89 y177.length co89)).heap[gb176]? = some (.cells #[.int .i64 (wrap64 (a0_0 * a1_0)),.int .i64 a0_1,.slice Ao89 y177.length co89,.int .i64 (wrap64 ((wrap64 (a0_5 * a1_0)) + a1_3)),.int .u32 x177004_2] 37 (0,0))):=⟨by (with_reducible repeat (first|refine blk_drewN ?_ _|refine blk_drew ?_|refine blk_alloc ?_ _));refine blk_put (cs:=#[.int .i64 (wrap64 (a0_0 * a1_0)),.int .i64 a0_1,u177002,.int .i64 (wrap64 ((wrap64 (a0_5 * a1_0)) + a1_3)),.int .u32 x177004_2]) ?_ 2 _ rfl;(with_reducible repeat (first|refine blk_drewN ?_ _|refine blk_drew ?_|refine blk_alloc ?_ _));exact BK176.out⟩
                 have n5_ : Aside0 (Below w.heap.size w (w87.setCell ⟨gb176,2,none⟩ (.slice Ao89 y177.length co89))):=⟨by repeat (first|(with_reducible first|exact HB.out|apply below_alloc|apply pw_below_drewN|apply below_drew1|refine below_set ?_ GE171.out|refine below_set ?_ GE172.out|refine below_set ?_ GE173.out|refine below_set ?_ GE176.out)|exact HB.out)⟩
                 (try clear HO179)
                 (try clear BK171)
                 (try clear BK172)
                 (try clear BK173)
                 (try clear BK176)
                 (try clear HB)
                 generalize (w87.setCell ⟨gb176,2,none⟩ (.slice Ao89 y177.length co89)) = w91 at n0_ n1_ n2_ n3_ n4_ n5_ ⊢
                 have HO179:=n0_
                 have BK171:=n1_
                 have BK172:=n2_
                 have BK173:=n3_
                 have BK176:=n4_
                 have HB:=n5_
                 clear n0_ n1_ n2_ n3_ n4_ n5_
                 have n0_:=Aside0.mk (Kd.S_drew HO179.out)
                 have n1_:=Aside0.mk (blk_drew BK171.out)
                 have n2_:=Aside0.mk (blk_drew BK172.out)
                 have n3_:=Aside0.mk (blk_drew BK173.out)
                 have n4_:=Aside0.mk (blk_drew BK176.out)
                 have n5_:=Aside0.mk (below_drew1 HB.out)
                 clear HO179
                 clear BK171
                 clear BK172
                 clear BK173
                 clear BK176
                 clear HB
                 have HO179:=n0_
                 have BK171:=n1_
                 have BK172:=n2_
                 have BK173:=n3_
                 have BK176:=n4_
                 have HB:=n5_
                 clear n0_ n1_ n2_ n3_ n4_ n5_
                 refine start_ (n:=17) (S:=fun w'=>w'.cell? ⟨gb176,0,none⟩ = some (.int .i64 (wrap64 (a0_0 * a1_0))) ∧ w'.cell? ⟨gb176,1,none⟩ = some (.int .i64 a0_1) ∧ w'.cell? ⟨gb176,2,none⟩ = some (.slice Ao89 y177.length co89) ∧ w'.cell? ⟨gb176,3,none⟩ = some (.int .i64 (wrap64 ((wrap64 (a0_5 * a1_0)) + a1_3))) ∧ w'.cell? ⟨gb176,4,none⟩ = some (.int .u32 x177004_2) ∧ w'.cell? ⟨gb172,0,none⟩ = some (.int .i64 a1_0) ∧ w'.cell? ⟨gb172,1,none⟩ = some (.int .i64 a1_1) ∧ w'.cell? ⟨gb172,2,none⟩ = some (.slice A1_2 l1_2.length c1_2) ∧ w'.cell? ⟨gb172,3,none⟩ = some (.int .i64 a1_3) ∧ w'.cell? ⟨gb172,4,none⟩ = some (.int .u32 a1_4)) (ds:=[16]) #[false,false,false,false,false,false,false,false,false,false,false,false,false,false,false,false,false] (by kernel_rfl) rfl rfl ⟨(blk_cell BK176.out 0).trans rfl,(blk_cell BK176.out 1).trans rfl,(blk_cell BK176.out 2).trans rfl,(blk_cell BK176.out 3).trans rfl,(blk_cell BK176.out 4).trans rfl,(blk_cell BK172.out 0).trans rfl,(blk_cell BK172.out 1).trans rfl,(blk_cell BK172.out 2).trans rfl,(blk_cell BK172.out 3).trans rfl,(blk_cell BK172.out 4).trans rfl⟩ (fun hHeld=>?_);refine with_tabW turner_Takes.tab31 turner_Takes.bits31 (fun HT_ HW_=>?_)
                 generalize w91.drew = w92 at HO179 BK171 BK172 BK173 BK176 HB hHeld ⊢
                 refine pure_ (i:=0) (N:=some 118) (v:=?_) (a':=?_) #[true,false,false,false,false,false,false,false,false,false,false,false,false,false,false,false,false] rfl rfl (any_of HT_.out (by kernel_rfl)) (fun _ _ _ h=>h) (Or.inl ⟨by rfl,?_⟩) ?_ ?_
                 rotate_left
                 ·intro w'
                  go_simp
                  with_reducible rfl
                 rotate_left
                 ·simp only [Act.put,List.setIfInBounds_toArray,List.set_cons_zero,List.set_cons_succ,i64_w,i32_w]
                  rfl
                 refine pure_ (i:=2) (N:=some 120) (v:=?_) (a':=?_) #[true,false,true,false,false,false,false,false,false,false,false,false,false,false,false,false,false] rfl rfl (any_of HT_.out (by kernel_rfl)) (fun _ _ _ h=>h) (Or.inl ⟨by rfl,?_⟩) ?_ ?_
                 rotate_left
                 ·intro w'
                  go_simp
                  with_reducible rfl
                 rotate_left
                 ·simp only [Act.put,List.setIfInBounds_toArray,List.set_cons_zero,List.set_cons_succ,i64_w,i32_w]
                  rfl
                 refine pure_ (i:=4) (N:=some 122) (v:=?_) (a':=?_) #[true,false,true,false,true,false,false,false,false,false,false,false,false,false,false,false,false] rfl rfl (any_of HT_.out (by kernel_rfl)) (fun _ _ _ h=>h) (Or.inl ⟨by rfl,?_⟩) ?_ ?_
                 rotate_left
                 ·intro w'
                  go_simp
                  with_reducible rfl
                 rotate_left
                 ·simp only [Act.put,List.setIfInBounds_toArray,List.set_cons_zero,List.set_cons_succ,i64_w,i32_w]
                  rfl
                 refine pure_ (i:=7) (N:=some 125) (v:=?_) (a':=?_) #[true,false,true,false,true,false,false,true,false,false,false,false,false,false,false,false,false] rfl rfl (any_of HT_.out (by kernel_rfl)) (fun _ _ _ h=>h) (Or.inl ⟨by rfl,?_⟩) ?_ ?_
                 rotate_left
                 ·intro w'
                  go_simp
                  with_reducible rfl
                 rotate_left
                 ·simp only [Act.put,List.setIfInBounds_toArray,List.set_cons_zero,List.set_cons_succ,i64_w,i32_w]
                  rfl
                 refine pure_ (i:=8) (N:=some 126) (v:=?_) (a':=?_) #[true,false,true,false,true,false,false,true,true,false,false,false,false,false,false,false,false] rfl rfl (any_of HT_.out (by kernel_rfl)) (fun _ _ _ h=>h) (Or.inl ⟨by rfl,?_⟩) ?_ ?_
                 rotate_left
                 ·intro w'
                  go_simp
                  with_reducible rfl
                 rotate_left
                 ·simp only [Act.put,List.setIfInBounds_toArray,List.set_cons_zero,List.set_cons_succ,i64_w,i32_w]
                  rfl
                 refine pure_ (i:=11) (N:=some 129) (v:=?_) (a':=?_) #[true,false,true,false,true,false,false,true,true,false,false,true,false,false,false,false,false] rfl rfl (any_of HT_.out (by kernel_rfl)) (fun _ _ _ h=>h) (Or.inl ⟨by rfl,?_⟩) ?_ ?_
                 rotate_left
                 ·intro w'
                  go_simp
                  with_reducible rfl
                 rotate_left
                 ·simp only [Act.put,List.setIfInBounds_toArray,List.set_cons_zero,List.set_cons_succ,i64_w,i32_w]
                  rfl
                 refine take_ (i:=1) (N:=some 119) (v:=?_) (a':=?_) #[true,true,true,false,true,false,false,true,true,false,false,true,false,false,false,false,false] rfl rfl (take_ofW HT_.out HW_.out (by kernel_rfl)) (fun _ _ _ h=>h) (Or.inl ⟨by rfl,?_⟩) hHeld ?_ ?_
                 rotate_left
                 ·rintro w' ⟨s0,s1,s2,s3,s4,s5,s6,s7,s8,s9⟩
                  go_simp
                  with_reducible rfl
                 rotate_left
                 ·simp only [Act.put,List.setIfInBounds_toArray,List.set_cons_zero,List.set_cons_succ,i64_w,i32_w]
                  rfl
                 refine take_ (i:=3) (N:=some 121) (v:=?_) (a':=?_) #[true,true,true,true,true,false,false,true,true,false,false,true,false,false,false,false,false] rfl rfl (take_ofW HT_.out HW_.out (by kernel_rfl)) (fun _ _ _ h=>h) (Or.inl ⟨by rfl,?_⟩) hHeld ?_ ?_
                 rotate_left
                 ·rintro w' ⟨s0,s1,s2,s3,s4,s5,s6,s7,s8,s9⟩
                  go_simp
                  with_reducible rfl
                 rotate_left
                 ·simp only [Act.put,List.setIfInBounds_toArray,List.set_cons_zero,List.set_cons_succ,i64_w,i32_w]
                  rfl
                 refine pure_ (i:=5) (N:=some 123) (v:=?_) (a':=?_) #[true,true,true,true,true,true,false,true,true,false,false,true,false,false,false,false,false] rfl rfl (any_of HT_.out (by kernel_rfl)) (fun _ _ _ h=>h) (Or.inl ⟨by rfl,?_⟩) ?_ ?_
                 rotate_left
                 ·intro w'
                  go_simp
                  with_reducible rfl
                 rotate_left
                 ·simp only [Act.put,List.setIfInBounds_toArray,List.set_cons_zero,List.set_cons_succ,i64_w,i32_w]
                  rfl
                 refine pure_ (i:=6) (N:=some 124) (v:=?_) (a':=?_) #[true,true,true,true,true,true,true,true,true,false,false,true,false,false,false,false,false] rfl rfl (any_of HT_.out (by kernel_rfl)) (fun _ _ _ h=>h) (Or.inl ⟨by rfl,?_⟩) ?_ ?_
                 rotate_left
                 ·intro w'
                  go_simp
                  with_reducible rfl
                 rotate_left
                 ·simp only [Act.put,List.setIfInBounds_toArray,List.set_cons_zero,List.set_cons_succ,i64_w,i32_w]
                  rfl
                 refine take_ (i:=9) (N:=some 127) (v:=?_) (a':=?_) #[true,true,true,true,true,true,true,true,true,true,false,true,false,false,false,false,false] rfl rfl (take_ofW HT_.out HW_.out (by kernel_rfl)) (fun _ _ _ h=>h) (Or.inl ⟨by rfl,?_⟩) hHeld ?_ ?_
                 rotate_left
                 ·rintro w' ⟨s0,s1,s2,s3,s4,s5,s6,s7,s8,s9⟩
                  go_simp
                  with_reducible rfl
                 rotate_left
                 ·simp only [Act.put,List.setIfInBounds_toArray,List.set_cons_zero,List.set_cons_succ,i64_w,i32_w]
                  rfl
                 refine pure_ (i:=10) (N:=some 128) (v:=?_) (a':=?_) #[true,true,true,true,true,true,true,true,true,true,true,true,false,false,false,false,false] rfl rfl (any_of HT_.out (by kernel_rfl)) (fun _ _ _ h=>h) (Or.inl ⟨by rfl,?_⟩) ?_ ?_
                 rotate_left
                 ·intro w'
                  go_simp
                  with_reducible rfl
                 rotate_left
                 ·simp only [Act.put,List.setIfInBounds_toArray,List.set_cons_zero,List.set_cons_succ,i64_w,i32_w]
                  rfl
                 refine pure_ (i:=12) (N:=some 130) (v:=?_) (a':=?_) #[true,true,true,true,true,true,true,true,true,true,true,true,true,false,false,false,false] rfl rfl (any_of HT_.out (by kernel_rfl)) (fun _ _ _ h=>h) (Or.inl ⟨by rfl,?_⟩) ?_ ?_
                 rotate_left
                 ·intro w'
                  go_simp
                  with_reducible rfl
                 rotate_left
                 ·simp only [Act.put,List.setIfInBounds_toArray,List.set_cons_zero,List.set_cons_succ,i64_w,i32_w]
                  rfl
                 refine pure_ (i:=13) (N:=some 131) (v:=?_) (a':=?_) #[true,true,true,true,true,true,true,true,true,true,true,true,true,true,false,false,false] rfl rfl (any_of HT_.out (by kernel_rfl)) (fun _ _ _ h=>h) (Or.inl ⟨by rfl,?_⟩) ?_ ?_
                 rotate_left
                 ·intro w'
                  go_simp
                  with_reducible rfl
                 rotate_left
                 ·simp only [Act.put,List.setIfInBounds_toArray,List.set_cons_zero,List.set_cons_succ,i64_w,i32_w]
                  rfl
                 refine pure_ (i:=14) (N:=some 132) (v:=?_) (a':=?_) #[true,true,true,true,true,true,true,true,true,true,true,true,true,true,true,false,false] rfl rfl (any_of HT_.out (by kernel_rfl)) (fun _ _ _ h=>h) (Or.inl ⟨by rfl,?_⟩) ?_ ?_
                 rotate_left
                 ·intro w'
                  go_simp
                  with_reducible rfl
                 rotate_left
                 ·simp only [Act.put,List.setIfInBounds_toArray,List.set_cons_zero,List.set_cons_succ,i64_w,i32_w]
                  rfl
                 refine pure_ (i:=15) (N:=some 133) (v:=?_) (a':=?_) #[true,true,true,true,true,true,true,true,true,true,true,true,true,true,true,true,false] rfl rfl (any_of HT_.out (by kernel_rfl)) (fun _ _ _ h=>h) (Or.inl ⟨by rfl,?_⟩) ?_ ?_
                 rotate_left
                 ·intro w'
                  go_simp
                  with_reducible rfl
                 rotate_left
                 ·simp only [Act.put,List.setIfInBounds_toArray,List.set_cons_zero,List.set_cons_succ,i64_w,i32_w]
                  rfl
                 refine last_ (i:=16) (N:=none) #[true,true,true,true,true,true,true,true,true,true,true,true,true,true,true,true,true] rfl rfl (one_of HT_.out (by kernel_rfl)) (by decide) (fun K hK=>?_)
                 have hs93 : w92.cell? ⟨gb176,4,none⟩ = some (.int .u32 x177004_2):=(blk_cell BK176.out 4).trans rfl
                 have hfs93:=blk_frozen BK176.out 4
                 have hns93_0:=NB171_176.out
                 have hns93_1:=NB172_176.out
                 have hns93_2:=NB173_176.out
                 have hms93_0:=NB176_171.out
                 have hms93_1:=NB176_172.out
                 have hms93_2:=NB176_173.out
                 refine skip_ (w1:=?_) (by rfl) rfl ?_ ?_
                 rotate_left
                 ·go_simp
                  rfl
                 refine hK.out _ _ ?_
                 clear hK K
                 refine done_ (done_of HT_.out (by kernel_rfl)) ?_
                 try go_wp2
                 first|go_roundg k3|((simp only [← hji79,← hji80,← hji82]);go_roundg k3)
                 case measure=>have:=HK1.out;have:=HK2.out;have:=HK3.out;omega
                 case rel=>exact ⟨(wrap64 (x64_2 + 1)),(y177),(Go.bits .or .u32 x177004_2 (ji82)),(.slice Ao89 y177.length co89),(by first|rfl|(simp;done)|(simp [*];done)),(by first|exact H'|((simp only [hji79,hji80,hji82]);exact H')|(have h_:=H'.out;simp only [← hji79,← hji80,← hji82] at h_ ⊢;exact ⟨h_⟩)),⟨by have:=HK1.out;have:=HK2.out;have:=HK3.out;omega⟩,⟨by (with_reducible repeat (first|apply Kd.S_alloc|apply Kd.S_drewN|apply Kd.S_drew));exact Kd.S_mono (Kd.S_far (p:=⟨gb176,4,none⟩) (Kd.S_types HO179.out BK176.out (by decide)) (fun _ hk=>hk.2) (.int .u32 (Go.bits .or .u32 x177004_2 (ji82)))) (fun _ hk=>trivial)⟩,⟨by (with_reducible repeat (first|refine blk_drewN ?_ _|refine blk_drew ?_|refine blk_alloc ?_ _));refine blk_far ?_ NB171_176.out _;(with_reducible repeat (first|refine blk_drewN ?_ _|refine blk_drew ?_|refine blk_alloc ?_ _));exact BK171.out⟩,⟨by (with_reducible repeat (first|refine blk_drewN ?_ _|refine blk_drew ?_|refine blk_alloc ?_ _));refine blk_far ?_ NB172_176.out _;(with_reducible repeat (first|refine blk_drewN ?_ _|refine blk_drew ?_|refine blk_alloc ?_ _));exact BK172.out⟩,⟨by (with_reducible repeat (first|refine blk_drewN ?_ _|refine blk_drew ?_|refine blk_alloc ?_ _));refine blk_far ?_ NB173_176.out _;(with_reducible repeat (first|refine blk_drewN ?_ _|refine blk_drew ?_|refine blk_alloc ?_ _));exact BK173.out⟩,⟨by (with_reducible repeat (first|refine blk_drewN ?_ _|refine blk_drew ?_|refine blk_alloc ?_ _));refine blk_put (cs:=#[.int .i64 (wrap64 (a0_0 * a1_0)),.int .i64 a0_1,.slice Ao89 y177.length co89,.int .i64 (wrap64 ((wrap64 (a0_5 * a1_0)) + a1_3)),.int .u32 x177004_2]) ?_ 4 _ rfl;(with_reducible repeat (first|refine blk_drewN ?_ _|refine blk_drew ?_|refine blk_alloc ?_ _));exact BK176.out⟩,⟨by repeat (first|(with_reducible first|exact HB.out|apply below_alloc|apply pw_below_drewN|apply below_drew1|refine below_set ?_ GE171.out|refine below_set ?_ GE172.out|refine below_set ?_ GE173.out|refine below_set ?_ GE176.out)|exact HB.out)⟩⟩
                ·rw [if_neg c81] at H
                 exact absurd H (by simp)
               ·rw [if_neg c78] at H
                exact absurd H (by simp)
              ·rw [if_neg c77] at H
               exact absurd H (by simp)
          ·rw [if_neg c45] at H
           have c45b0 : decide (x64_2 < a1_0) = false:=decide_eq_false c45
           clear c45
           have H':=Aside0.mk H
           clear H
           go_wp2
           go_roundg k2
           case measure=>have:=HK1.out;have:=HK2.out;omega
           case rel=>exact ⟨(wrap64 (x59_1 + 1)),(x177002_2),(x177004_2),(u177002),(by first|rfl|(simp;done)|(simp [*];done)),H',⟨by have:=HK1.out;have:=HK2.out;omega⟩,⟨by (with_reducible repeat (first|apply Kd.S_alloc|apply Kd.S_drewN|apply Kd.S_drew));exact HO_177002.out⟩,⟨by (with_reducible repeat (first|refine blk_drewN ?_ _|refine blk_drew ?_|refine blk_alloc ?_ _));exact BK171.out⟩,⟨by (with_reducible repeat (first|refine blk_drewN ?_ _|refine blk_drew ?_|refine blk_alloc ?_ _));exact BK172.out⟩,⟨by (with_reducible repeat (first|refine blk_drewN ?_ _|refine blk_drew ?_|refine blk_alloc ?_ _));exact BK173.out⟩,⟨by (with_reducible repeat (first|refine blk_drewN ?_ _|refine blk_drew ?_|refine blk_alloc ?_ _));exact BK176.out⟩,⟨by repeat (first|(with_reducible first|exact HB.out|apply below_alloc|apply pw_below_drewN|apply below_drew1|refine below_set ?_ GE171.out|refine below_set ?_ GE172.out|refine below_set ?_ GE173.out|refine below_set ?_ GE176.out)|exact HB.out)⟩⟩
       ·rw [if_neg c40] at H
        have c40b0 : decide (x59_1 < a0_0) = false:=decide_eq_false c40
        clear c40
        simp only [Option.some.injEq,Prod.mk.injEq] at H
        obtain ⟨rfl,rfl,rfl,rfl,rfl,rfl⟩:=H
        have hnb94:=NB176_171.out
        have hnc94:=NB171_176.out
        have hnb95:=NB176_172.out
        have hnc95:=NB172_176.out
        have hnb96:=NB176_173.out
        have hnc96:=NB173_176.out
        have hcz97_0 : wr.cell? ⟨gb176,0,none⟩ = some (.int .i64 (wrap64 (a0_0 * a1_0))):=(blk_cell BK176.out 0).trans rfl
        have hcz97_1 : wr.cell? ⟨gb176,1,none⟩ = some (.int .i64 a0_1):=(blk_cell BK176.out 1).trans rfl
        have hcz97_2 : wr.cell? ⟨gb176,2,none⟩ = some (u177002):=(blk_cell BK176.out 2).trans rfl
        have hcz97_3 : wr.cell? ⟨gb176,3,none⟩ = some (.int .i64 (wrap64 ((wrap64 (a0_5 * a1_0)) + a1_3))):=(blk_cell BK176.out 3).trans rfl
        have hcz97_4 : wr.cell? ⟨gb176,4,none⟩ = some (.int .u32 x177004_1):=(blk_cell BK176.out 4).trans rfl
        have hfz97_0:=blk_frozen BK176.out 0
        have hfz97_1:=blk_frozen BK176.out 1
        have hfz97_2:=blk_frozen BK176.out 2
        have hfz97_3:=blk_frozen BK176.out 3
        have hfz97_4:=blk_frozen BK176.out 4
        have hnb98:=NB173_171.out
        have hnc98:=NB171_173.out
        have hnb99:=NB173_172.out
        have hnc99:=NB172_173.out
        have hcz100_0 : wr.cell? ⟨gb173,0,none⟩ = some (.int .i64 0):=(blk_cell BK173.out 0).trans rfl
        have hcz100_1 : wr.cell? ⟨gb173,1,none⟩ = some (.int .i64 0):=(blk_cell BK173.out 1).trans rfl
        have hcz100_2 : wr.cell? ⟨gb173,2,none⟩ = some (.slice none 0 0):=(blk_cell BK173.out 2).trans rfl
        have hcz100_3 : wr.cell? ⟨gb173,3,none⟩ = some (.int .i64 0):=(blk_cell BK173.out 3).trans rfl
        have hcz100_4 : wr.cell? ⟨gb173,4,none⟩ = some (.int .u32 0):=(blk_cell BK173.out 4).trans rfl
        have hfz100_0:=blk_frozen BK173.out 0
        have hfz100_1:=blk_frozen BK173.out 1
        have hfz100_2:=blk_frozen BK173.out 2
        have hfz100_3:=blk_frozen BK173.out 3
        have hfz100_4:=blk_frozen BK173.out 4
        obtain ⟨Ao101,co101,eo101⟩:=Kd.S_slice HO_177002.out
        subst eo101
        go_wp2
        refine bodyPost_ret (results_ct rfl _ _ gb173 37 #[.int .i64 (wrap64 (a0_0 * a1_0)),.int .i64 a0_1,.slice Ao101 x177002_1.length co101,.int .i64 (wrap64 ((wrap64 (a0_5 * a1_0)) + a1_3)),.int .u32 x177004_1] (0,0) _ rfl (by (with_reducible repeat (first|refine blk_drewN ?_ _|refine blk_drew ?_|refine blk_alloc ?_ _));refine blk_put (cs:=#[.int .i64 (wrap64 (a0_0 * a1_0)),.int .i64 a0_1,.slice Ao101 x177002_1.length co101,.int .i64 (wrap64 ((wrap64 (a0_5 * a1_0)) + a1_3)),.int .u32 0]) ?_ 4 _ rfl;(with_reducible repeat (first|refine blk_drewN ?_ _|refine blk_drew ?_|refine blk_alloc ?_ _));refine blk_put (cs:=#[.int .i64 (wrap64 (a0_0 * a1_0)),.int .i64 a0_1,.slice Ao101 x177002_1.length co101,.int .i64 0,.int .u32 0]) ?_ 3 _ rfl;(with_reducible repeat (first|refine blk_drewN ?_ _|refine blk_drew ?_|refine blk_alloc ?_ _));refine blk_put (cs:=#[.int .i64 (wrap64 (a0_0 * a1_0)),.int .i64 a0_1,.slice none 0 0,.int .i64 0,.int .u32 0]) ?_ 2 _ rfl;(with_reducible repeat (first|refine blk_drewN ?_ _|refine blk_drew ?_|refine blk_alloc ?_ _));refine blk_put (cs:=#[.int .i64 (wrap64 (a0_0 * a1_0)),.int .i64 0,.slice none 0 0,.int .i64 0,.int .u32 0]) ?_ 1 _ rfl;(with_reducible repeat (first|refine blk_drewN ?_ _|refine blk_drew ?_|refine blk_alloc ?_ _));refine blk_put (cs:=#[.int .i64 0,.int .i64 0,.slice none 0 0,.int .i64 0,.int .u32 0]) ?_ 0 _ rfl;(with_reducible repeat (first|refine blk_drewN ?_ _|refine blk_drew ?_|refine blk_alloc ?_ _));exact BK173.out) Try.underlying37 rfl (by kernel_rfl)) rfl ?_
        exact ⟨_,by first|rfl|(simp [errW_none,errW_some] <;> rfl)|(simp [*,errW_none,errW_some] <;> rfl),by (with_reducible repeat (first|apply Kd.S_alloc|apply Kd.S_drewN|apply Kd.S_drew));exact Kd.S_mono (Kd.S_far (p:=⟨gb173,4,none⟩) (Kd.S_far (p:=⟨gb173,3,none⟩) (Kd.S_far (p:=⟨gb173,2,none⟩) (Kd.S_far (p:=⟨gb173,1,none⟩) (Kd.S_far (p:=⟨gb173,0,none⟩) (Kd.S_types HO_177002.out BK173.out (by decide)) (fun _ hk=>hk.2) (.int .i64 (wrap64 (a0_0 * a1_0)))) (fun _ hk=>hk.2) (.int .i64 a0_1)) (fun _ hk=>hk.2) (.slice Ao101 x177002_1.length co101)) (fun _ hk=>hk.2) (.int .i64 (wrap64 ((wrap64 (a0_5 * a1_0)) + a1_3)))) (fun _ hk=>hk.2) (.int .u32 x177004_1)) (fun _ hk=>trivial),by repeat (first|(with_reducible first|exact HB.out|apply below_alloc|apply pw_below_drewN|apply below_drew1|refine below_set ?_ GE171.out|refine below_set ?_ GE172.out|refine below_set ?_ GE173.out|refine below_set ?_ GE176.out)|exact HB.out)⟩
   ·rw [if_neg c7] at H
    have c7b0 : (a0_2 == a1_1) = false:=beq_eq_false_iff_ne.mpr c7
    have c7b1 : (a0_2 != a1_1) = true:=bne_iff_ne.mpr c7
    simp only [Option.some.injEq,Prod.mk.injEq] at H
    obtain ⟨rfl,rfl,rfl,rfl,rfl,rfl⟩:=H
    go_enter Try.func30,Try.ntmps30
    go_wp2_with (first|((with_reducible refine gate_dst (N:=2) rfl ?_);refine box_event ?hg (N:=2) ?hd (cs:=#[.int .i64 a0_0,.int .i64 a0_1,.int .i64 a0_2,.slice A0_3 l0_3.length c0_3,.slice A0_4 l0_4.length c0_4,.int .i64 a0_5]) (t:=50) ?hr ?_;(case hd=>rfl);(case hg=>rfl);(case hr=>first|(go_simp;done)|(go_simp;rfl));intro gb171 hg w102 hbox hb;have n0_:=Aside0.mk (below_step (by repeat (first|(with_reducible first|exact HB.out|apply below_alloc|apply pw_below_drewN|apply below_drew1)|exact HB.out)) hb);have n1_:=Aside0.mk (hbox);have n2_:=Aside0.mk ((by rw [hg];exact (below_size (by repeat (first|(with_reducible first|exact HB.out|apply below_alloc|apply pw_below_drewN|apply below_drew1)|exact HB.out))) : w.heap.size ≤ gb171));have n3_:=Aside0.mk ((by rw [hg];exact (below_size (by repeat (first|(with_reducible first|exact HB.out|apply below_alloc|apply pw_below_drewN|apply below_drew1)|exact HB.out))) : w.heap.size ≤ gb171));clear HB;have HB:=n0_;have BK171:=n1_;have GW171:=n2_;have GE171:=n3_;clear n0_ n1_ n2_ n3_;clear hb hbox hg)|((with_reducible refine gate_dst (N:=3) rfl ?_);refine box_event ?hg (N:=3) ?hd (cs:=#[.int .i64 a1_0,.int .i64 a1_1,.slice A1_2 l1_2.length c1_2,.int .i64 a1_3,.int .u32 a1_4]) (t:=37) ?hr ?_;(case hd=>rfl);(case hg=>rfl);(case hr=>first|(go_simp;done)|(go_simp;rfl));intro gb172 hg w103 hbox hb;have n0_:=Aside0.mk (blk_below (g:=gb171) (o:=.cells #[.int .i64 a0_0,.int .i64 a0_1,.int .i64 a0_2,.slice A0_3 l0_3.length c0_3,.slice A0_4 l0_4.length c0_4,.int .i64 a0_5] 50 (0,0)) (by (with_reducible repeat (first|refine blk_drewN ?_ _|refine blk_drew ?_|refine blk_alloc ?_ _));exact BK171.out) hb);have n1_:=Aside0.mk (below_step (by repeat (first|(with_reducible first|exact HB.out|apply below_alloc|apply pw_below_drewN|apply below_drew1|refine below_set ?_ GE171.out)|exact HB.out)) hb);have n2_:=Aside0.mk (hbox);have n3_:=Aside0.mk ((by rw [hg];exact (below_size (by repeat (first|(with_reducible first|exact HB.out|apply below_alloc|apply pw_below_drewN|apply below_drew1|refine below_set ?_ GE171.out)|exact HB.out))) : w.heap.size ≤ gb172));have n4_:=Aside0.mk ((by rw [hg];exact (below_size (by repeat (first|(with_reducible first|exact HB.out|apply below_alloc|apply pw_below_drewN|apply below_drew1|refine below_set ?_ GE171.out)|exact HB.out))) : w.heap.size ≤ gb172));have n5_:=Aside0.mk ((by rw [hg];exact Nat.ne_of_lt (blk_lt (g:=gb171) (o:=.cells #[.int .i64 a0_0,.int .i64 a0_1,.int .i64 a0_2,.slice A0_3 l0_3.length c0_3,.slice A0_4 l0_4.length c0_4,.int .i64 a0_5] 50 (0,0)) (by (with_reducible repeat (first|refine blk_drewN ?_ _|refine blk_drew ?_|refine blk_alloc ?_ _));exact BK171.out)) : gb171 ≠ gb172));have n6_:=Aside0.mk ((by rw [hg];exact Nat.ne_of_gt (blk_lt (g:=gb171) (o:=.cells #[.int .i64 a0_0,.int .i64 a0_1,.int .i64 a0_2,.slice A0_3 l0_3.length c0_3,.slice A0_4 l0_4.length c0_4,.int .i64 a0_5] 50 (0,0)) (by (with_reducible repeat (first|refine blk_drewN ?_ _|refine blk_drew ?_|refine blk_alloc ?_ _));exact BK171.out)) : gb172 ≠ gb171));clear BK171;clear HB;have BK171:=n0_;have HB:=n1_;have BK172:=n2_;have GW172:=n3_;have GE172:=n4_;have NB171_172:=n5_;have NB172_171:=n6_;clear n0_ n1_ n2_ n3_ n4_ n5_ n6_;clear hb hbox hg)|((with_reducible refine gate_dst (N:=4) rfl ?_);refine box_event ?hg (N:=4) ?hd (cs:=#[.int .i64 0,.int .i64 0,.slice none 0 0,.int .i64 0,.int .u32 0]) (t:=37) ?hr ?_;(case hd=>rfl);(case hg=>rfl);(case hr=>first|(go_simp;done)|(go_simp;rfl));intro gb173 hg w104 hbox hb;have n0_:=Aside0.mk (blk_below (g:=gb171) (o:=.cells #[.int .i64 a0_0,.int .i64 a0_1,.int .i64 a0_2,.slice A0_3 l0_3.length c0_3,.slice A0_4 l0_4.length c0_4,.int .i64 a0_5] 50 (0,0)) (by (with_reducible repeat (first|refine blk_drewN ?_ _|refine blk_drew ?_|refine blk_alloc ?_ _));exact BK171.out) hb);have n1_:=Aside0.mk (blk_below (g:=gb172) (o:=.cells #[.int .i64 a1_0,.int .i64 a1_1,.slice A1_2 l1_2.length c1_2,.int .i64 a1_3,.int .u32 a1_4] 37 (0,0)) (by (with_reducible repeat (first|refine blk_drewN ?_ _|refine blk_drew ?_|refine blk_alloc ?_ _));exact BK172.out) hb);have n2_:=Aside0.mk (below_step (by repeat (first|(with_reducible first|exact HB.out|apply below_alloc|apply pw_below_drewN|apply below_drew1|refine below_set ?_ GE171.out|refine below_set ?_ GE172.out)|exact HB.out)) hb);have n3_:=Aside0.mk (hbox);have n4_:=Aside0.mk ((by rw [hg];exact (below_size (by repeat (first|(with_reducible first|exact HB.out|apply below_alloc|apply pw_below_drewN|apply below_drew1|refine below_set ?_ GE171.out|refine below_set ?_ GE172.out)|exact HB.out))) : w.heap.size ≤ gb173));have n5_:=Aside0.mk ((by rw [hg];exact (below_size (by repeat (first|(with_reducible first|exact HB.out|apply below_alloc|apply pw_below_drewN|apply below_drew1|refine below_set ?_ GE171.out|refine below_set ?_ GE172.out)|exact HB.out))) : w.heap.size ≤ gb173));have n6_:=Aside0.mk ((by rw [hg];exact Nat.ne_of_lt (blk_lt (g:=gb171) (o:=.cells #[.int .i64 a0_0,.int .i64 a0_1,.int .i64 a0_2,.slice A0_3 l0_3.length c0_3,.slice A0_4 l0_4.length c0_4,.int .i64 a0_5] 50 (0,0)) (by (with_reducible repeat (first|refine blk_drewN ?_ _|refine blk_drew ?_|refine blk_alloc ?_ _));exact BK171.out)) : gb171 ≠ gb173));have n7_:=Aside0.mk ((by rw [hg];exact Nat.ne_of_gt (blk_lt (g:=gb171) (o:=.cells #[.int .i64 a0_0,.int .i64 a0_1,.int .i64 a0_2,.slice A0_3 l0_3.length c0_3,.slice A0_4 l0_4.length c0_4,.int .i64 a0_5] 50 (0,0)) (by (with_reducible repeat (first|refine blk_drewN ?_ _|refine blk_drew ?_|refine blk_alloc ?_ _));exact BK171.out)) : gb173 ≠ gb171));have n8_:=Aside0.mk ((by rw [hg];exact Nat.ne_of_lt (blk_lt (g:=gb172) (o:=.cells #[.int .i64 a1_0,.int .i64 a1_1,.slice A1_2 l1_2.length c1_2,.int .i64 a1_3,.int .u32 a1_4] 37 (0,0)) (by (with_reducible repeat (first|refine blk_drewN ?_ _|refine blk_drew ?_|refine blk_alloc ?_ _));exact BK172.out)) : gb172 ≠ gb173));have n9_:=Aside0.mk ((by rw [hg];exact Nat.ne_of_gt (blk_lt (g:=gb172) (o:=.cells #[.int .i64 a1_0,.int .i64 a1_1,.slice A1_2 l1_2.length c1_2,.int .i64 a1_3,.int .u32 a1_4] 37 (0,0)) (by (with_reducible repeat (first|refine blk_drewN ?_ _|refine blk_drew ?_|refine blk_alloc ?_ _));exact BK172.out)) : gb173 ≠ gb172));clear BK171;clear BK172;clear HB;have BK171:=n0_;have BK172:=n1_;have HB:=n2_;have BK173:=n3_;have GW173:=n4_;have GE173:=n5_;have NB171_173:=n6_;have NB173_171:=n7_;have NB172_173:=n8_;have NB173_172:=n9_;clear n0_ n1_ n2_ n3_ n4_ n5_ n6_ n7_ n8_ n9_;clear hb hbox hg;have hnb105:=NB171_172.out;have hnc105:=NB172_171.out;have hnb106:=NB171_173.out;have hnc106:=NB173_171.out;have hcz107_0 : w104.cell? ⟨gb171,0,none⟩ = some (.int .i64 a0_0):=(blk_cell BK171.out 0).trans rfl;have hcz107_1 : w104.cell? ⟨gb171,1,none⟩ = some (.int .i64 a0_1):=(blk_cell BK171.out 1).trans rfl;have hcz107_2 : w104.cell? ⟨gb171,2,none⟩ = some (.int .i64 a0_2):=(blk_cell BK171.out 2).trans rfl;have hcz107_3 : w104.cell? ⟨gb171,3,none⟩ = some (.slice A0_3 l0_3.length c0_3):=(blk_cell BK171.out 3).trans rfl;have hcz107_4 : w104.cell? ⟨gb171,4,none⟩ = some (.slice A0_4 l0_4.length c0_4):=(blk_cell BK171.out 4).trans rfl;have hcz107_5 : w104.cell? ⟨gb171,5,none⟩ = some (.int .i64 a0_5):=(blk_cell BK171.out 5).trans rfl;have hfz107_0:=blk_frozen BK171.out 0;have hfz107_1:=blk_frozen BK171.out 1;have hfz107_2:=blk_frozen BK171.out 2;have hfz107_3:=blk_frozen BK171.out 3;have hfz107_4:=blk_frozen BK171.out 4;have hfz107_5:=blk_frozen BK171.out 5)|((with_reducible refine gate_callee (f:=46) rfl ?_);refine goesL_ (some 17) rfl rfl Try.func46 (by kernel_rfl) rfl #[.agg #[.int .i64 a0_0,.int .i64 a0_1,.int .i64 a0_2,.slice A0_3 l0_3.length c0_3,.slice A0_4 l0_4.length c0_4,.int .i64 a0_5]] rfl (by (try simp only [List.map_toArray,List.map_cons,List.map_nil]);first|done|rfl|(simp only [List.length_drop,List.length_take];rfl)) ?_;(with_reducible refine (turner_Check.calls k a0_0 a0_1 a0_2 _ _ l0_3 _ _ l0_4 a0_5 t174 _ ?side1 ?side2 ?side3 ?side4 A3.out).mono ?_);(case side1=>repeat (first|exact (Kd.C_below HR0_3.out HB.out)|(with_reducible refine Kd.C_alloc ?_ _)|(with_reducible refine Kd.C_drewN ?_ _)|(with_reducible refine Kd.C_drew ?_)));(case side2=>exact HC0_3.out);(case side3=>repeat (first|exact (Kd.C_below HR0_4.out HB.out)|(with_reducible refine Kd.C_alloc ?_ _)|(with_reducible refine Kd.C_drewN ?_ _)|(with_reducible refine Kd.C_drew ?_)));(case side4=>exact HC0_4.out);rintro e w108 ⟨rfl,hb⟩;refine ⟨_,rfl,?_⟩;have n0_:=Aside0.mk (blk_below (g:=gb171) (o:=.cells #[.int .i64 a0_0,.int .i64 a0_1,.int .i64 a0_2,.slice A0_3 l0_3.length c0_3,.slice A0_4 l0_4.length c0_4,.int .i64 a0_5] 50 (0,0)) (by (with_reducible repeat (first|refine blk_drewN ?_ _|refine blk_drew ?_|refine blk_alloc ?_ _));exact BK171.out) hb);have n1_:=Aside0.mk (blk_below (g:=gb172) (o:=.cells #[.int .i64 a1_0,.int .i64 a1_1,.slice A1_2 l1_2.length c1_2,.int .i64 a1_3,.int .u32 a1_4] 37 (0,0)) (by (with_reducible repeat (first|refine blk_drewN ?_ _|refine blk_drew ?_|refine blk_alloc ?_ _));exact BK172.out) hb);have n2_:=Aside0.mk (blk_below (g:=gb173) (o:=.cells #[.int .i64 0,.int .i64 0,.slice none 0 0,.int .i64 0,.int .u32 0] 37 (0,0)) (by (with_reducible repeat (first|refine blk_drewN ?_ _|refine blk_drew ?_|refine blk_alloc ?_ _));exact BK173.out) hb);have n3_:=Aside0.mk (below_step (by repeat (first|(with_reducible first|exact HB.out|apply below_alloc|apply pw_below_drewN|apply below_drew1|refine below_set ?_ GE171.out|refine below_set ?_ GE172.out|refine below_set ?_ GE173.out)|exact HB.out)) hb);clear BK171;clear BK172;clear BK173;clear HB;have BK171:=n0_;have BK172:=n1_;have BK173:=n2_;have HB:=n3_;clear n0_ n1_ n2_ n3_;(try clear hb);(try clear hb2);(try clear hk);(try clear hi);have hnb109:=NB172_173.out;have hnc109:=NB173_172.out;have hcz110_0 : w108.cell? ⟨gb172,0,none⟩ = some (.int .i64 a1_0):=(blk_cell BK172.out 0).trans rfl;have hcz110_1 : w108.cell? ⟨gb172,1,none⟩ = some (.int .i64 a1_1):=(blk_cell BK172.out 1).trans rfl;have hcz110_2 : w108.cell? ⟨gb172,2,none⟩ = some (.slice A1_2 l1_2.length c1_2):=(blk_cell BK172.out 2).trans rfl;have hcz110_3 : w108.cell? ⟨gb172,3,none⟩ = some (.int .i64 a1_3):=(blk_cell BK172.out 3).trans rfl;have hcz110_4 : w108.cell? ⟨gb172,4,none⟩ = some (.int .u32 a1_4):=(blk_cell BK172.out 4).trans rfl;have hfz110_0:=blk_frozen BK172.out 0;have hfz110_1:=blk_frozen BK172.out 1;have hfz110_2:=blk_frozen BK172.out 2;have hfz110_3:=blk_frozen BK172.out 3;have hfz110_4:=blk_frozen BK172.out 4)|((with_reducible refine gate_callee (f:=44) rfl ?_);refine goesL_ (some 23) rfl rfl Try.func44 (by kernel_rfl) rfl #[.agg #[.int .i64 a1_0,.int .i64 a1_1,.slice A1_2 l1_2.length c1_2,.int .i64 a1_3,.int .u32 a1_4]] rfl (by (try simp only [List.map_toArray,List.map_cons,List.map_nil]);first|done|rfl|(simp only [List.length_drop,List.length_take];rfl)) ?_;(with_reducible refine (machine_Check.calls k a1_0 a1_1 _ _ l1_2 a1_3 a1_4 t175 _ ?side1 ?side2 A5.out).mono ?_);(case side1=>repeat (first|exact (Kd.C_below HR1_2.out HB.out)|(with_reducible refine Kd.C_alloc ?_ _)|(with_reducible refine Kd.C_drewN ?_ _)|(with_reducible refine Kd.C_drew ?_)));(case side2=>exact HC1_2.out);rintro e w111 ⟨rfl,hb⟩;refine ⟨_,rfl,?_⟩;have n0_:=Aside0.mk (blk_below (g:=gb171) (o:=.cells #[.int .i64 a0_0,.int .i64 a0_1,.int .i64 a0_2,.slice A0_3 l0_3.length c0_3,.slice A0_4 l0_4.length c0_4,.int .i64 a0_5] 50 (0,0)) (by (with_reducible repeat (first|refine blk_drewN ?_ _|refine blk_drew ?_|refine blk_alloc ?_ _));exact BK171.out) hb);have n1_:=Aside0.mk (blk_below (g:=gb172) (o:=.cells #[.int .i64 a1_0,.int .i64 a1_1,.slice A1_2 l1_2.length c1_2,.int .i64 a1_3,.int .u32 a1_4] 37 (0,0)) (by (with_reducible repeat (first|refine blk_drewN ?_ _|refine blk_drew ?_|refine blk_alloc ?_ _));exact BK172.out) hb);have n2_:=Aside0.mk (blk_below (g:=gb173) (o:=.cells #[.int .i64 0,.int .i64 0,.slice none 0 0,.int .i64 0,.int .u32 0] 37 (0,0)) (by (with_reducible repeat (first|refine blk_drewN ?_ _|refine blk_drew ?_|refine blk_alloc ?_ _));exact BK173.out) hb);have n3_:=Aside0.mk (below_step (by repeat (first|(with_reducible first|exact HB.out|apply below_alloc|apply pw_below_drewN|apply below_drew1|refine below_set ?_ GE171.out|refine below_set ?_ GE172.out|refine below_set ?_ GE173.out)|exact HB.out)) hb);clear BK171;clear BK172;clear BK173;clear HB;have BK171:=n0_;have BK172:=n1_;have BK173:=n2_;have HB:=n3_;clear n0_ n1_ n2_ n3_;(try clear hb);(try clear hb2);(try clear hk);(try clear hi);have hcz112_0 : w111.cell? ⟨gb171,0,none⟩ = some (.int .i64 a0_0):=(blk_cell BK171.out 0).trans rfl;have hcz112_1 : w111.cell? ⟨gb171,1,none⟩ = some (.int .i64 a0_1):=(blk_cell BK171.out 1).trans rfl;have hcz112_2 : w111.cell? ⟨gb171,2,none⟩ = some (.int .i64 a0_2):=(blk_cell BK171.out 2).trans rfl;have hcz112_3 : w111.cell? ⟨gb171,3,none⟩ = some (.slice A0_3 l0_3.length c0_3):=(blk_cell BK171.out 3).trans rfl;have hcz112_4 : w111.cell? ⟨gb171,4,none⟩ = some (.slice A0_4 l0_4.length c0_4):=(blk_cell BK171.out 4).trans rfl;have hcz112_5 : w111.cell? ⟨gb171,5,none⟩ = some (.int .i64 a0_5):=(blk_cell BK171.out 5).trans rfl;have hfz112_0:=blk_frozen BK171.out 0;have hfz112_1:=blk_frozen BK171.out 1;have hfz112_2:=blk_frozen BK171.out 2;have hfz112_3:=blk_frozen BK171.out 3;have hfz112_4:=blk_frozen BK171.out 4;have hfz112_5:=blk_frozen BK171.out 5;have hcz113_0 : w111.cell? ⟨gb172,0,none⟩ = some (.int .i64 a1_0):=(blk_cell BK172.out 0).trans rfl;have hcz113_1 : w111.cell? ⟨gb172,1,none⟩ = some (.int .i64 a1_1):=(blk_cell BK172.out 1).trans rfl;have hcz113_2 : w111.cell? ⟨gb172,2,none⟩ = some (.slice A1_2 l1_2.length c1_2):=(blk_cell BK172.out 2).trans rfl;have hcz113_3 : w111.cell? ⟨gb172,3,none⟩ = some (.int .i64 a1_3):=(blk_cell BK172.out 3).trans rfl;have hcz113_4 : w111.cell? ⟨gb172,4,none⟩ = some (.int .u32 a1_4):=(blk_cell BK172.out 4).trans rfl;have hfz113_0:=blk_frozen BK172.out 0;have hfz113_1:=blk_frozen BK172.out 1;have hfz113_2:=blk_frozen BK172.out 2;have hfz113_3:=blk_frozen BK172.out 3;have hfz113_4:=blk_frozen BK172.out 4;have hcz114_0 : w111.cell? ⟨gb173,0,none⟩ = some (.int .i64 0):=(blk_cell BK173.out 0).trans rfl;have hcz114_1 : w111.cell? ⟨gb173,1,none⟩ = some (.int .i64 0):=(blk_cell BK173.out 1).trans rfl;have hcz114_2 : w111.cell? ⟨gb173,2,none⟩ = some (.slice none 0 0):=(blk_cell BK173.out 2).trans rfl;have hcz114_3 : w111.cell? ⟨gb173,3,none⟩ = some (.int .i64 0):=(blk_cell BK173.out 3).trans rfl;have hcz114_4 : w111.cell? ⟨gb173,4,none⟩ = some (.int .u32 0):=(blk_cell BK173.out 4).trans rfl;have hfz114_0:=blk_frozen BK173.out 0;have hfz114_1:=blk_frozen BK173.out 1;have hfz114_2:=blk_frozen BK173.out 2;have hfz114_3:=blk_frozen BK173.out 3;have hfz114_4:=blk_frozen BK173.out 4))
    refine bodyPost_ret (results_ct rfl _ _ gb173 37 #[.int .i64 0,.int .i64 0,.slice none 0 0,.int .i64 0,.int .u32 0] (0,0) _ rfl (by (with_reducible repeat (first|refine blk_drewN ?_ _|refine blk_drew ?_|refine blk_alloc ?_ _));refine blk_put (cs:=#[.int .i64 0,.int .i64 0,.slice none 0 0,.int .i64 0,.int .u32 0]) ?_ 4 _ rfl;(with_reducible repeat (first|refine blk_drewN ?_ _|refine blk_drew ?_|refine blk_alloc ?_ _));refine blk_put (cs:=#[.int .i64 0,.int .i64 0,.slice none 0 0,.int .i64 0,.int .u32 0]) ?_ 3 _ rfl;(with_reducible repeat (first|refine blk_drewN ?_ _|refine blk_drew ?_|refine blk_alloc ?_ _));refine blk_put (cs:=#[.int .i64 0,.int .i64 0,.slice none 0 0,.int .i64 0,.int .u32 0]) ?_ 2 _ rfl;(with_reducible repeat (first|refine blk_drewN ?_ _|refine blk_drew ?_|refine blk_alloc ?_ _));refine blk_put (cs:=#[.int .i64 0,.int .i64 0,.slice none 0 0,.int .i64 0,.int .u32 0]) ?_ 1 _ rfl;(with_reducible repeat (first|refine blk_drewN ?_ _|refine blk_drew ?_|refine blk_alloc ?_ _));refine blk_put (cs:=#[.int .i64 0,.int .i64 0,.slice none 0 0,.int .i64 0,.int .u32 0]) ?_ 0 _ rfl;(with_reducible repeat (first|refine blk_drewN ?_ _|refine blk_drew ?_|refine blk_alloc ?_ _));exact BK173.out) Try.underlying37 rfl (by kernel_rfl)) rfl ?_
    exact ⟨_,by first|rfl|(simp [errW_none,errW_some] <;> rfl)|(simp [*,errW_none,errW_some] <;> rfl),by first|exact Kd.S_nil _ _ _ _ _|exact Kd.N_nil _ _ _ _ _|exact Kd.V_nil _ _ _ _ _|exact Kd.Q_nil _ _ _ _ _|exact Kd.R_nil _ _ _ _ _,by repeat (first|(with_reducible first|exact HB.out|apply below_alloc|apply pw_below_drewN|apply below_drew1|refine below_set ?_ GE171.out|refine below_set ?_ GE172.out|refine below_set ?_ GE173.out)|exact HB.out)⟩
  ·rw [if_neg c6] at H
   have c6b0 : (t175 == 0) = false:=beq_eq_false_iff_ne.mpr c6
   have c6b1 : (t175 != 0) = true:=bne_iff_ne.mpr c6
   simp only [Option.some.injEq,Prod.mk.injEq] at H
   obtain ⟨rfl,rfl,rfl,rfl,rfl,rfl⟩:=H
   go_enter Try.func30,Try.ntmps30
   go_wp2_with (first|((with_reducible refine gate_dst (N:=2) rfl ?_);refine box_event ?hg (N:=2) ?hd (cs:=#[.int .i64 a0_0,.int .i64 a0_1,.int .i64 a0_2,.slice A0_3 l0_3.length c0_3,.slice A0_4 l0_4.length c0_4,.int .i64 a0_5]) (t:=50) ?hr ?_;(case hd=>rfl);(case hg=>rfl);(case hr=>first|(go_simp;done)|(go_simp;rfl));intro gb171 hg w115 hbox hb;have n0_:=Aside0.mk (below_step (by repeat (first|(with_reducible first|exact HB.out|apply below_alloc|apply pw_below_drewN|apply below_drew1)|exact HB.out)) hb);have n1_:=Aside0.mk (hbox);have n2_:=Aside0.mk ((by rw [hg];exact (below_size (by repeat (first|(with_reducible first|exact HB.out|apply below_alloc|apply pw_below_drewN|apply below_drew1)|exact HB.out))) : w.heap.size ≤ gb171));have n3_:=Aside0.mk ((by rw [hg];exact (below_size (by repeat (first|(with_reducible first|exact HB.out|apply below_alloc|apply pw_below_drewN|apply below_drew1)|exact HB.out))) : w.heap.size ≤ gb171));clear HB;have HB:=n0_;have BK171:=n1_;have GW171:=n2_;have GE171:=n3_;clear n0_ n1_ n2_ n3_;clear hb hbox hg)|((with_reducible refine gate_dst (N:=3) rfl ?_);refine box_event ?hg (N:=3) ?hd (cs:=#[.int .i64 a1_0,.int .i64 a1_1,.slice A1_2 l1_2.length c1_2,.int .i64 a1_3,.int .u32 a1_4]) (t:=37) ?hr ?_;(case hd=>rfl);(case hg=>rfl);(case hr=>first|(go_simp;done)|(go_simp;rfl));intro gb172 hg w116 hbox hb;have n0_:=Aside0.mk (blk_below (g:=gb171) (o:=.cells #[.int .i64 a0_0,.int .i64 a0_1,.int .i64 a0_2,.slice A0_3 l0_3.length c0_3,.slice A0_4 l0_4.length c0_4,.int .i64 a0_5] 50 (0,0)) (by (with_reducible repeat (first|refine blk_drewN ?_ _|refine blk_drew ?_|refine blk_alloc ?_ _));exact BK171.out) hb);have n1_:=Aside0.mk (below_step (by repeat (first|(with_reducible first|exact HB.out|apply below_alloc|apply pw_below_drewN|apply below_drew1|refine below_set ?_ GE171.out)|exact HB.out)) hb);have n2_:=Aside0.mk (hbox);have n3_:=Aside0.mk ((by rw [hg];exact (below_size (by repeat (first|(with_reducible first|exact HB.out|apply below_alloc|apply pw_below_drewN|apply below_drew1|refine below_set ?_ GE171.out)|exact HB.out))) : w.heap.size ≤ gb172));have n4_:=Aside0.mk ((by rw [hg];exact (below_size (by repeat (first|(with_reducible first|exact HB.out|apply below_alloc|apply pw_below_drewN|apply below_drew1|refine below_set ?_ GE171.out)|exact HB.out))) : w.heap.size ≤ gb172));have n5_:=Aside0.mk ((by rw [hg];exact Nat.ne_of_lt (blk_lt (g:=gb171) (o:=.cells #[.int .i64 a0_0,.int .i64 a0_1,.int .i64 a0_2,.slice A0_3 l0_3.length c0_3,.slice A0_4 l0_4.length c0_4,.int .i64 a0_5] 50 (0,0)) (by (with_reducible repeat (first|refine blk_drewN ?_ _|refine blk_drew ?_|refine blk_alloc ?_ _));exact BK171.out)) : gb171 ≠ gb172));have n6_:=Aside0.mk ((by rw [hg];exact Nat.ne_of_gt (blk_lt (g:=gb171) (o:=.cells #[.int .i64 a0_0,.int .i64 a0_1,.int .i64 a0_2,.slice A0_3 l0_3.length c0_3,.slice A0_4 l0_4.length c0_4,.int .i64 a0_5] 50 (0,0)) (by (with_reducible repeat (first|refine blk_drewN ?_ _|refine blk_drew ?_|refine blk_alloc ?_ _));exact BK171.out)) : gb172 ≠ gb171));clear BK171;clear HB;have BK171:=n0_;have HB:=n1_;have BK172:=n2_;have GW172:=n3_;have GE172:=n4_;have NB171_172:=n5_;have NB172_171:=n6_;clear n0_ n1_ n2_ n3_ n4_ n5_ n6_;clear hb hbox hg)|((with_reducible refine gate_dst (N:=4) rfl ?_);refine box_event ?hg (N:=4) ?hd (cs:=#[.int .i64 0,.int .i64 0,.slice none 0 0,.int .i64 0,.int .u32 0]) (t:=37) ?hr ?_;(case hd=>rfl);(case hg=>rfl);(case hr=>first|(go_simp;done)|(go_simp;rfl));intro gb173 hg w117 hbox hb;have n0_:=Aside0.mk (blk_below (g:=gb171) (o:=.cells #[.int .i64 a0_0,.int .i64 a0_1,.int .i64 a0_2,.slice A0_3 l0_3.length c0_3,.slice A0_4 l0_4.length c0_4,.int .i64 a0_5] 50 (0,0)) (by (with_reducible repeat (first|refine blk_drewN ?_ _|refine blk_drew ?_|refine blk_alloc ?_ _));exact BK171.out) hb);have n1_:=Aside0.mk (blk_below (g:=gb172) (o:=.cells #[.int .i64 a1_0,.int .i64 a1_1,.slice A1_2 l1_2.length c1_2,.int .i64 a1_3,.int .u32 a1_4] 37 (0,0)) (by (with_reducible repeat (first|refine blk_drewN ?_ _|refine blk_drew ?_|refine blk_alloc ?_ _));exact BK172.out) hb);have n2_:=Aside0.mk (below_step (by repeat (first|(with_reducible first|exact HB.out|apply below_alloc|apply pw_below_drewN|apply below_drew1|refine below_set ?_ GE171.out|refine below_set ?_ GE172.out)|exact HB.out)) hb);have n3_:=Aside0.mk (hbox);have n4_:=Aside0.mk ((by rw [hg];exact (below_size (by repeat (first|(with_reducible first|exact HB.out|apply below_alloc|apply pw_below_drewN|apply below_drew1|refine below_set ?_ GE171.out|refine below_set ?_ GE172.out)|exact HB.out))) : w.heap.size ≤ gb173));have n5_:=Aside0.mk ((by rw [hg];exact (below_size (by repeat (first|(with_reducible first|exact HB.out|apply below_alloc|apply pw_below_drewN|apply below_drew1|refine below_set ?_ GE171.out|refine below_set ?_ GE172.out)|exact HB.out))) : w.heap.size ≤ gb173));have n6_:=Aside0.mk ((by rw [hg];exact Nat.ne_of_lt (blk_lt (g:=gb171) (o:=.cells #[.int .i64 a0_0,.int .i64 a0_1,.int .i64 a0_2,.slice A0_3 l0_3.length c0_3,.slice A0_4 l0_4.length c0_4,.int .i64 a0_5] 50 (0,0)) (by (with_reducible repeat (first|refine blk_drewN ?_ _|refine blk_drew ?_|refine blk_alloc ?_ _));exact BK171.out)) : gb171 ≠ gb173));have n7_:=Aside0.mk ((by rw [hg];exact Nat.ne_of_gt (blk_lt (g:=gb171) (o:=.cells #[.int .i64 a0_0,.int .i64 a0_1,.int .i64 a0_2,.slice A0_3 l0_3.length c0_3,.slice A0_4 l0_4.length c0_4,.int .i64 a0_5] 50 (0,0)) (by (with_reducible repeat (first|refine blk_drewN ?_ _|refine blk_drew ?_|refine blk_alloc ?_ _));exact BK171.out)) : gb173 ≠ gb171));have n8_:=Aside0.mk ((by rw [hg];exact Nat.ne_of_lt (blk_lt (g:=gb172) (o:=.cells #[.int .i64 a1_0,.int .i64 a1_1,.slice A1_2 l1_2.length c1_2,.int .i64 a1_3,.int .u32 a1_4] 37 (0,0)) (by (with_reducible repeat (first|refine blk_drewN ?_ _|refine blk_drew ?_|refine blk_alloc ?_ _));exact BK172.out)) : gb172 ≠ gb173));have n9_:=Aside0.mk ((by rw [hg];exact Nat.ne_of_gt (blk_lt (g:=gb172) (o:=.cells #[.int .i64 a1_0,.int .i64 a1_1,.slice A1_2 l1_2.length c1_2,.int .i64 a1_3,.int .u32 a1_4] 37 (0,0)) (by (with_reducible repeat (first|refine blk_drewN ?_ _|refine blk_drew ?_|refine blk_alloc ?_ _));exact BK172.out)) : gb173 ≠ gb172));clear BK171;clear BK172;clear HB;have BK171:=n0_;have BK172:=n1_;have HB:=n2_;have BK173:=n3_;have GW173:=n4_;have GE173:=n5_;have NB171_173:=n6_;have NB173_171:=n7_;have NB172_173:=n8_;have NB173_172:=n9_;clear n0_ n1_ n2_ n3_ n4_ n5_ n6_ n7_ n8_ n9_;clear hb hbox hg;have hnb118:=NB171_172.out;have hnc118:=NB172_171.out;have hnb119:=NB171_173.out;have hnc119:=NB173_171.out;have hcz120_0 : w117.cell? ⟨gb171,0,none⟩ = some (.int .i64 a0_0):=(blk_cell BK171.out 0).trans rfl;have hcz120_1 : w117.cell? ⟨gb171,1,none⟩ = some (.int .i64 a0_1):=(blk_cell BK171.out 1).trans rfl;have hcz120_2 : w117.cell? ⟨gb171,2,none⟩ = some (.int .i64 a0_2):=(blk_cell BK171.out 2).trans rfl;have hcz120_3 : w117.cell? ⟨gb171,3,none⟩ = some (.slice A0_3 l0_3.length c0_3):=(blk_cell BK171.out 3).trans rfl;have hcz120_4 : w117.cell? ⟨gb171,4,none⟩ = some (.slice A0_4 l0_4.length c0_4):=(blk_cell BK171.out 4).trans rfl;have hcz120_5 : w117.cell? ⟨gb171,5,none⟩ = some (.int .i64 a0_5):=(blk_cell BK171.out 5).trans rfl;have hfz120_0:=blk_frozen BK171.out 0;have hfz120_1:=blk_frozen BK171.out 1;have hfz120_2:=blk_frozen BK171.out 2;have hfz120_3:=blk_frozen BK171.out 3;have hfz120_4:=blk_frozen BK171.out 4;have hfz120_5:=blk_frozen BK171.out 5)|((with_reducible refine gate_callee (f:=46) rfl ?_);refine goesL_ (some 17) rfl rfl Try.func46 (by kernel_rfl) rfl #[.agg #[.int .i64 a0_0,.int .i64 a0_1,.int .i64 a0_2,.slice A0_3 l0_3.length c0_3,.slice A0_4 l0_4.length c0_4,.int .i64 a0_5]] rfl (by (try simp only [List.map_toArray,List.map_cons,List.map_nil]);first|done|rfl|(simp only [List.length_drop,List.length_take];rfl)) ?_;(with_reducible refine (turner_Check.calls k a0_0 a0_1 a0_2 _ _ l0_3 _ _ l0_4 a0_5 t174 _ ?side1 ?side2 ?side3 ?side4 A3.out).mono ?_);(case side1=>repeat (first|exact (Kd.C_below HR0_3.out HB.out)|(with_reducible refine Kd.C_alloc ?_ _)|(with_reducible refine Kd.C_drewN ?_ _)|(with_reducible refine Kd.C_drew ?_)));(case side2=>exact HC0_3.out);(case side3=>repeat (first|exact (Kd.C_below HR0_4.out HB.out)|(with_reducible refine Kd.C_alloc ?_ _)|(with_reducible refine Kd.C_drewN ?_ _)|(with_reducible refine Kd.C_drew ?_)));(case side4=>exact HC0_4.out);rintro e w121 ⟨rfl,hb⟩;refine ⟨_,rfl,?_⟩;have n0_:=Aside0.mk (blk_below (g:=gb171) (o:=.cells #[.int .i64 a0_0,.int .i64 a0_1,.int .i64 a0_2,.slice A0_3 l0_3.length c0_3,.slice A0_4 l0_4.length c0_4,.int .i64 a0_5] 50 (0,0)) (by (with_reducible repeat (first|refine blk_drewN ?_ _|refine blk_drew ?_|refine blk_alloc ?_ _));exact BK171.out) hb);have n1_:=Aside0.mk (blk_below (g:=gb172) (o:=.cells #[.int .i64 a1_0,.int .i64 a1_1,.slice A1_2 l1_2.length c1_2,.int .i64 a1_3,.int .u32 a1_4] 37 (0,0)) (by (with_reducible repeat (first|refine blk_drewN ?_ _|refine blk_drew ?_|refine blk_alloc ?_ _));exact BK172.out) hb);have n2_:=Aside0.mk (blk_below (g:=gb173) (o:=.cells #[.int .i64 0,.int .i64 0,.slice none 0 0,.int .i64 0,.int .u32 0] 37 (0,0)) (by (with_reducible repeat (first|refine blk_drewN ?_ _|refine blk_drew ?_|refine blk_alloc ?_ _));exact BK173.out) hb);have n3_:=Aside0.mk (below_step (by repeat (first|(with_reducible first|exact HB.out|apply below_alloc|apply pw_below_drewN|apply below_drew1|refine below_set ?_ GE171.out|refine below_set ?_ GE172.out|refine below_set ?_ GE173.out)|exact HB.out)) hb);clear BK171;clear BK172;clear BK173;clear HB;have BK171:=n0_;have BK172:=n1_;have BK173:=n2_;have HB:=n3_;clear n0_ n1_ n2_ n3_;(try clear hb);(try clear hb2);(try clear hk);(try clear hi);have hnb122:=NB172_173.out;have hnc122:=NB173_172.out;have hcz123_0 : w121.cell? ⟨gb172,0,none⟩ = some (.int .i64 a1_0):=(blk_cell BK172.out 0).trans rfl;have hcz123_1 : w121.cell? ⟨gb172,1,none⟩ = some (.int .i64 a1_1):=(blk_cell BK172.out 1).trans rfl;have hcz123_2 : w121.cell? ⟨gb172,2,none⟩ = some (.slice A1_2 l1_2.length c1_2):=(blk_cell BK172.out 2).trans rfl;have hcz123_3 : w121.cell? ⟨gb172,3,none⟩ = some (.int .i64 a1_3):=(blk_cell BK172.out 3).trans rfl;have hcz123_4 : w121.cell? ⟨gb172,4,none⟩ = some (.int .u32 a1_4):=(blk_cell BK172.out 4).trans rfl;have hfz123_0:=blk_frozen BK172.out 0;have hfz123_1:=blk_frozen BK172.out 1;have hfz123_2:=blk_frozen BK172.out 2;have hfz123_3:=blk_frozen BK172.out 3;have hfz123_4:=blk_frozen BK172.out 4)|((with_reducible refine gate_callee (f:=44) rfl ?_);refine goesL_ (some 23) rfl rfl Try.func44 (by kernel_rfl) rfl #[.agg #[.int .i64 a1_0,.int .i64 a1_1,.slice A1_2 l1_2.length c1_2,.int .i64 a1_3,.int .u32 a1_4]] rfl (by (try simp only [List.map_toArray,List.map_cons,List.map_nil]);first|done|rfl|(simp only [List.length_drop,List.length_take];rfl)) ?_;(with_reducible refine (machine_Check.calls k a1_0 a1_1 _ _ l1_2 a1_3 a1_4 t175 _ ?side1 ?side2 A5.out).mono ?_);(case side1=>repeat (first|exact (Kd.C_below HR1_2.out HB.out)|(with_reducible refine Kd.C_alloc ?_ _)|(with_reducible refine Kd.C_drewN ?_ _)|(with_reducible refine Kd.C_drew ?_)));(case side2=>exact HC1_2.out);rintro e w124 ⟨rfl,hb⟩;refine ⟨_,rfl,?_⟩;have n0_:=Aside0.mk (blk_below (g:=gb171) (o:=.cells #[.int .i64 a0_0,.int .i64 a0_1,.int .i64 a0_2,.slice A0_3 l0_3.length c0_3,.slice A0_4 l0_4.length c0_4,.int .i64 a0_5] 50 (0,0)) (by (with_reducible repeat (first|refine blk_drewN ?_ _|refine blk_drew ?_|refine blk_alloc ?_ _));exact BK171.out) hb);have n1_:=Aside0.mk (blk_below (g:=gb172) (o:=.cells #[.int .i64 a1_0,.int .i64 a1_1,.slice A1_2 l1_2.length c1_2,.int .i64 a1_3,.int .u32 a1_4] 37 (0,0)) (by (with_reducible repeat (first|refine blk_drewN ?_ _|refine blk_drew ?_|refine blk_alloc ?_ _));exact BK172.out) hb);have n2_:=Aside0.mk (blk_below (g:=gb173) (o:=.cells #[.int .i64 0,.int .i64 0,.slice none 0 0,.int .i64 0,.int .u32 0] 37 (0,0)) (by (with_reducible repeat (first|refine blk_drewN ?_ _|refine blk_drew ?_|refine blk_alloc ?_ _));exact BK173.out) hb);have n3_:=Aside0.mk (below_step (by repeat (first|(with_reducible first|exact HB.out|apply below_alloc|apply pw_below_drewN|apply below_drew1|refine below_set ?_ GE171.out|refine below_set ?_ GE172.out|refine below_set ?_ GE173.out)|exact HB.out)) hb);clear BK171;clear BK172;clear BK173;clear HB;have BK171:=n0_;have BK172:=n1_;have BK173:=n2_;have HB:=n3_;clear n0_ n1_ n2_ n3_;(try clear hb);(try clear hb2);(try clear hk);(try clear hi);have hcz125_0 : w124.cell? ⟨gb173,0,none⟩ = some (.int .i64 0):=(blk_cell BK173.out 0).trans rfl;have hcz125_1 : w124.cell? ⟨gb173,1,none⟩ = some (.int .i64 0):=(blk_cell BK173.out 1).trans rfl;have hcz125_2 : w124.cell? ⟨gb173,2,none⟩ = some (.slice none 0 0):=(blk_cell BK173.out 2).trans rfl;have hcz125_3 : w124.cell? ⟨gb173,3,none⟩ = some (.int .i64 0):=(blk_cell BK173.out 3).trans rfl;have hcz125_4 : w124.cell? ⟨gb173,4,none⟩ = some (.int .u32 0):=(blk_cell BK173.out 4).trans rfl;have hfz125_0:=blk_frozen BK173.out 0;have hfz125_1:=blk_frozen BK173.out 1;have hfz125_2:=blk_frozen BK173.out 2;have hfz125_3:=blk_frozen BK173.out 3;have hfz125_4:=blk_frozen BK173.out 4))
   refine bodyPost_ret (results_ct rfl _ _ gb173 37 #[.int .i64 0,.int .i64 0,.slice none 0 0,.int .i64 0,.int .u32 0] (0,0) _ rfl (by (with_reducible repeat (first|refine blk_drewN ?_ _|refine blk_drew ?_|refine blk_alloc ?_ _));refine blk_put (cs:=#[.int .i64 0,.int .i64 0,.slice none 0 0,.int .i64 0,.int .u32 0]) ?_ 4 _ rfl;(with_reducible repeat (first|refine blk_drewN ?_ _|refine blk_drew ?_|refine blk_alloc ?_ _));refine blk_put (cs:=#[.int .i64 0,.int .i64 0,.slice none 0 0,.int .i64 0,.int .u32 0]) ?_ 3 _ rfl;(with_reducible repeat (first|refine blk_drewN ?_ _|refine blk_drew ?_|refine blk_alloc ?_ _));refine blk_put (cs:=#[.int .i64 0,.int .i64 0,.slice none 0 0,.int .i64 0,.int .u32 0]) ?_ 2 _ rfl;(with_reducible repeat (first|refine blk_drewN ?_ _|refine blk_drew ?_|refine blk_alloc ?_ _));refine blk_put (cs:=#[.int .i64 0,.int .i64 0,.slice none 0 0,.int .i64 0,.int .u32 0]) ?_ 1 _ rfl;(with_reducible repeat (first|refine blk_drewN ?_ _|refine blk_drew ?_|refine blk_alloc ?_ _));refine blk_put (cs:=#[.int .i64 0,.int .i64 0,.slice none 0 0,.int .i64 0,.int .u32 0]) ?_ 0 _ rfl;(with_reducible repeat (first|refine blk_drewN ?_ _|refine blk_drew ?_|refine blk_alloc ?_ _));exact BK173.out) Try.underlying37 rfl (by kernel_rfl)) rfl ?_
   exact ⟨_,by first|rfl|(simp [errW_none,errW_some] <;> rfl)|(simp [*,errW_none,errW_some] <;> rfl),by first|exact Kd.S_nil _ _ _ _ _|exact Kd.N_nil _ _ _ _ _|exact Kd.V_nil _ _ _ _ _|exact Kd.Q_nil _ _ _ _ _|exact Kd.R_nil _ _ _ _ _,by repeat (first|(with_reducible first|exact HB.out|apply below_alloc|apply pw_below_drewN|apply below_drew1|refine below_set ?_ GE171.out|refine below_set ?_ GE172.out|refine below_set ?_ GE173.out)|exact HB.out)⟩
 ·rw [if_neg c4] at H
  have c4b0 : (t174 == 0) = false:=beq_eq_false_iff_ne.mpr c4
  have c4b1 : (t174 != 0) = true:=bne_iff_ne.mpr c4
  simp only [Option.some.injEq,Prod.mk.injEq] at H
  obtain ⟨rfl,rfl,rfl,rfl,rfl,rfl⟩:=H
  go_enter Try.func30,Try.ntmps30
  go_wp2_with (first|((with_reducible refine gate_dst (N:=2) rfl ?_);refine box_event ?hg (N:=2) ?hd (cs:=#[.int .i64 a0_0,.int .i64 a0_1,.int .i64 a0_2,.slice A0_3 l0_3.length c0_3,.slice A0_4 l0_4.length c0_4,.int .i64 a0_5]) (t:=50) ?hr ?_;(case hd=>rfl);(case hg=>rfl);(case hr=>first|(go_simp;done)|(go_simp;rfl));intro gb171 hg w126 hbox hb;have n0_:=Aside0.mk (below_step (by repeat (first|(with_reducible first|exact HB.out|apply below_alloc|apply pw_below_drewN|apply below_drew1)|exact HB.out)) hb);have n1_:=Aside0.mk (hbox);have n2_:=Aside0.mk ((by rw [hg];exact (below_size (by repeat (first|(with_reducible first|exact HB.out|apply below_alloc|apply pw_below_drewN|apply below_drew1)|exact HB.out))) : w.heap.size ≤ gb171));have n3_:=Aside0.mk ((by rw [hg];exact (below_size (by repeat (first|(with_reducible first|exact HB.out|apply below_alloc|apply pw_below_drewN|apply below_drew1)|exact HB.out))) : w.heap.size ≤ gb171));clear HB;have HB:=n0_;have BK171:=n1_;have GW171:=n2_;have GE171:=n3_;clear n0_ n1_ n2_ n3_;clear hb hbox hg)|((with_reducible refine gate_dst (N:=3) rfl ?_);refine box_event ?hg (N:=3) ?hd (cs:=#[.int .i64 a1_0,.int .i64 a1_1,.slice A1_2 l1_2.length c1_2,.int .i64 a1_3,.int .u32 a1_4]) (t:=37) ?hr ?_;(case hd=>rfl);(case hg=>rfl);(case hr=>first|(go_simp;done)|(go_simp;rfl));intro gb172 hg w127 hbox hb;have n0_:=Aside0.mk (blk_below (g:=gb171) (o:=.cells #[.int .i64 a0_0,.int .i64 a0_1,.int .i64 a0_2,.slice A0_3 l0_3.length c0_3,.slice A0_4 l0_4.length c0_4,.int .i64 a0_5] 50 (0,0)) (by (with_reducible repeat (first|refine blk_drewN ?_ _|refine blk_drew ?_|refine blk_alloc ?_ _));exact BK171.out) hb);have n1_:=Aside0.mk (below_step (by repeat (first|(with_reducible first|exact HB.out|apply below_alloc|apply pw_below_drewN|apply below_drew1|refine below_set ?_ GE171.out)|exact HB.out)) hb);have n2_:=Aside0.mk (hbox);have n3_:=Aside0.mk ((by rw [hg];exact (below_size (by repeat (first|(with_reducible first|exact HB.out|apply below_alloc|apply pw_below_drewN|apply below_drew1|refine below_set ?_ GE171.out)|exact HB.out))) : w.heap.size ≤ gb172));have n4_:=Aside0.mk ((by rw [hg];exact (below_size (by repeat (first|(with_reducible first|exact HB.out|apply below_alloc|apply pw_below_drewN|apply below_drew1|refine below_set ?_ GE171.out)|exact HB.out))) : w.heap.size ≤ gb172));have n5_:=Aside0.mk ((by rw [hg];exact Nat.ne_of_lt (blk_lt (g:=gb171) (o:=.cells #[.int .i64 a0_0,.int .i64 a0_1,.int .i64 a0_2,.slice A0_3 l0_3.length c0_3,.slice A0_4 l0_4.length c0_4,.int .i64 a0_5] 50 (0,0)) (by (with_reducible repeat (first|refine blk_drewN ?_ _|refine blk_drew ?_|refine blk_alloc ?_ _));exact BK171.out)) : gb171 ≠ gb172));have n6_:=Aside0.mk ((by rw [hg];exact Nat.ne_of_gt (blk_lt (g:=gb171) (o:=.cells #[.int .i64 a0_0,.int .i64 a0_1,.int .i64 a0_2,.slice A0_3 l0_3.length c0_3,.slice A0_4 l0_4.length c0_4,.int .i64 a0_5] 50 (0,0)) (by (with_reducible repeat (first|refine blk_drewN ?_ _|refine blk_drew ?_|refine blk_alloc ?_ _));exact BK171.out)) : gb172 ≠ gb171));clear BK171;clear HB;have BK171:=n0_;have HB:=n1_;have BK172:=n2_;have GW172:=n3_;have GE172:=n4_;have NB171_172:=n5_;have NB172_171:=n6_;clear n0_ n1_ n2_ n3_ n4_ n5_ n6_;clear hb hbox hg)|((with_reducible refine gate_dst (N:=4) rfl ?_);refine box_event ?hg (N:=4) ?hd (cs:=#[.int .i64 0,.int .i64 0,.slice none 0 0,.int .i64 0,.int .u32 0]) (t:=37) ?hr ?_;(case hd=>rfl);(case hg=>rfl);(case hr=>first|(go_simp;done)|(go_simp;rfl));intro gb173 hg w128 hbox hb;have n0_:=Aside0.mk (blk_below (g:=gb171) (o:=.cells #[.int .i64 a0_0,.int .i64 a0_1,.int .i64 a0_2,.slice A0_3 l0_3.length c0_3,.slice A0_4 l0_4.length c0_4,.int .i64 a0_5] 50 (0,0)) (by (with_reducible repeat (first|refine blk_drewN ?_ _|refine blk_drew ?_|refine blk_alloc ?_ _));exact BK171.out) hb);have n1_:=Aside0.mk (blk_below (g:=gb172) (o:=.cells #[.int .i64 a1_0,.int .i64 a1_1,.slice A1_2 l1_2.length c1_2,.int .i64 a1_3,.int .u32 a1_4] 37 (0,0)) (by (with_reducible repeat (first|refine blk_drewN ?_ _|refine blk_drew ?_|refine blk_alloc ?_ _));exact BK172.out) hb);have n2_:=Aside0.mk (below_step (by repeat (first|(with_reducible first|exact HB.out|apply below_alloc|apply pw_below_drewN|apply below_drew1|refine below_set ?_ GE171.out|refine below_set ?_ GE172.out)|exact HB.out)) hb);have n3_:=Aside0.mk (hbox);have n4_:=Aside0.mk ((by rw [hg];exact (below_size (by repeat (first|(with_reducible first|exact HB.out|apply below_alloc|apply pw_below_drewN|apply below_drew1|refine below_set ?_ GE171.out|refine below_set ?_ GE172.out)|exact HB.out))) : w.heap.size ≤ gb173));have n5_:=Aside0.mk ((by rw [hg];exact (below_size (by repeat (first|(with_reducible first|exact HB.out|apply below_alloc|apply pw_below_drewN|apply below_drew1|refine below_set ?_ GE171.out|refine below_set ?_ GE172.out)|exact HB.out))) : w.heap.size ≤ gb173));have n6_:=Aside0.mk ((by rw [hg];exact Nat.ne_of_lt (blk_lt (g:=gb171) (o:=.cells #[.int .i64 a0_0,.int .i64 a0_1,.int .i64 a0_2,.slice A0_3 l0_3.length c0_3,.slice A0_4 l0_4.length c0_4,.int .i64 a0_5] 50 (0,0)) (by (with_reducible repeat (first|refine blk_drewN ?_ _|refine blk_drew ?_|refine blk_alloc ?_ _));exact BK171.out)) : gb171 ≠ gb173));have n7_:=Aside0.mk ((by rw [hg];exact Nat.ne_of_gt (blk_lt (g:=gb171) (o:=.cells #[.int .i64 a0_0,.int .i64 a0_1,.int .i64 a0_2,.slice A0_3 l0_3.length c0_3,.slice A0_4 l0_4.length c0_4,.int .i64 a0_5] 50 (0,0)) (by (with_reducible repeat (first|refine blk_drewN ?_ _|refine blk_drew ?_|refine blk_alloc ?_ _));exact BK171.out)) : gb173 ≠ gb171));have n8_:=Aside0.mk ((by rw [hg];exact Nat.ne_of_lt (blk_lt (g:=gb172) (o:=.cells #[.int .i64 a1_0,.int .i64 a1_1,.slice A1_2 l1_2.length c1_2,.int .i64 a1_3,.int .u32 a1_4] 37 (0,0)) (by (with_reducible repeat (first|refine blk_drewN ?_ _|refine blk_drew ?_|refine blk_alloc ?_ _));exact BK172.out)) : gb172 ≠ gb173));have n9_:=Aside0.mk ((by rw [hg];exact Nat.ne_of_gt (blk_lt (g:=gb172) (o:=.cells #[.int .i64 a1_0,.int .i64 a1_1,.slice A1_2 l1_2.length c1_2,.int .i64 a1_3,.int .u32 a1_4] 37 (0,0)) (by (with_reducible repeat (first|refine blk_drewN ?_ _|refine blk_drew ?_|refine blk_alloc ?_ _));exact BK172.out)) : gb173 ≠ gb172));clear BK171;clear BK172;clear HB;have BK171:=n0_;have BK172:=n1_;have HB:=n2_;have BK173:=n3_;have GW173:=n4_;have GE173:=n5_;have NB171_173:=n6_;have NB173_171:=n7_;have NB172_173:=n8_;have NB173_172:=n9_;clear n0_ n1_ n2_ n3_ n4_ n5_ n6_ n7_ n8_ n9_;clear hb hbox hg;have hnb129:=NB171_172.out;have hnc129:=NB172_171.out;have hnb130:=NB171_173.out;have hnc130:=NB173_171.out;have hcz131_0 : w128.cell? ⟨gb171,0,none⟩ = some (.int .i64 a0_0):=(blk_cell BK171.out 0).trans rfl;have hcz131_1 : w128.cell? ⟨gb171,1,none⟩ = some (.int .i64 a0_1):=(blk_cell BK171.out 1).trans rfl;have hcz131_2 : w128.cell? ⟨gb171,2,none⟩ = some (.int .i64 a0_2):=(blk_cell BK171.out 2).trans rfl;have hcz131_3 : w128.cell? ⟨gb171,3,none⟩ = some (.slice A0_3 l0_3.length c0_3):=(blk_cell BK171.out 3).trans rfl;have hcz131_4 : w128.cell? ⟨gb171,4,none⟩ = some (.slice A0_4 l0_4.length c0_4):=(blk_cell BK171.out 4).trans rfl;have hcz131_5 : w128.cell? ⟨gb171,5,none⟩ = some (.int .i64 a0_5):=(blk_cell BK171.out 5).trans rfl;have hfz131_0:=blk_frozen BK171.out 0;have hfz131_1:=blk_frozen BK171.out 1;have hfz131_2:=blk_frozen BK171.out 2;have hfz131_3:=blk_frozen BK171.out 3;have hfz131_4:=blk_frozen BK171.out 4;have hfz131_5:=blk_frozen BK171.out 5)|((with_reducible refine gate_callee (f:=46) rfl ?_);refine goesL_ (some 17) rfl rfl Try.func46 (by kernel_rfl) rfl #[.agg #[.int .i64 a0_0,.int .i64 a0_1,.int .i64 a0_2,.slice A0_3 l0_3.length c0_3,.slice A0_4 l0_4.length c0_4,.int .i64 a0_5]] rfl (by (try simp only [List.map_toArray,List.map_cons,List.map_nil]);first|done|rfl|(simp only [List.length_drop,List.length_take];rfl)) ?_;(with_reducible refine (turner_Check.calls k a0_0 a0_1 a0_2 _ _ l0_3 _ _ l0_4 a0_5 t174 _ ?side1 ?side2 ?side3 ?side4 A3.out).mono ?_);(case side1=>repeat (first|exact (Kd.C_below HR0_3.out HB.out)|(with_reducible refine Kd.C_alloc ?_ _)|(with_reducible refine Kd.C_drewN ?_ _)|(with_reducible refine Kd.C_drew ?_)));(case side2=>exact HC0_3.out);(case side3=>repeat (first|exact (Kd.C_below HR0_4.out HB.out)|(with_reducible refine Kd.C_alloc ?_ _)|(with_reducible refine Kd.C_drewN ?_ _)|(with_reducible refine Kd.C_drew ?_)));(case side4=>exact HC0_4.out);rintro e w132 ⟨rfl,hb⟩;refine ⟨_,rfl,?_⟩;have n0_:=Aside0.mk (blk_below (g:=gb171) (o:=.cells #[.int .i64 a0_0,.int .i64 a0_1,.int .i64 a0_2,.slice A0_3 l0_3.length c0_3,.slice A0_4 l0_4.length c0_4,.int .i64 a0_5] 50 (0,0)) (by (with_reducible repeat (first|refine blk_drewN ?_ _|refine blk_drew ?_|refine blk_alloc ?_ _));exact BK171.out) hb);have n1_:=Aside0.mk (blk_below (g:=gb172) (o:=.cells #[.int .i64 a1_0,.int .i64 a1_1,.slice A1_2 l1_2.length c1_2,.int .i64 a1_3,.int .u32 a1_4] 37 (0,0)) (by (with_reducible repeat (first|refine blk_drewN ?_ _|refine blk_drew ?_|refine blk_alloc ?_ _));exact BK172.out) hb);have n2_:=Aside0.mk (blk_below (g:=gb173) (o:=.cells #[.int .i64 0,.int .i64 0,.slice none 0 0,.int .i64 0,.int .u32 0] 37 (0,0)) (by (with_reducible repeat (first|refine blk_drewN ?_ _|refine blk_drew ?_|refine blk_alloc ?_ _));exact BK173.out) hb);have n3_:=Aside0.mk (below_step (by repeat (first|(with_reducible first|exact HB.out|apply below_alloc|apply pw_below_drewN|apply below_drew1|refine below_set ?_ GE171.out|refine below_set ?_ GE172.out|refine below_set ?_ GE173.out)|exact HB.out)) hb);clear BK171;clear BK172;clear BK173;clear HB;have BK171:=n0_;have BK172:=n1_;have BK173:=n2_;have HB:=n3_;clear n0_ n1_ n2_ n3_;(try clear hb);(try clear hb2);(try clear hk);(try clear hi);have hnb133:=NB173_172.out;have hnc133:=NB172_173.out;have hcz134_0 : w132.cell? ⟨gb173,0,none⟩ = some (.int .i64 0):=(blk_cell BK173.out 0).trans rfl;have hcz134_1 : w132.cell? ⟨gb173,1,none⟩ = some (.int .i64 0):=(blk_cell BK173.out 1).trans rfl;have hcz134_2 : w132.cell? ⟨gb173,2,none⟩ = some (.slice none 0 0):=(blk_cell BK173.out 2).trans rfl;have hcz134_3 : w132.cell? ⟨gb173,3,none⟩ = some (.int .i64 0):=(blk_cell BK173.out 3).trans rfl;have hcz134_4 : w132.cell? ⟨gb173,4,none⟩ = some (.int .u32 0):=(blk_cell BK173.out 4).trans rfl;have hfz134_0:=blk_frozen BK173.out 0;have hfz134_1:=blk_frozen BK173.out 1;have hfz134_2:=blk_frozen BK173.out 2;have hfz134_3:=blk_frozen BK173.out 3;have hfz134_4:=blk_frozen BK173.out 4))
  refine bodyPost_ret (results_ct rfl _ _ gb173 37 #[.int .i64 0,.int .i64 0,.slice none 0 0,.int .i64 0,.int .u32 0] (0,0) _ rfl (by (with_reducible repeat (first|refine blk_drewN ?_ _|refine blk_drew ?_|refine blk_alloc ?_ _));refine blk_put (cs:=#[.int .i64 0,.int .i64 0,.slice none 0 0,.int .i64 0,.int .u32 0]) ?_ 4 _ rfl;(with_reducible repeat (first|refine blk_drewN ?_ _|refine blk_drew ?_|refine blk_alloc ?_ _));refine blk_put (cs:=#[.int .i64 0,.int .i64 0,.slice none 0 0,.int .i64 0,.int .u32 0]) ?_ 3 _ rfl;(with_reducible repeat (first|refine blk_drewN ?_ _|refine blk_drew ?_|refine blk_alloc ?_ _));refine blk_put (cs:=#[.int .i64 0,.int .i64 0,.slice none 0 0,.int .i64 0,.int .u32 0]) ?_ 2 _ rfl;(with_reducible repeat (first|refine blk_drewN ?_ _|refine blk_drew ?_|refine blk_alloc ?_ _));refine blk_put (cs:=#[.int .i64 0,.int .i64 0,.slice none 0 0,.int .i64 0,.int .u32 0]) ?_ 1 _ rfl;(with_reducible repeat (first|refine blk_drewN ?_ _|refine blk_drew ?_|refine blk_alloc ?_ _));refine blk_put (cs:=#[.int .i64 0,.int .i64 0,.slice none 0 0,.int .i64 0,.int .u32 0]) ?_ 0 _ rfl;(with_reducible repeat (first|refine blk_drewN ?_ _|refine blk_drew ?_|refine blk_alloc ?_ _));exact BK173.out) Try.underlying37 rfl (by kernel_rfl)) rfl ?_
  exact ⟨_,by first|rfl|(simp [errW_none,errW_some] <;> rfl)|(simp [*,errW_none,errW_some] <;> rfl),by first|exact Kd.S_nil _ _ _ _ _|exact Kd.N_nil _ _ _ _ _|exact Kd.V_nil _ _ _ _ _|exact Kd.Q_nil _ _ _ _ _|exact Kd.R_nil _ _ _ _ _,by repeat (first|(with_reducible first|exact HB.out|apply below_alloc|apply pw_below_drewN|apply below_drew1|refine below_set ?_ GE171.out|refine below_set ?_ GE172.out|refine below_set ?_ GE173.out)|exact HB.out)⟩
end Go.Proofs.Ytiiankjmeodjdaa.GV
