-- Written by ext.py, a program of this session.
import Derived.Test.YtnkackiocigdoaaGE0
import Derived.Test.YtnkackiocigdoaaGE10
import Derived.Test.YtnkackiocigdoaaGE13
namespace Go.Proofs.Ytnkackiocigdoaa.GE
open Go.RowKit Go.Proofs.YtnkackiocigdoaaW.PrintWords Go.Proofs.YtnkackiocigdoaaW.PrintLast Go.Proofs.YtnkackiocigdoaaW.PrintMore
attribute [local go_sem] max2_int min2_int max_two min_two max_three min_three max_four min_four cellIs_set   -- for this text's walks alone
set_option linter.unusedVariables false
set_option linter.unusedSimpArgs false
/-! ### ahead_follows: function 52 -/
mutual
def ahead_follows.l0 : Nat → List Int → Int → Int → List Int → Bool → Int → Int → Int → List (S27) → Option (List Int)
 | 0,_,_,_,_,_,_,_,_,_=>none
 | k + 1,x1,x2,x7,x9,x10,x197000,x197001,x197002,x197003=>if x10 = true then (ahead_follows.l1 k x1 x2 x7 x9 false x197003 (x197003.length : Int) 0 x197000 x197001 x197002 x197003) else (some x9)
def ahead_follows.l1 : Nat → List Int → Int → Int → List Int → Bool → List (S27) → Int → Int → Int → Int → Int → List (S27) → Option (List Int)
 | 0,_,_,_,_,_,_,_,_,_,_,_,_=>none
 | k + 1,x1,x2,x7,x9,x10,x34,x35,x36,x197000,x197001,x197002,x197003=>if x36 < x35 then (if 0 ≤ x36 then (if x36 < (x34.length : Int) then (if 0 ≤ ((rd_T27 x34 x36).f0) then (if (Go.bits .and .u32 (shr .u32 x7 ((rd_T27 x34 x36).f0)) 1) = 0 then (ahead_follows.l1 k x1 x2 x7 x9 x10 x34 x35 (wrap64 (x36 + 1)) x197000 x197001 x197002 x197003) else (ahead_follows.l2 k x1 x2 x7 x9 x10 x34 x35 x36 ((rd_T27 x34 x36).f1) (((rd_T27 x34 x36).f1).length : Int) 0 x197000 x197001 x197002 x197003 ((rd_T27 x34 x36).f0) ((rd_T27 x34 x36).f1))) else (none)) else (none)) else (none)) else (ahead_follows.l0 k x1 x2 x7 x9 x10 x197000 x197001 x197002 x197003)
def ahead_follows.l2 : Nat → List Int → Int → Int → List Int → Bool → List (S27) → Int → Int → List Int → Int → Int → Int → Int → Int → List (S27) → Int → List Int → Option (List Int)
 | 0,_,_,_,_,_,_,_,_,_,_,_,_,_,_,_,_,_=>none
 | k + 1,x1,x2,x7,x9,x10,x34,x35,x36,x47,x48,x49,x197000,x197001,x197002,x197003,x205000,x205001=>if x49 < x48 then (if 0 ≤ x49 then (if x49 < (x47.length : Int) then (if (rd x47 x49) < x197000 then (ahead_follows.l2 k x1 x2 x7 x9 x10 x34 x35 x36 x47 x48 (wrap64 (x49 + 1)) x197000 x197001 x197002 x197003 x205000 x205001) else (if 0 ≤ (wrap64 (x49 + 1)) then (if (wrap64 (x49 + 1)) ≤ (x205001.length : Int) then ((ahead_begin.f k x197000 x197001 x197002 x197003 x1 x2 (x205001.drop ((wrap64 (x49 + 1)) : Int).toNat)).bind fun bt207=>(if bt207.2 = true then (if 0 ≤ x205000 then (if x205000 < (x9.length : Int) then (if x10 = true then (if 0 ≤ (wrap64 ((rd x47 x49) - x197000)) then (if (wrap64 ((rd x47 x49) - x197000)) < (x9.length : Int) then (ahead_follows.l2 k x1 x2 x7 (x9.set ((wrap64 ((rd x47 x49) - x197000)) : Int).toNat (Go.bits .or .u32 (rd x9 (wrap64 ((rd x47 x49) - x197000))) (Go.bits .or .u32 bt207.1 (rd x9 x205000)))) true x34 x35 x36 x47 x48 (wrap64 (x49 + 1)) x197000 x197001 x197002 x197003 x205000 x205001) else (none)) else (none)) else (if 0 ≤ (wrap64 ((rd x47 x49) - x197000)) then (if (wrap64 ((rd x47 x49) - x197000)) < (x9.length : Int) then (ahead_follows.l2 k x1 x2 x7 (x9.set ((wrap64 ((rd x47 x49) - x197000)) : Int).toNat (Go.bits .or .u32 (rd x9 (wrap64 ((rd x47 x49) - x197000))) (Go.bits .or .u32 bt207.1 (rd x9 x205000)))) ((Go.bits .andNot .u32 (Go.bits .or .u32 bt207.1 (rd x9 x205000)) (rd x9 (wrap64 ((rd x47 x49) - x197000)))) != 0) x34 x35 x36 x47 x48 (wrap64 (x49 + 1)) x197000 x197001 x197002 x197003 x205000 x205001) else (none)) else (none))) else (none)) else (none)) else (if x10 = true then (if 0 ≤ (wrap64 ((rd x47 x49) - x197000)) then (if (wrap64 ((rd x47 x49) - x197000)) < (x9.length : Int) then (ahead_follows.l2 k x1 x2 x7 (x9.set ((wrap64 ((rd x47 x49) - x197000)) : Int).toNat (Go.bits .or .u32 (rd x9 (wrap64 ((rd x47 x49) - x197000))) bt207.1)) true x34 x35 x36 x47 x48 (wrap64 (x49 + 1)) x197000 x197001 x197002 x197003 x205000 x205001) else (none)) else (none)) else (if 0 ≤ (wrap64 ((rd x47 x49) - x197000)) then (if (wrap64 ((rd x47 x49) - x197000)) < (x9.length : Int) then (ahead_follows.l2 k x1 x2 x7 (x9.set ((wrap64 ((rd x47 x49) - x197000)) : Int).toNat (Go.bits .or .u32 (rd x9 (wrap64 ((rd x47 x49) - x197000))) bt207.1)) ((Go.bits .andNot .u32 bt207.1 (rd x9 (wrap64 ((rd x47 x49) - x197000)))) != 0) x34 x35 x36 x47 x48 (wrap64 (x49 + 1)) x197000 x197001 x197002 x197003 x205000 x205001) else (none)) else (none))))) else (none)) else (none))) else (none)) else (none)) else (ahead_follows.l1 k x1 x2 x7 x9 x10 x34 x35 (wrap64 (x36 + 1)) x197000 x197001 x197002 x197003)
end
def ahead_follows.f (k : Nat) (a0_0 : Int) (a0_1 : Int) (a0_2 : Int) (l0_3 : List (S27)) (l1 : List Int) (a2 : Int) : Option (List Int):=(grammar_Comes.f k a0_0 a0_1 a0_2 l0_3).bind fun bt197=>(if 0 ≤ a0_1 then (if (a0_1 : Int).toNat ≤ 70368744177664 then ((some (List.replicate (a0_1 : Int).toNat 0 : List Int)).bind fun y199=>(if 0 ≤ a0_0 then (if 0 ≤ a0_2 then (if a0_2 < (y199.length : Int) then (ahead_follows.l0 k l1 a2 bt197.1 (y199.set (a0_2 : Int).toNat (shl .u32 1 a0_0)) true a0_0 a0_1 a0_2 l0_3) else (none)) else (none)) else (none))) else (none)) else (none))
theorem ahead_follows.mono_l : ∀ k,(∀ y0 y1 y2 y3 y4 y5 y6 y7 y8,LeO (ahead_follows.l0 k y0 y1 y2 y3 y4 y5 y6 y7 y8) (ahead_follows.l0 (k + 1) y0 y1 y2 y3 y4 y5 y6 y7 y8)) ∧ (∀ y0 y1 y2 y3 y4 y5 y6 y7 y8 y9 y10 y11,LeO (ahead_follows.l1 k y0 y1 y2 y3 y4 y5 y6 y7 y8 y9 y10 y11) (ahead_follows.l1 (k + 1) y0 y1 y2 y3 y4 y5 y6 y7 y8 y9 y10 y11)) ∧ (∀ y0 y1 y2 y3 y4 y5 y6 y7 y8 y9 y10 y11 y12 y13 y14 y15 y16,LeO (ahead_follows.l2 k y0 y1 y2 y3 y4 y5 y6 y7 y8 y9 y10 y11 y12 y13 y14 y15 y16) (ahead_follows.l2 (k + 1) y0 y1 y2 y3 y4 y5 y6 y7 y8 y9 y10 y11 y12 y13 y14 y15 y16))
 | 0=>⟨fun _ _ _ _ _ _ _ _ _ r h=>by simp [ahead_follows.l0] at h,fun _ _ _ _ _ _ _ _ _ _ _ _ r h=>by simp [ahead_follows.l1] at h,fun _ _ _ _ _ _ _ _ _ _ _ _ _ _ _ _ _ r h=>by simp [ahead_follows.l2] at h⟩
 | k + 1=>by
  obtain ⟨ih0,ih1,ih2⟩:=ahead_follows.mono_l k
  refine ⟨?_,?_,?_⟩
  ·intro y0 y1 y2 y3 y4 y5 y6 y7 y8
   unfold ahead_follows.l0
   repeat' first
   | (with_reducible exact ih0 _ _ _ _ _ _ _ _ _)
   | (with_reducible exact ih1 _ _ _ _ _ _ _ _ _ _ _ _)
   | (with_reducible exact ih2 _ _ _ _ _ _ _ _ _ _ _ _ _ _ _ _ _)
   | (with_reducible exact ahead_begin.mono _ _ _ _ _ _ _ _)
   | (with_reducible exact grammar_Comes.mono _ _ _ _ _)
   | (with_reducible exact LeO.refl _)
   | (with_reducible exact LeO.none _)
   | (with_reducible refine LeO.ite ?_ ?_)
   | (with_reducible refine LeO.bind ?_ (fun _=>?_))
   | exact ih0 _ _ _ _ _ _ _ _ _
   | exact ih1 _ _ _ _ _ _ _ _ _ _ _ _
   | exact ih2 _ _ _ _ _ _ _ _ _ _ _ _ _ _ _ _ _
   | exact ahead_begin.mono _ _ _ _ _ _ _ _
   | exact grammar_Comes.mono _ _ _ _ _
   | exact LeO.none _
   | refine LeO.ite ?_ ?_
   | refine LeO.bind ?_ (fun _=>?_)
  ·intro y0 y1 y2 y3 y4 y5 y6 y7 y8 y9 y10 y11
   unfold ahead_follows.l1
   repeat' first
   | (with_reducible exact ih0 _ _ _ _ _ _ _ _ _)
   | (with_reducible exact ih1 _ _ _ _ _ _ _ _ _ _ _ _)
   | (with_reducible exact ih2 _ _ _ _ _ _ _ _ _ _ _ _ _ _ _ _ _)
   | (with_reducible exact ahead_begin.mono _ _ _ _ _ _ _ _)
   | (with_reducible exact grammar_Comes.mono _ _ _ _ _)
   | (with_reducible exact LeO.refl _)
   | (with_reducible exact LeO.none _)
   | (with_reducible refine LeO.ite ?_ ?_)
   | (with_reducible refine LeO.bind ?_ (fun _=>?_))
   | exact ih0 _ _ _ _ _ _ _ _ _
   | exact ih1 _ _ _ _ _ _ _ _ _ _ _ _
   | exact ih2 _ _ _ _ _ _ _ _ _ _ _ _ _ _ _ _ _
   | exact ahead_begin.mono _ _ _ _ _ _ _ _
   | exact grammar_Comes.mono _ _ _ _ _
   | exact LeO.none _
   | refine LeO.ite ?_ ?_
   | refine LeO.bind ?_ (fun _=>?_)
  ·intro y0 y1 y2 y3 y4 y5 y6 y7 y8 y9 y10 y11 y12 y13 y14 y15 y16
   unfold ahead_follows.l2
   repeat' first
   | (with_reducible exact ih0 _ _ _ _ _ _ _ _ _)
   | (with_reducible exact ih1 _ _ _ _ _ _ _ _ _ _ _ _)
   | (with_reducible exact ih2 _ _ _ _ _ _ _ _ _ _ _ _ _ _ _ _ _)
   | (with_reducible exact ahead_begin.mono _ _ _ _ _ _ _ _)
   | (with_reducible exact grammar_Comes.mono _ _ _ _ _)
   | (with_reducible exact LeO.refl _)
   | (with_reducible exact LeO.none _)
   | (with_reducible refine LeO.ite ?_ ?_)
   | (with_reducible refine LeO.bind ?_ (fun _=>?_))
   | exact ih0 _ _ _ _ _ _ _ _ _
   | exact ih1 _ _ _ _ _ _ _ _ _ _ _ _
   | exact ih2 _ _ _ _ _ _ _ _ _ _ _ _ _ _ _ _ _
   | exact ahead_begin.mono _ _ _ _ _ _ _ _
   | exact grammar_Comes.mono _ _ _ _ _
   | exact LeO.none _
   | refine LeO.ite ?_ ?_
   | refine LeO.bind ?_ (fun _=>?_)
theorem ahead_follows.mono : ∀ a0 a1 a2 a3 a4 a5 k,LeO (ahead_follows.f k a0 a1 a2 a3 a4 a5) (ahead_follows.f (k + 1) a0 a1 a2 a3 a4 a5):=by
 intro a0 a1 a2 a3 a4 a5 k
 obtain ⟨ih0,ih1,ih2⟩:=ahead_follows.mono_l k
 unfold ahead_follows.f
 repeat' first
   | (with_reducible exact ih0 _ _ _ _ _ _ _ _ _)
   | (with_reducible exact ih1 _ _ _ _ _ _ _ _ _ _ _ _)
   | (with_reducible exact ih2 _ _ _ _ _ _ _ _ _ _ _ _ _ _ _ _ _)
   | (with_reducible exact ahead_begin.mono _ _ _ _ _ _ _ _)
   | (with_reducible exact grammar_Comes.mono _ _ _ _ _)
   | (with_reducible exact LeO.refl _)
   | (with_reducible exact LeO.none _)
   | (with_reducible refine LeO.ite ?_ ?_)
   | (with_reducible refine LeO.bind ?_ (fun _=>?_))
   | exact ih0 _ _ _ _ _ _ _ _ _
   | exact ih1 _ _ _ _ _ _ _ _ _ _ _ _
   | exact ih2 _ _ _ _ _ _ _ _ _ _ _ _ _ _ _ _ _
   | exact ahead_begin.mono _ _ _ _ _ _ _ _
   | exact grammar_Comes.mono _ _ _ _ _
   | exact LeO.none _
   | refine LeO.ite ?_ ?_
   | refine LeO.bind ?_ (fun _=>?_)
def ahead_follows.T3 : Bool × List (List Nat × List Nat):=(true,[([],[]),([],[]),([1],[1]),([],[]),([3],[3]),([4],[4]),([0,2,0,1,2,3,4,5],[0,2]),([6,5,0,1,2,3,4,5],[5,6])])
def ahead_follows.B3 : List Nat:=[0,0,2,0,8,24,63,127]
theorem ahead_follows.tab3 : rtab .any (opsOf Try.f52 3) = ahead_follows.T3:=by kernel_rfl
theorem ahead_follows.bits3 : waitsOk ahead_follows.T3.2 ahead_follows.B3 = true:=by kernel_rfl
def ahead_follows.T15 : Bool × List (List Nat × List Nat):=(true,[([],[]),([],[]),([],[]),([],[]),([3],[3]),([],[]),([5],[5]),([4,6],[4,6]),([0,1,2,7],[0,1,2,7]),([8],[8]),([9],[9]),([9],[9]),([10,8,0,1,2,3,4,5,6,7,8,9,10],[10]),([11,12,0,1,2,3,4,5,6,7,8,9,10,11,12],[11])])
def ahead_follows.B15 : List Nat:=[0,0,0,0,8,0,32,120,255,511,1023,1023,2047,8191]
theorem ahead_follows.tab15 : rtab .any (opsOf Try.f52 15) = ahead_follows.T15:=by kernel_rfl
theorem ahead_follows.bits15 : waitsOk ahead_follows.T15.2 ahead_follows.B15 = true:=by kernel_rfl
set_option maxHeartbeats 8000000 in
set_option maxRecDepth 100000 in
theorem ahead_follows.calls (k : Nat) (a0_0 : Int) (a0_1 : Int) (a0_2 : Int) (A0_3 : Option Addr) (c0_3 : Nat) (l0_3 : List (S27)) (A1 : Option Addr) (c1 : Nat) (l1 : List Int) (a2 : Int) (r : List Int) (w : World) (hr0_3 : Kd.C k27 w A0_3 l0_3.length l0_3) (hc0_3 : l0_3.length ≤ c0_3) (hr1 : Kd.C (Kd.int .u32) w A1 l1.length l1) (hc1 : l1.length ≤ c1) (h : ahead_follows.f k a0_0 a0_1 a0_2 l0_3 l1 a2 = some r) :
  Calls Try.prog 52 #[.agg #[.int .i64 a0_0,.int .i64 a0_1,.int .i64 a0_2,.slice A0_3 l0_3.length c0_3],.slice A1 l1.length c1,.int .u32 a2] w fun e w'=>∃ v0_ : Value,e = .returned (v0_) ∧ Kd.R (Kd.int .u32) 28 w' w.heap.size (fun _=>True) v0_ r ∧ Below w.heap.size w w':=by
 have hu24:=Try.underlying24
 have hu27:=Try.underlying27
 have HR0_3:=Aside0.mk hr0_3
 have HC0_3:=Aside0.mk hc0_3
 clear hr0_3 hc0_3
 have HR1:=Aside0.mk hr1
 have HC1:=Aside0.mk hc1
 clear hr1 hc1
 have HB:=Aside0.mk (Below.refl w.heap.size w)
 have H : ((grammar_Comes.f k a0_0 a0_1 a0_2 l0_3).bind fun bt197=>(if 0 ≤ a0_1 then (if (a0_1 : Int).toNat ≤ 70368744177664 then ((some (List.replicate (a0_1 : Int).toNat 0 : List Int)).bind fun y199=>(if 0 ≤ a0_0 then (if 0 ≤ a0_2 then (if a0_2 < (y199.length : Int) then (ahead_follows.l0 k l1 a2 bt197.1 (y199.set (a0_2 : Int).toNat (shl .u32 1 a0_0)) true a0_0 a0_1 a0_2 l0_3) else (none)) else (none)) else (none))) else (none)) else (none))) = some r:=h
 clear h
 replace H:=Option.bind_eq_some_iff.mp H
 obtain ⟨⟨t197,t198⟩,A40,H⟩:=H
 replace H : (if 0 ≤ a0_1 then (if (a0_1 : Int).toNat ≤ 70368744177664 then ((some (List.replicate (a0_1 : Int).toNat 0 : List Int)).bind fun y199=>(if 0 ≤ a0_0 then (if 0 ≤ a0_2 then (if a0_2 < (y199.length : Int) then (ahead_follows.l0 k l1 a2 t197 (y199.set (a0_2 : Int).toNat (shl .u32 1 a0_0)) true a0_0 a0_1 a0_2 l0_3) else (none)) else (none)) else (none))) else (none)) else (none)) = some r:=H
 have A4:=Aside0.mk A40
 clear A40
 by_cases c5 : 0 ≤ a0_1
 ·rw [if_pos c5] at H
  have c5b0:=eq_true c5
  have c5b1 : decide (0 ≤ a0_1) = true:=decide_eq_true c5
  clear c5
  by_cases c6 : (a0_1 : Int).toNat ≤ 70368744177664
  ·rw [if_pos c6] at H
   have c6b0:=eq_true c6
   have c6b1 : decide ((a0_1 : Int).toNat ≤ 70368744177664) = true:=decide_eq_true c6
   clear c6
   obtain ⟨y199,hy199⟩ : ∃ y_ : List Int,y_ = (List.replicate (a0_1 : Int).toNat 0):=⟨_,rfl⟩
   replace H : (if 0 ≤ a0_0 then (if 0 ≤ a0_2 then (if a0_2 < (y199.length : Int) then (ahead_follows.l0 k l1 a2 t197 (y199.set (a0_2 : Int).toNat (shl .u32 1 a0_0)) true a0_0 a0_1 a0_2 l0_3) else (none)) else (none)) else (none)) = some r:=by first|(rw [hy199];with_reducible exact H)|(have H2_:=(Option.bind_some _ _).symm.trans H;rw [hy199];with_reducible exact H2_)|(have H2_:=(Option.bind_some _ _).symm.trans H;with_reducible exact H2_)|with_reducible exact H|(rw [hy199];exact H)|exact H
   have Ny199:=Aside0.mk hy199
   clear hy199
   by_cases c7 : 0 ≤ a0_0
   ·rw [if_pos c7] at H
    have c7b0:=eq_true c7
    have c7b1 : decide (0 ≤ a0_0) = true:=decide_eq_true c7
    clear c7
    obtain ⟨ji8,hji8⟩ : ∃ j_ : Int,(shl .u32 1 a0_0) = j_:=⟨_,rfl⟩
    replace H : (if 0 ≤ a0_2 then (if a0_2 < (y199.length : Int) then (ahead_follows.l0 k l1 a2 t197 (y199.set (a0_2 : Int).toNat (ji8)) true a0_0 a0_1 a0_2 l0_3) else (none)) else (none)) = some r:=by first|(rw [hji8] at H;exact H)|(simp only [hji8] at H ⊢;exact H)
    (try rw [hji8] at A4)
    have hji8_ : (IntKind.u32.wrap (1 * 2 ^ min a0_0.toNat 32)) = ji8:=hji8
    have hji8z : a0_0 ≤ 32 → (IntKind.u32.wrap (1 * 2 ^ a0_0.toNat)) = ji8:=shl_small hji8
    have hji8u : (IntKind.u32.wrap (2 ^ min a0_0.toNat 32)) = ji8:=by have h_:=hji8_;rw [Int.one_mul] at h_;exact h_
    have hji8v : a0_0 ≤ 32 → (IntKind.u32.wrap (2 ^ a0_0.toNat)) = ji8:=fun hle_=>by have h_:=hji8z hle_;rw [Int.one_mul] at h_;exact h_
    by_cases c9 : 0 ≤ a0_2
    ·rw [if_pos c9] at H
     have c9b0 : decide (0 ≤ a0_2) = true:=decide_eq_true c9
     clear c9
     by_cases c10 : a0_2 < (y199.length : Int)
     ·rw [if_pos c10] at H
      have c10b0 : decide (a0_2 < (y199.length : Int)) = true:=decide_eq_true c10
      clear c10
      obtain ⟨y202,hy202⟩ : ∃ y_ : List Int,y_ = (y199.set (a0_2 : Int).toNat (ji8)):=⟨_,rfl⟩
      replace H : (ahead_follows.l0 k l1 a2 t197 y202 true a0_0 a0_1 a0_2 l0_3) = some r:=by first|(rw [hy202];with_reducible exact H)|(have H2_:=(Option.bind_some _ _).symm.trans H;rw [hy202];with_reducible exact H2_)|(have H2_:=(Option.bind_some _ _).symm.trans H;with_reducible exact H2_)|with_reducible exact H|(rw [hy202];exact H)|exact H
      have Ny202:=Aside0.mk hy202
      clear hy202
      have H':=Aside0.mk H
      clear H
      go_enter Try.func52,Try.ntmps52
      try go_wp2_with (first|((with_reducible refine gate_dst (N:=3) rfl ?_);refine box_event ?hg (N:=3) ?hd (cs:=#[.int .i64 a0_0,.int .i64 a0_1,.int .i64 a0_2,.slice A0_3 l0_3.length c0_3]) (t:=24) ?hr ?_;(case hd=>rfl);(case hg=>rfl);(case hr=>first|(go_simp;done)|(go_simp;rfl));intro gb196 hg w12 hbox hb;have n0_:=Aside0.mk (below_step (by repeat (first|(with_reducible first|exact HB.out|apply below_alloc|apply pw_below_drewN|apply below_drew1)|exact HB.out)) hb);have n1_:=Aside0.mk (hbox);have n2_:=Aside0.mk ((by rw [hg];exact (below_size (by repeat (first|(with_reducible first|exact HB.out|apply below_alloc|apply pw_below_drewN|apply below_drew1)|exact HB.out))) : w.heap.size ≤ gb196));have n3_:=Aside0.mk ((by rw [hg];exact (below_size (by repeat (first|(with_reducible first|exact HB.out|apply below_alloc|apply pw_below_drewN|apply below_drew1)|exact HB.out))) : w.heap.size ≤ gb196));clear HB;have HB:=n0_;have BK196:=n1_;have GW196:=n2_;have GE196:=n3_;clear n0_ n1_ n2_ n3_;clear hb hbox hg;have hcz13_0 : w12.cell? ⟨gb196,0,none⟩ = some (.int .i64 a0_0):=(blk_cell BK196.out 0).trans rfl;have hcz13_1 : w12.cell? ⟨gb196,1,none⟩ = some (.int .i64 a0_1):=(blk_cell BK196.out 1).trans rfl;have hcz13_2 : w12.cell? ⟨gb196,2,none⟩ = some (.int .i64 a0_2):=(blk_cell BK196.out 2).trans rfl;have hcz13_3 : w12.cell? ⟨gb196,3,none⟩ = some (.slice A0_3 l0_3.length c0_3):=(blk_cell BK196.out 3).trans rfl;have hfz13_0:=blk_frozen BK196.out 0;have hfz13_1:=blk_frozen BK196.out 1;have hfz13_2:=blk_frozen BK196.out 2;have hfz13_3:=blk_frozen BK196.out 3)|((with_reducible refine gate_callee (f:=17) rfl ?_);refine goesL_ (some 19) rfl rfl Try.func17 (by kernel_rfl) rfl #[.agg #[.int .i64 a0_0,.int .i64 a0_1,.int .i64 a0_2,.slice A0_3 l0_3.length c0_3]] rfl (by (try simp only [List.map_toArray,List.map_cons,List.map_nil]);first|done|rfl|(simp only [List.length_drop,List.length_take];rfl)) ?_;(with_reducible refine (grammar_Comes.calls k a0_0 a0_1 a0_2 _ _ l0_3 t197 t198 _ ?side1 ?side2 A4.out).mono ?_);(case side1=>repeat (first|exact (Kd.C_below HR0_3.out HB.out)|(with_reducible refine Kd.C_alloc ?_ _)|(with_reducible refine Kd.C_drewN ?_ _)|(with_reducible refine Kd.C_drew ?_)));(case side2=>exact HC0_3.out);rintro e w14 ⟨rfl,hb⟩;refine ⟨_,rfl,?_⟩;have n0_:=Aside0.mk (blk_below (g:=gb196) (o:=.cells #[.int .i64 a0_0,.int .i64 a0_1,.int .i64 a0_2,.slice A0_3 l0_3.length c0_3] 24 (0,0)) (by (with_reducible repeat (first|refine blk_drewN ?_ _|refine blk_drew ?_|refine blk_alloc ?_ _));exact BK196.out) hb);have n1_:=Aside0.mk (below_step (by repeat (first|(with_reducible first|exact HB.out|apply below_alloc|apply pw_below_drewN|apply below_drew1|refine below_set ?_ GE196.out)|exact HB.out)) hb);clear BK196;clear HB;have BK196:=n0_;have HB:=n1_;clear n0_ n1_;(try clear hb);(try clear hb2);(try clear hk);(try clear hi);have hcz15_0 : w14.cell? ⟨gb196,0,none⟩ = some (.int .i64 a0_0):=(blk_cell BK196.out 0).trans rfl;have hcz15_1 : w14.cell? ⟨gb196,1,none⟩ = some (.int .i64 a0_1):=(blk_cell BK196.out 1).trans rfl;have hcz15_2 : w14.cell? ⟨gb196,2,none⟩ = some (.int .i64 a0_2):=(blk_cell BK196.out 2).trans rfl;have hcz15_3 : w14.cell? ⟨gb196,3,none⟩ = some (.slice A0_3 l0_3.length c0_3):=(blk_cell BK196.out 3).trans rfl;have hfz15_0:=blk_frozen BK196.out 0;have hfz15_1:=blk_frozen BK196.out 1;have hfz15_2:=blk_frozen BK196.out 2;have hfz15_3:=blk_frozen BK196.out 3)|((with_reducible refine gate_dst (N:=24) rfl ?_);refine Kd.R_make (Kd.int .u32) _ 28 rfl (N:=24) rfl 49 _ _ rfl a0_1 rfl rfl Try.underlying49 (.int .u32 0) 4 info28 rfl (by decide) (by omega) 0 (ok:=fun _=>True) (okp:=fun _=>True) rfl (fun _ hk=>hk) trivial (of_decide_eq_true (by first|(with_reducible assumption)|assumption)) (Nat.le_trans (Nat.mul_le_mul_right _ (of_decide_eq_true (by first|(with_reducible assumption)|assumption) : a0_1.toNat ≤ 70368744177664)) (by omega)) (Below.refl _ _) (Nat.le_refl _) ?_;intro v200 w16 ho17 hb hg_ hnew_;clear hg_ hnew_;(first|rw [← Ny199.out] at ho17|(simp only [Int.reduceToNat] at ho17;rw [← Ny199.out] at ho17));have n0_:=Aside0.mk (Kd.R_lower ho17 (below_size (by repeat (first|(with_reducible first|exact HB.out|apply below_alloc|apply pw_below_drewN|apply below_drew1|refine below_set ?_ GE196.out)|exact HB.out))));have n1_:=Aside0.mk (blk_below (g:=gb196) (o:=.cells #[.int .i64 a0_0,.int .i64 a0_1,.int .i64 a0_2,.slice A0_3 l0_3.length c0_3] 24 (0,0)) (by (with_reducible repeat (first|refine blk_drewN ?_ _|refine blk_drew ?_|refine blk_alloc ?_ _));exact BK196.out) hb);have n2_:=Aside0.mk (below_step (by repeat (first|(with_reducible first|exact HB.out|apply below_alloc|apply pw_below_drewN|apply below_drew1|refine below_set ?_ GE196.out)|exact HB.out)) hb);clear BK196;clear HB;have HO201:=n0_;have BK196:=n1_;have HB:=n2_;clear n0_ n1_ n2_;clear hb ho17))
      have n0_:=Aside0.mk (Kd.R_drew HO201.out)
      have n1_:=Aside0.mk (blk_drew BK196.out)
      have n2_:=Aside0.mk (below_drew1 HB.out)
      clear HO201
      clear BK196
      clear HB
      have HO201:=n0_
      have BK196:=n1_
      have HB:=n2_
      clear n0_ n1_ n2_
      have p11 : 0 ≤ (a0_2 : Int):=of_decide_eq_true (by first|(with_reducible assumption)|assumption)
      have q11 : (a0_2 : Int) < ((y199.length : Int) : Int):=of_decide_eq_true (by first|(with_reducible assumption)|assumption)
      obtain ⟨go11,co11,eo11,gb11,gl11,cl11,HG11⟩:=Kd.R_form HO201.out (by omega)
      (first|cases eo11|(injection eo11 with ea_ en_ ec_;(first|subst ea_|(injection ea_ with ea_;subst ea_));subst ec_;clear en_))
      have GB11:=Aside0.mk gb11
      have GG11:=Aside0.mk HG11
      clear gb11 gl11 HG11
      obtain ⟨hx11_0,hf11_0⟩:=Kd.R_celln 0 HO201.out (a0_2 : Int) p11 q11
      replace p11:=eq_true p11
      replace q11:=eq_true q11
      have HP19:=Kd.R_putn HO201.out (a0_2 : Int) ji8
      rw [← Ny202.out] at HP19
      have HQ19:=Aside0.mk HP19
      clear HP19
      refine start_ (n:=8) (S:=fun w'=>w'.cell? ⟨gb196,0,none⟩ = some (.int .i64 a0_0) ∧ w'.cell? ⟨gb196,1,none⟩ = some (.int .i64 a0_1) ∧ w'.cell? ⟨gb196,2,none⟩ = some (.int .i64 a0_2) ∧ w'.cell? ⟨gb196,3,none⟩ = some (.slice A0_3 l0_3.length c0_3)) (ds:=[7]) #[false,false,false,false,false,false,false,false] (by kernel_rfl) rfl rfl ⟨(blk_cell BK196.out 0).trans rfl,(blk_cell BK196.out 1).trans rfl,(blk_cell BK196.out 2).trans rfl,(blk_cell BK196.out 3).trans rfl⟩ (fun hHeld=>?_);refine with_tabW ahead_follows.tab3 ahead_follows.bits3 (fun HT_ HW_=>?_)
      generalize w16.drew = w18 at HO201 BK196 HB GG11 HQ19 hf11_0 hx11_0 hHeld ⊢
      refine pure_ (i:=0) (N:=some 25) (v:=?_) (a':=?_) #[true,false,false,false,false,false,false,false] rfl rfl (any_of HT_.out (by kernel_rfl)) (fun _ _ _ h=>h) (Or.inl ⟨by rfl,?_⟩) ?_ ?_
      rotate_left
      ·intro w'
       go_simp
       with_reducible rfl
      rotate_left
      ·simp only [Act.put,List.setIfInBounds_toArray,List.set_cons_zero,List.set_cons_succ,i64_w,i32_w]
       rfl
      refine pure_ (i:=1) (N:=some 26) (v:=?_) (a':=?_) #[true,true,false,false,false,false,false,false] rfl rfl (any_of HT_.out (by kernel_rfl)) (fun _ _ _ h=>h) (Or.inl ⟨by rfl,?_⟩) ?_ ?_
      rotate_left
      ·intro w'
       go_simp
       with_reducible rfl
      rotate_left
      ·simp only [Act.put,List.setIfInBounds_toArray,List.set_cons_zero,List.set_cons_succ,i64_w,i32_w]
       rfl
      refine pure_ (i:=3) (N:=some 28) (v:=?_) (a':=?_) #[true,true,false,true,false,false,false,false] rfl rfl (any_of HT_.out (by kernel_rfl)) (fun _ _ _ h=>h) (Or.inl ⟨by rfl,?_⟩) ?_ ?_
      rotate_left
      ·intro w'
       go_simp
       with_reducible rfl
      rotate_left
      ·simp only [Act.put,List.setIfInBounds_toArray,List.set_cons_zero,List.set_cons_succ,i64_w,i32_w]
       rfl
      refine take_ (i:=2) (N:=some 27) (v:=?_) (a':=?_) #[true,true,true,true,false,false,false,false] rfl rfl (take_ofW HT_.out HW_.out (by kernel_rfl)) (fun _ _ _ h=>h) (Or.inl ⟨by rfl,?_⟩) hHeld ?_ ?_
      rotate_left
      ·rintro w' ⟨s0,s1,s2,s3⟩
       go_simp
       with_reducible rfl
      rotate_left
      ·simp only [Act.put,List.setIfInBounds_toArray,List.set_cons_zero,List.set_cons_succ,i64_w,i32_w]
       rfl
      refine take_ (i:=4) (N:=some 29) (v:=?_) (a':=?_) #[true,true,true,true,true,false,false,false] rfl rfl (take_ofW HT_.out HW_.out (by kernel_rfl)) (fun _ _ _ h=>h) (Or.inl ⟨by rfl,?_⟩) hHeld ?_ ?_
      rotate_left
      ·rintro w' ⟨s0,s1,s2,s3⟩
       go_simp
       with_reducible rfl
      rotate_left
      ·simp only [Act.put,List.setIfInBounds_toArray,List.set_cons_zero,List.set_cons_succ,i64_w,i32_w]
       rfl
      refine pure_ (i:=5) (N:=some 30) (v:=?_) (a':=?_) #[true,true,true,true,true,true,false,false] rfl rfl (any_of HT_.out (by kernel_rfl)) (fun _ _ _ h=>h) (Or.inl ⟨by rfl,?_⟩) ?_ ?_
      rotate_left
      ·intro w'
       go_simp
       with_reducible rfl
      rotate_left
      ·simp only [Act.put,List.setIfInBounds_toArray,List.set_cons_zero,List.set_cons_succ,i64_w,i32_w]
       rfl
      refine pure_ (i:=6) (N:=some 31) (v:=?_) (a':=?_) #[true,true,true,true,true,true,true,false] rfl rfl (any_of HT_.out (by kernel_rfl)) (fun _ _ _ h=>h) (Or.inl ⟨by rfl,?_⟩) ?_ ?_
      rotate_left
      ·intro w'
       go_simp
       with_reducible rfl
      rotate_left
      ·simp only [Act.put,List.setIfInBounds_toArray,List.set_cons_zero,List.set_cons_succ,i64_w,i32_w]
       rfl
      refine last_ (i:=7) (N:=none) #[true,true,true,true,true,true,true,true] rfl rfl (one_of HT_.out (by kernel_rfl)) (by decide) (fun K hK=>?_)
      refine skip_ (w1:=?_) (by rfl) rfl ?_ ?_
      rotate_left
      ·go_simp
       rfl
      refine hK.out _ _ ?_
      clear hK K
      refine done_ (done_of HT_.out (by kernel_rfl)) ?_
      try go_wp2
      go_loopg [10] k (fun kq v10 w'=>∃ (x9_1 : List Int) (x10_1 : Bool),v10 = .bool x10_1 ∧ Aside0 (ahead_follows.l0 kq l1 a2 t197 x9_1 x10_1 a0_0 a0_1 a0_2 l0_3 = some r) ∧ Aside0 (kq ≤ k) ∧ Aside0 (Kd.R (Kd.int .u32) 28 w' w.heap.size (fun _=>True) (.slice (some ⟨go11,0,none⟩) y199.length co11) x9_1) ∧ Aside0 (w'.heap[gb196]? = some (.cells #[.int .i64 a0_0,.int .i64 a0_1,.int .i64 a0_2,(.slice A0_3 l0_3.length c0_3)] 24 (0,0))) ∧ Aside0 (Below w.heap.size w w'))
      case atStart=>exact ⟨(y202),(true),(by first|rfl|(simp;done)|(simp [*];done)),H',⟨Nat.le_refl _⟩,⟨by (with_reducible repeat (first|apply Kd.R_alloc|apply Kd.R_drewN|apply Kd.R_drew));exact HQ19.out⟩,⟨by (with_reducible repeat (first|refine blk_drewN ?_ _|refine blk_drew ?_|refine blk_alloc ?_ _));refine blk_far ?_ (by have h_:=Kd.R_ne HO201.out BK196.out (by decide);intro e_;exact h_ (by rw [e_];rfl)) _;(with_reducible repeat (first|refine blk_drewN ?_ _|refine blk_drew ?_|refine blk_alloc ?_ _));exact BK196.out⟩,⟨by repeat (first|(with_reducible first|exact HB.out|apply below_alloc|apply pw_below_drewN|apply below_drew1|refine below_set ?_ GB11.out|refine below_set ?_ GE196.out)|exact HB.out)⟩⟩
      case round =>
       clear H'
       try clear c1
       try clear p1
       try clear q1
       try clear hx1
       try clear p2
       try clear c5
       try clear c5b0
       try clear c5b1
       try clear c6
       try clear c6b0
       try clear c6b1
       try clear c7
       try clear c7b0
       try clear c7b1
       try clear c9
       try clear c9b0
       try clear c10
       try clear c10b0
       try clear p11
       try clear q11
       try clear hx11
       try clear hf11
       try clear c17
       try clear hcz13_0
       try clear hcz13_1
       try clear hcz13_2
       try clear hcz13_3
       try clear hcz15_0
       try clear hcz15_1
       try clear hcz15_2
       try clear hcz15_3
       try clear hfz13_0
       try clear hfz13_1
       try clear hfz13_2
       try clear hfz13_3
       try clear hfz15_0
       try clear hfz15_1
       try clear hfz15_2
       try clear hfz15_3
       try clear hx11_0
       try clear p11
       try clear q11
       obtain ⟨x9_1,x10_1,rfl,HA,HK1,HO_9,BK196,HB⟩:=hrel
       have hl9_1:=(Kd.R_reads' HO_9.out).1
       rw [hl9_1] at HO_9
       (try simp only [hl9_1])
       (try simp only [hl9_1] at BK196)
       cases gk with
       | zero=>exact absurd HA.out (by simp [ahead_follows.l0])
       | succ k1 =>
        have H:=HA.out
        clear HA
        simp only [ahead_follows.l0] at H
        by_cases c20 : x10_1 = true
        ·subst c20
         have H1 : (ahead_follows.l1 k1 l1 a2 t197 x9_1 false l0_3 (l0_3.length : Int) 0 a0_0 a0_1 a0_2 l0_3) = some r:=by rw [if_pos rfl] at H;exact H
         clear H
         have H:=H1
         clear H1
         have H':=Aside0.mk H
         clear H
         have hcz21_0 : wr.cell? ⟨gb196,0,none⟩ = some (.int .i64 a0_0):=(blk_cell BK196.out 0).trans rfl
         have hcz21_1 : wr.cell? ⟨gb196,1,none⟩ = some (.int .i64 a0_1):=(blk_cell BK196.out 1).trans rfl
         have hcz21_2 : wr.cell? ⟨gb196,2,none⟩ = some (.int .i64 a0_2):=(blk_cell BK196.out 2).trans rfl
         have hcz21_3 : wr.cell? ⟨gb196,3,none⟩ = some (.slice A0_3 l0_3.length c0_3):=(blk_cell BK196.out 3).trans rfl
         have hfz21_0:=blk_frozen BK196.out 0
         have hfz21_1:=blk_frozen BK196.out 1
         have hfz21_2:=blk_frozen BK196.out 2
         have hfz21_3:=blk_frozen BK196.out 3
         go_wp2
         go_loopg [10,36] k1 (fun kq v10 v36 w'=>∃ (x9_2 : List Int) (x10_2 : Bool) (x36_2 : Int),v10 = .bool x10_2 ∧ v36 = .int .i64 x36_2 ∧ Aside0 (ahead_follows.l1 kq l1 a2 t197 x9_2 x10_2 l0_3 (l0_3.length : Int) x36_2 a0_0 a0_1 a0_2 l0_3 = some r) ∧ Aside0 (kq ≤ k1) ∧ Aside0 (Kd.R (Kd.int .u32) 28 w' w.heap.size (fun _=>True) (.slice (some ⟨go11,0,none⟩) x9_1.length co11) x9_2) ∧ Aside0 (w'.heap[gb196]? = some (.cells #[.int .i64 a0_0,.int .i64 a0_1,.int .i64 a0_2,(.slice A0_3 l0_3.length c0_3)] 24 (0,0))) ∧ Aside0 (Below w.heap.size w w'))
         case atStart=>exact ⟨(x9_1),(false),(0),(by first|rfl|(simp;done)|(simp [*];done)),(by first|rfl|(simp;done)|(simp [*];done)),H',⟨Nat.le_refl _⟩,⟨by (try simp only [hl9_1]);(with_reducible repeat (first|apply Kd.R_alloc|apply Kd.R_drewN|apply Kd.R_drew));exact HO_9.out⟩,⟨by (try simp only [hl9_1]);(with_reducible repeat (first|refine blk_drewN ?_ _|refine blk_drew ?_|refine blk_alloc ?_ _));exact BK196.out⟩,⟨by repeat (first|(with_reducible first|exact HB.out|apply below_alloc|apply pw_below_drewN|apply below_drew1|refine below_set ?_ GE196.out)|exact HB.out)⟩⟩
         case round =>
          clear H'
          try clear c1
          try clear p1
          try clear q1
          try clear hx1
          try clear c2
          try clear p2
          try clear c5
          try clear c5b0
          try clear c5b1
          try clear c6
          try clear c6b0
          try clear c6b1
          try clear c7
          try clear c7b0
          try clear c7b1
          try clear c9
          try clear c9b0
          try clear c10
          try clear c10b0
          try clear p11
          try clear q11
          try clear hx11
          try clear hf11
          try clear c17
          try clear c20
          try clear hcz13_0
          try clear hcz13_1
          try clear hcz13_2
          try clear hcz13_3
          try clear hcz15_0
          try clear hcz15_1
          try clear hcz15_2
          try clear hcz15_3
          try clear hcz21_0
          try clear hcz21_1
          try clear hcz21_2
          try clear hcz21_3
          try clear hfz13_0
          try clear hfz13_1
          try clear hfz13_2
          try clear hfz13_3
          try clear hfz15_0
          try clear hfz15_1
          try clear hfz15_2
          try clear hfz15_3
          try clear hfz21_0
          try clear hfz21_1
          try clear hfz21_2
          try clear hfz21_3
          try clear hx11_0
          try clear p1
          try clear p11
          try clear p2
          try clear q1
          try clear q11
          obtain ⟨x9_2,x10_2,x36_2,rfl,rfl,HA,HK2,HO_9,BK196,HB⟩:=hrel
          have hl9_2:=(Kd.R_reads' HO_9.out).1
          rw [hl9_2] at HO_9
          (try simp only [hl9_2])
          (try simp only [hl9_2] at BK196)
          cases gk with
          | zero=>exact absurd HA.out (by simp [ahead_follows.l1])
          | succ k2 =>
           have H:=HA.out
           clear HA
           simp only [ahead_follows.l1] at H
           by_cases c22 : x36_2 < (l0_3.length : Int)
           ·rw [if_pos c22] at H
            have c22b0 : decide (x36_2 < (l0_3.length : Int)) = true:=decide_eq_true c22
            (try (have c22b0h:=c22b0;simp only [hl9_1,hl9_2] at c22b0h))
            clear c22
            by_cases c23 : 0 ≤ x36_2
            ·rw [if_pos c23] at H
             have c23b0 : decide (0 ≤ x36_2) = true:=decide_eq_true c23
             clear c23
             by_cases c24 : x36_2 < (l0_3.length : Int)
             ·rw [if_pos c24] at H
              have c24b0 : decide (x36_2 < (l0_3.length : Int)) = true:=decide_eq_true c24
              (try (have c24b0h:=c24b0;simp only [hl9_1,hl9_2] at c24b0h))
              clear c24
              by_cases c25 : 0 ≤ ((rd_T27 l0_3 x36_2).f0)
              ·rw [if_pos c25] at H
               have c25b0:=eq_true c25
               have c25b1 : decide (0 ≤ ((rd_T27 l0_3 x36_2).f0)) = true:=decide_eq_true c25
               clear c25
               obtain ⟨ji26,hji26⟩ : ∃ j_ : Int,(shr .u32 t197 ((rd_T27 l0_3 x36_2).f0)) = j_:=⟨_,rfl⟩
               replace H : (if (Go.bits .and .u32 (ji26) 1) = 0 then (ahead_follows.l1 k2 l1 a2 t197 x9_2 x10_2 l0_3 (l0_3.length : Int) (wrap64 (x36_2 + 1)) a0_0 a0_1 a0_2 l0_3) else (ahead_follows.l2 k2 l1 a2 t197 x9_2 x10_2 l0_3 (l0_3.length : Int) x36_2 ((rd_T27 l0_3 x36_2).f1) (((rd_T27 l0_3 x36_2).f1).length : Int) 0 a0_0 a0_1 a0_2 l0_3 ((rd_T27 l0_3 x36_2).f0) ((rd_T27 l0_3 x36_2).f1))) = some r:=by first|(rw [hji26] at H;exact H)|(simp only [hji26] at H ⊢;exact H)
               have hji26_ : (t197 / 2 ^ min ((rd_T27 l0_3 x36_2).f0).toNat 32) = ji26:=hji26
               have hji26z : ((rd_T27 l0_3 x36_2).f0) ≤ 32 → (t197 / 2 ^ ((rd_T27 l0_3 x36_2).f0).toNat) = ji26:=shr_small hji26
               by_cases c27 : (Go.bits .and .u32 (ji26) 1) = 0
               ·rw [if_pos c27] at H
                have c27b0 : ((Go.bits .and .u32 (ji26) 1) == 0) = true:=beq_iff_eq.mpr c27
                have c27b1 : ((Go.bits .and .u32 (ji26) 1) != 0) = false:=bne_eq_false_iff_eq.mpr c27
                clear c27
                have H':=Aside0.mk H
                clear H
                have p203 : 0 ≤ (x36_2 : Int):=of_decide_eq_true (by first|(with_reducible assumption)|assumption)
                have q203 : x36_2 < (l0_3.length : Int):=of_decide_eq_true (by first|(with_reducible assumption)|assumption)
                obtain ⟨ad203,A203_1,c203_1,e203,hx203_0,hx203_1,hl203_1,hi203_1⟩:=at_T27 HR0_3.out x36_2 p203 q203
                cases e203
                replace hx203_0:=(HB.out.cell (World.block_lt_of_cell? w _ hx203_0)).trans hx203_0
                replace hx203_1:=(HB.out.cell (World.block_lt_of_cell? w _ hx203_1)).trans hx203_1
                have HR203_1:=Aside0.mk hi203_1
                have HC203_1:=Aside0.mk hl203_1
                clear hi203_1 hl203_1
                replace p203:=eq_true p203
                replace q203:=eq_true q203
                go_wp2_with (first|((with_reducible refine gate_dst (N:=12) rfl ?_);refine box_event ?hg (N:=12) ?hd (cs:=#[.int .i64 0,.slice none 0 0]) (t:=27) ?hr ?_;(case hd=>rfl);(case hg=>rfl);(case hr=>first|(go_simp;done)|(go_simp;rfl));intro gb204 hg w28 hbox hb;have n0_:=Aside0.mk (Kd.R_below (by (with_reducible repeat (first|apply Kd.R_alloc|apply Kd.R_drewN|apply Kd.R_drew));exact HO_9.out) hb);have n1_:=Aside0.mk (blk_below (g:=gb196) (o:=.cells #[.int .i64 a0_0,.int .i64 a0_1,.int .i64 a0_2,.slice (some ad203) l0_3.length c0_3] 24 (0,0)) (by (with_reducible repeat (first|refine blk_drewN ?_ _|refine blk_drew ?_|refine blk_alloc ?_ _));exact BK196.out) hb);have n2_:=Aside0.mk (below_step (by repeat (first|(with_reducible first|exact HB.out|apply below_alloc|apply pw_below_drewN|apply below_drew1|refine below_set ?_ GE196.out)|exact HB.out)) hb);have n3_:=Aside0.mk (hbox);have n4_:=Aside0.mk ((by rw [hg];exact (below_size (by repeat (first|(with_reducible first|exact HB.out|apply below_alloc|apply pw_below_drewN|apply below_drew1|refine below_set ?_ GE196.out)|exact HB.out))) : w.heap.size ≤ gb204));have n5_:=Aside0.mk ((by rw [hg];exact (below_size (by repeat (first|(with_reducible first|exact HB.out|apply below_alloc|apply pw_below_drewN|apply below_drew1|refine below_set ?_ GE196.out)|exact HB.out))) : w.heap.size ≤ gb204));have n6_:=Aside0.mk ((by rw [hg];exact Nat.ne_of_lt (blk_lt (g:=gb196) (o:=.cells #[.int .i64 a0_0,.int .i64 a0_1,.int .i64 a0_2,.slice (some ad203) l0_3.length c0_3] 24 (0,0)) (by (with_reducible repeat (first|refine blk_drewN ?_ _|refine blk_drew ?_|refine blk_alloc ?_ _));exact BK196.out)) : gb196 ≠ gb204));have n7_:=Aside0.mk ((by rw [hg];exact Nat.ne_of_gt (blk_lt (g:=gb196) (o:=.cells #[.int .i64 a0_0,.int .i64 a0_1,.int .i64 a0_2,.slice (some ad203) l0_3.length c0_3] 24 (0,0)) (by (with_reducible repeat (first|refine blk_drewN ?_ _|refine blk_drew ?_|refine blk_alloc ?_ _));exact BK196.out)) : gb204 ≠ gb196));clear HO_9;clear BK196;clear HB;have HO_9:=n0_;have BK196:=n1_;have HB:=n2_;have BK204:=n3_;have GW204:=n4_;have GE204:=n5_;have NB196_204:=n6_;have NB204_196:=n7_;clear n0_ n1_ n2_ n3_ n4_ n5_ n6_ n7_;clear hb hbox hg;have hnb29:=NB204_196.out;have hnc29:=NB196_204.out;have hcz30_0 : w28.cell? ⟨gb204,0,none⟩ = some (.int .i64 0):=(blk_cell BK204.out 0).trans rfl;have hcz30_1 : w28.cell? ⟨gb204,1,none⟩ = some (.slice none 0 0):=(blk_cell BK204.out 1).trans rfl;have hfz30_0:=blk_frozen BK204.out 0;have hfz30_1:=blk_frozen BK204.out 1))
                (try simp only [← hl9_2])
                first|go_roundg k2|((simp only [← hji8,← hji26]);go_roundg k2)
                case measure=>have:=HK1.out;have:=HK2.out;omega
                case rel=>exact ⟨(x9_2),(x10_2),(wrap64 (x36_2 + 1)),(by first|rfl|(simp;done)|(simp [*];done)),(by first|rfl|(simp;done)|(simp [*];done)),(by first|exact H'|((simp only [hji8,hji26]);exact H')|(have h_:=H'.out;simp only [← hji8,← hji26] at h_ ⊢;exact ⟨h_⟩)),⟨by have:=HK1.out;have:=HK2.out;omega⟩,⟨by (try simp only [hl9_1]);(try simp only [hl9_2]);(with_reducible repeat (first|apply Kd.R_alloc|apply Kd.R_drewN|apply Kd.R_drew));exact Kd.R_mono (Kd.R_far (p:=⟨gb204,1,none⟩) (Kd.R_far (p:=⟨gb204,0,none⟩) (Kd.R_types HO_9.out BK204.out (by decide)) (fun _ hk=>hk.2) (.int .i64 ((rd_T27 l0_3 x36_2).f0))) (fun _ hk=>hk.2) (.slice A203_1 ((rd_T27 l0_3 x36_2).f1).length c203_1)) (fun _ hk=>trivial)⟩,⟨by (try simp only [hl9_1]);(try simp only [hl9_2]);(with_reducible repeat (first|refine blk_drewN ?_ _|refine blk_drew ?_|refine blk_alloc ?_ _));refine blk_far ?_ NB196_204.out _;(with_reducible repeat (first|refine blk_drewN ?_ _|refine blk_drew ?_|refine blk_alloc ?_ _));refine blk_far ?_ NB196_204.out _;(with_reducible repeat (first|refine blk_drewN ?_ _|refine blk_drew ?_|refine blk_alloc ?_ _));exact BK196.out⟩,⟨by repeat (first|(with_reducible first|exact HB.out|apply below_alloc|apply pw_below_drewN|apply below_drew1|refine below_set ?_ GE196.out|refine below_set ?_ GE204.out)|exact HB.out)⟩⟩
               ·rw [if_neg c27] at H
                have c27b0 : ((Go.bits .and .u32 (ji26) 1) == 0) = false:=beq_eq_false_iff_ne.mpr c27
                have c27b1 : ((Go.bits .and .u32 (ji26) 1) != 0) = true:=bne_iff_ne.mpr c27
                have H':=Aside0.mk H
                clear H
                have p203 : 0 ≤ (x36_2 : Int):=of_decide_eq_true (by first|(with_reducible assumption)|assumption)
                have q203 : x36_2 < (l0_3.length : Int):=of_decide_eq_true (by first|(with_reducible assumption)|assumption)
                obtain ⟨ad203,A203_1,c203_1,e203,hx203_0,hx203_1,hl203_1,hi203_1⟩:=at_T27 HR0_3.out x36_2 p203 q203
                cases e203
                replace hx203_0:=(HB.out.cell (World.block_lt_of_cell? w _ hx203_0)).trans hx203_0
                replace hx203_1:=(HB.out.cell (World.block_lt_of_cell? w _ hx203_1)).trans hx203_1
                have HR203_1:=Aside0.mk hi203_1
                have HC203_1:=Aside0.mk hl203_1
                clear hi203_1 hl203_1
                replace p203:=eq_true p203
                replace q203:=eq_true q203
                go_wp2_with (first|((with_reducible refine gate_dst (N:=12) rfl ?_);refine box_event ?hg (N:=12) ?hd (cs:=#[.int .i64 0,.slice none 0 0]) (t:=27) ?hr ?_;(case hd=>rfl);(case hg=>rfl);(case hr=>first|(go_simp;done)|(go_simp;rfl));intro gb204 hg w31 hbox hb;have n0_:=Aside0.mk (Kd.R_below (by (with_reducible repeat (first|apply Kd.R_alloc|apply Kd.R_drewN|apply Kd.R_drew));exact HO_9.out) hb);have n1_:=Aside0.mk (blk_below (g:=gb196) (o:=.cells #[.int .i64 a0_0,.int .i64 a0_1,.int .i64 a0_2,.slice (some ad203) l0_3.length c0_3] 24 (0,0)) (by (with_reducible repeat (first|refine blk_drewN ?_ _|refine blk_drew ?_|refine blk_alloc ?_ _));exact BK196.out) hb);have n2_:=Aside0.mk (below_step (by repeat (first|(with_reducible first|exact HB.out|apply below_alloc|apply pw_below_drewN|apply below_drew1|refine below_set ?_ GE196.out)|exact HB.out)) hb);have n3_:=Aside0.mk (hbox);have n4_:=Aside0.mk ((by rw [hg];exact (below_size (by repeat (first|(with_reducible first|exact HB.out|apply below_alloc|apply pw_below_drewN|apply below_drew1|refine below_set ?_ GE196.out)|exact HB.out))) : w.heap.size ≤ gb204));have n5_:=Aside0.mk ((by rw [hg];exact (below_size (by repeat (first|(with_reducible first|exact HB.out|apply below_alloc|apply pw_below_drewN|apply below_drew1|refine below_set ?_ GE196.out)|exact HB.out))) : w.heap.size ≤ gb204));have n6_:=Aside0.mk ((by rw [hg];exact Nat.ne_of_lt (blk_lt (g:=gb196) (o:=.cells #[.int .i64 a0_0,.int .i64 a0_1,.int .i64 a0_2,.slice (some ad203) l0_3.length c0_3] 24 (0,0)) (by (with_reducible repeat (first|refine blk_drewN ?_ _|refine blk_drew ?_|refine blk_alloc ?_ _));exact BK196.out)) : gb196 ≠ gb204));have n7_:=Aside0.mk ((by rw [hg];exact Nat.ne_of_gt (blk_lt (g:=gb196) (o:=.cells #[.int .i64 a0_0,.int .i64 a0_1,.int .i64 a0_2,.slice (some ad203) l0_3.length c0_3] 24 (0,0)) (by (with_reducible repeat (first|refine blk_drewN ?_ _|refine blk_drew ?_|refine blk_alloc ?_ _));exact BK196.out)) : gb204 ≠ gb196));clear HO_9;clear BK196;clear HB;have HO_9:=n0_;have BK196:=n1_;have HB:=n2_;have BK204:=n3_;have GW204:=n4_;have GE204:=n5_;have NB196_204:=n6_;have NB204_196:=n7_;clear n0_ n1_ n2_ n3_ n4_ n5_ n6_ n7_;clear hb hbox hg;have hnb32:=NB204_196.out;have hnc32:=NB196_204.out;have hcz33_0 : w31.cell? ⟨gb204,0,none⟩ = some (.int .i64 0):=(blk_cell BK204.out 0).trans rfl;have hcz33_1 : w31.cell? ⟨gb204,1,none⟩ = some (.slice none 0 0):=(blk_cell BK204.out 1).trans rfl;have hfz33_0:=blk_frozen BK204.out 0;have hfz33_1:=blk_frozen BK204.out 1))
                go_loopg [10,49] k2 (fun kq v10 v49 w'=>∃ (x9_3 : List Int) (x10_3 : Bool) (x49_3 : Int),v10 = .bool x10_3 ∧ v49 = .int .i64 x49_3 ∧ Aside0 (ahead_follows.l2 kq l1 a2 t197 x9_3 x10_3 l0_3 (l0_3.length : Int) x36_2 ((rd_T27 l0_3 x36_2).f1) (((rd_T27 l0_3 x36_2).f1).length : Int) x49_3 a0_0 a0_1 a0_2 l0_3 ((rd_T27 l0_3 x36_2).f0) ((rd_T27 l0_3 x36_2).f1) = some r) ∧ Aside0 (kq ≤ k2) ∧ Aside0 (Kd.R (Kd.int .u32) 28 w' w.heap.size (fun _=>True) (.slice (some ⟨go11,0,none⟩) x9_2.length co11) x9_3) ∧ Aside0 (w'.heap[gb196]? = some (.cells #[.int .i64 a0_0,.int .i64 a0_1,.int .i64 a0_2,(.slice (some ad203) l0_3.length c0_3)] 24 (0,0))) ∧ Aside0 (w'.heap[gb204]? = some (.cells #[.int .i64 ((rd_T27 l0_3 x36_2).f0),(.slice A203_1 ((rd_T27 l0_3 x36_2).f1).length c203_1)] 27 (0,0))) ∧ Aside0 (Below w.heap.size w w'))
                case atStart=>exact ⟨(x9_2),(x10_2),(0),(by first|rfl|(simp;done)|(simp [*];done)),(by first|rfl|(simp;done)|(simp [*];done)),H',⟨Nat.le_refl _⟩,⟨by (try simp only [hl9_1]);(try simp only [hl9_2]);(with_reducible repeat (first|apply Kd.R_alloc|apply Kd.R_drewN|apply Kd.R_drew));exact Kd.R_mono (Kd.R_far (p:=⟨gb204,1,none⟩) (Kd.R_far (p:=⟨gb204,0,none⟩) (Kd.R_types HO_9.out BK204.out (by decide)) (fun _ hk=>hk.2) (.int .i64 ((rd_T27 l0_3 x36_2).f0))) (fun _ hk=>hk.2) (.slice A203_1 ((rd_T27 l0_3 x36_2).f1).length c203_1)) (fun _ hk=>trivial)⟩,⟨by (try simp only [hl9_1]);(try simp only [hl9_2]);(with_reducible repeat (first|refine blk_drewN ?_ _|refine blk_drew ?_|refine blk_alloc ?_ _));refine blk_far ?_ NB196_204.out _;(with_reducible repeat (first|refine blk_drewN ?_ _|refine blk_drew ?_|refine blk_alloc ?_ _));refine blk_far ?_ NB196_204.out _;(with_reducible repeat (first|refine blk_drewN ?_ _|refine blk_drew ?_|refine blk_alloc ?_ _));exact BK196.out⟩,⟨by (try simp only [hl9_1]);(try simp only [hl9_2]);(with_reducible repeat (first|refine blk_drewN ?_ _|refine blk_drew ?_|refine blk_alloc ?_ _));refine blk_put (cs:=#[.int .i64 ((rd_T27 l0_3 x36_2).f0),.slice none 0 0]) ?_ 1 _ rfl;(with_reducible repeat (first|refine blk_drewN ?_ _|refine blk_drew ?_|refine blk_alloc ?_ _));refine blk_put (cs:=#[.int .i64 0,.slice none 0 0]) ?_ 0 _ rfl;(with_reducible repeat (first|refine blk_drewN ?_ _|refine blk_drew ?_|refine blk_alloc ?_ _));exact BK204.out⟩,⟨by repeat (first|(with_reducible first|exact HB.out|apply below_alloc|apply pw_below_drewN|apply below_drew1|refine below_set ?_ GE196.out|refine below_set ?_ GE204.out)|exact HB.out)⟩⟩
                case round =>
                 clear H'
                 try clear c1
                 try clear p1
                 try clear q1
                 try clear hx1
                 try clear c2
                 try clear p2
                 try clear q2
                 try clear hx2
                 try clear c3
                 try clear c5
                 try clear c5b0
                 try clear c5b1
                 try clear c6
                 try clear c6b0
                 try clear c6b1
                 try clear p6
                 try clear c7
                 try clear c7b0
                 try clear c7b1
                 try clear c9
                 try clear c9b0
                 try clear c10
                 try clear c10b0
                 try clear p11
                 try clear q11
                 try clear hx11
                 try clear hf11
                 try clear c17
                 try clear c20
                 try clear p20
                 try clear q20
                 try clear hx20
                 try clear c22
                 try clear c22b0
                 try clear c23
                 try clear c23b0
                 try clear c24
                 try clear c24b0
                 try clear c25
                 try clear c25b0
                 try clear c25b1
                 try clear c27
                 try clear c27b0
                 try clear c27b1
                 try clear c29
                 try clear c32
                 try clear hcz13_0
                 try clear hcz13_1
                 try clear hcz13_2
                 try clear hcz13_3
                 try clear hcz15_0
                 try clear hcz15_1
                 try clear hcz15_2
                 try clear hcz15_3
                 try clear hcz21_0
                 try clear hcz21_1
                 try clear hcz21_2
                 try clear hcz21_3
                 try clear hcz30_0
                 try clear hcz30_1
                 try clear hcz33_0
                 try clear hcz33_1
                 try clear hfz13_0
                 try clear hfz13_1
                 try clear hfz13_2
                 try clear hfz13_3
                 try clear hfz15_0
                 try clear hfz15_1
                 try clear hfz15_2
                 try clear hfz15_3
                 try clear hfz21_0
                 try clear hfz21_1
                 try clear hfz21_2
                 try clear hfz21_3
                 try clear hfz30_0
                 try clear hfz30_1
                 try clear hfz33_0
                 try clear hfz33_1
                 try clear hx11_0
                 try clear hx203_0
                 try clear hx203_1
                 try clear p1
                 try clear p11
                 try clear p2
                 try clear p203
                 try clear q1
                 try clear q11
                 try clear q203
                 obtain ⟨x9_3,x10_3,x49_3,rfl,rfl,HA,HK3,HO_9,BK196,BK204,HB⟩:=hrel
                 have hl9_3:=(Kd.R_reads' HO_9.out).1
                 rw [hl9_3] at HO_9
                 (try simp only [hl9_3])
                 (try simp only [hl9_3] at BK196)
                 (try simp only [hl9_3] at BK204)
                 cases gk with
                 | zero=>exact absurd HA.out (by simp [ahead_follows.l2])
                 | succ k3 =>
                  have H:=HA.out
                  clear HA
                  simp only [ahead_follows.l2] at H
                  by_cases c34 : x49_3 < (((rd_T27 l0_3 x36_2).f1).length : Int)
                  ·rw [if_pos c34] at H
                   have c34b0 : decide (x49_3 < (((rd_T27 l0_3 x36_2).f1).length : Int)) = true:=decide_eq_true c34
                   (try (have c34b0h:=c34b0;simp only [hl9_1,hl9_2,hl9_3] at c34b0h))
                   clear c34
                   by_cases c35 : 0 ≤ x49_3
                   ·rw [if_pos c35] at H
                    have c35b0 : decide (0 ≤ x49_3) = true:=decide_eq_true c35
                    clear c35
                    by_cases c36 : x49_3 < (((rd_T27 l0_3 x36_2).f1).length : Int)
                    ·rw [if_pos c36] at H
                     have c36b0 : decide (x49_3 < (((rd_T27 l0_3 x36_2).f1).length : Int)) = true:=decide_eq_true c36
                     (try (have c36b0h:=c36b0;simp only [hl9_1,hl9_2,hl9_3] at c36b0h))
                     clear c36
                     by_cases c37 : (rd ((rd_T27 l0_3 x36_2).f1) x49_3) < a0_0
                     ·rw [if_pos c37] at H
                      have c37b0 : decide ((rd ((rd_T27 l0_3 x36_2).f1) x49_3) < a0_0) = true:=decide_eq_true c37
                      clear c37
                      have H':=Aside0.mk H
                      clear H
                      have p205 : 0 ≤ (x49_3 : Int):=of_decide_eq_true (by first|(with_reducible assumption)|assumption)
                      have q205 : x49_3 < (((rd_T27 l0_3 x36_2).f1).length : Int):=of_decide_eq_true (by first|(with_reducible assumption)|assumption)
                      obtain ⟨ad205,e205,hx205_0⟩:=Kd.at_int HR203_1.out x49_3 p205 q205
                      cases e205
                      replace hx205_0:=(HB.out.cell (World.block_lt_of_cell? w _ hx205_0)).trans hx205_0
                      replace p205:=eq_true p205
                      replace q205:=eq_true q205
                      have hnb38:=NB196_204.out
                      have hnc38:=NB204_196.out
                      have hcz39_0 : wr.cell? ⟨gb196,0,none⟩ = some (.int .i64 a0_0):=(blk_cell BK196.out 0).trans rfl
                      have hcz39_1 : wr.cell? ⟨gb196,1,none⟩ = some (.int .i64 a0_1):=(blk_cell BK196.out 1).trans rfl
                      have hcz39_2 : wr.cell? ⟨gb196,2,none⟩ = some (.int .i64 a0_2):=(blk_cell BK196.out 2).trans rfl
                      have hcz39_3 : wr.cell? ⟨gb196,3,none⟩ = some (.slice (some ad203) l0_3.length c0_3):=(blk_cell BK196.out 3).trans rfl
                      have hfz39_0:=blk_frozen BK196.out 0
                      have hfz39_1:=blk_frozen BK196.out 1
                      have hfz39_2:=blk_frozen BK196.out 2
                      have hfz39_3:=blk_frozen BK196.out 3
                      go_wp2
                      (try simp only [← hl9_3])
                      first|go_roundg k3|((simp only [← hji8,← hji26]);go_roundg k3)
                      case measure=>have:=HK1.out;have:=HK2.out;have:=HK3.out;omega
                      case rel=>exact ⟨(x9_3),(x10_3),(wrap64 (x49_3 + 1)),(by first|rfl|(simp;done)|(simp [*];done)),(by first|rfl|(simp;done)|(simp [*];done)),(by first|exact H'|((simp only [hji8,hji26]);exact H')|(have h_:=H'.out;simp only [← hji8,← hji26] at h_ ⊢;exact ⟨h_⟩)),⟨by have:=HK1.out;have:=HK2.out;have:=HK3.out;omega⟩,⟨by (try simp only [hl9_1]);(try simp only [hl9_2]);(try simp only [hl9_3]);(with_reducible repeat (first|apply Kd.R_alloc|apply Kd.R_drewN|apply Kd.R_drew));exact HO_9.out⟩,⟨by (try simp only [hl9_1]);(try simp only [hl9_2]);(try simp only [hl9_3]);(with_reducible repeat (first|refine blk_drewN ?_ _|refine blk_drew ?_|refine blk_alloc ?_ _));exact BK196.out⟩,⟨by (try simp only [hl9_1]);(try simp only [hl9_2]);(try simp only [hl9_3]);(with_reducible repeat (first|refine blk_drewN ?_ _|refine blk_drew ?_|refine blk_alloc ?_ _));exact BK204.out⟩,⟨by repeat (first|(with_reducible first|exact HB.out|apply below_alloc|apply pw_below_drewN|apply below_drew1|refine below_set ?_ GE196.out|refine below_set ?_ GE204.out)|exact HB.out)⟩⟩
                     ·rw [if_neg c37] at H
                      have c37b0 : decide ((rd ((rd_T27 l0_3 x36_2).f1) x49_3) < a0_0) = false:=decide_eq_false c37
                      clear c37
                      obtain ⟨ji40,hji40⟩ : ∃ j_ : Int,(wrap64 (x49_3 + 1)) = j_:=⟨_,rfl⟩
                      replace H : (if 0 ≤ (ji40) then (if (ji40) ≤ (((rd_T27 l0_3 x36_2).f1).length : Int) then ((ahead_begin.f k3 a0_0 a0_1 a0_2 l0_3 l1 a2 (((rd_T27 l0_3 x36_2).f1).drop ((ji40) : Int).toNat)).bind fun bt207=>(if bt207.2 = true then (if 0 ≤ ((rd_T27 l0_3 x36_2).f0) then (if ((rd_T27 l0_3 x36_2).f0) < (x9_3.length : Int) then (if x10_3 = true then (if 0 ≤ (wrap64 ((rd ((rd_T27 l0_3 x36_2).f1) x49_3) - a0_0)) then (if (wrap64 ((rd ((rd_T27 l0_3 x36_2).f1) x49_3) - a0_0)) < (x9_3.length : Int) then (ahead_follows.l2 k3 l1 a2 t197 (x9_3.set ((wrap64 ((rd ((rd_T27 l0_3 x36_2).f1) x49_3) - a0_0)) : Int).toNat (Go.bits .or .u32 (rd x9_3 (wrap64 ((rd ((rd_T27 l0_3 x36_2).f1) x49_3) - a0_0))) (Go.bits .or .u32 bt207.1 (rd x9_3 ((rd_T27 l0_3 x36_2).f0))))) true l0_3 (l0_3.length : Int) x36_2 ((rd_T27 l0_3 x36_2).f1) (((rd_T27 l0_3 x36_2).f1).length : Int) ji40 a0_0 a0_1 a0_2 l0_3 ((rd_T27 l0_3 x36_2).f0) ((rd_T27 l0_3 x36_2).f1)) else (none)) else (none)) else (if 0 ≤ (wrap64 ((rd ((rd_T27 l0_3 x36_2).f1) x49_3) - a0_0)) then (if (wrap64 ((rd ((rd_T27 l0_3 x36_2).f1) x49_3) - a0_0)) < (x9_3.length : Int) then (ahead_follows.l2 k3 l1 a2 t197 (x9_3.set ((wrap64 ((rd ((rd_T27 l0_3 x36_2).f1) x49_3) - a0_0)) : Int).toNat (Go.bits .or .u32 (rd x9_3 (wrap64 ((rd ((rd_T27 l0_3 x36_2).f1) x49_3) - a0_0))) (Go.bits .or .u32 bt207.1 (rd x9_3 ((rd_T27 l0_3 x36_2).f0))))) ((Go.bits .andNot .u32 (Go.bits .or .u32 bt207.1 (rd x9_3 ((rd_T27 l0_3 x36_2).f0))) (rd x9_3 (wrap64 ((rd ((rd_T27 l0_3 x36_2).f1) x49_3) - a0_0)))) != 0) l0_3 (l0_3.length : Int) x36_2 ((rd_T27 l0_3 x36_2).f1) (((rd_T27 l0_3 x36_2).f1).length : Int) ji40 a0_0 a0_1 a0_2 l0_3 ((rd_T27 l0_3 x36_2).f0) ((rd_T27 l0_3 x36_2).f1)) else (none)) else (none))) else (none)) else (none)) else (if x10_3 = true then (if 0 ≤ (wrap64 ((rd ((rd_T27 l0_3 x36_2).f1) x49_3) - a0_0)) then (if (wrap64 ((rd ((rd_T27 l0_3 x36_2).f1) x49_3) - a0_0)) < (x9_3.length : Int) then (ahead_follows.l2 k3 l1 a2 t197 (x9_3.set ((wrap64 ((rd ((rd_T27 l0_3 x36_2).f1) x49_3) - a0_0)) : Int).toNat (Go.bits .or .u32 (rd x9_3 (wrap64 ((rd ((rd_T27 l0_3 x36_2).f1) x49_3) - a0_0))) bt207.1)) true l0_3 (l0_3.length : Int) x36_2 ((rd_T27 l0_3 x36_2).f1) (((rd_T27 l0_3 x36_2).f1).length : Int) ji40 a0_0 a0_1 a0_2 l0_3 ((rd_T27 l0_3 x36_2).f0) ((rd_T27 l0_3 x36_2).f1)) else (none)) else (none)) else (if 0 ≤ (wrap64 ((rd ((rd_T27 l0_3 x36_2).f1) x49_3) - a0_0)) then (if (wrap64 ((rd ((rd_T27 l0_3 x36_2).f1) x49_3) - a0_0)) < (x9_3.length : Int) then (ahead_follows.l2 k3 l1 a2 t197 (x9_3.set ((wrap64 ((rd ((rd_T27 l0_3 x36_2).f1) x49_3) - a0_0)) : Int).toNat (Go.bits .or .u32 (rd x9_3 (wrap64 ((rd ((rd_T27 l0_3 x36_2).f1) x49_3) - a0_0))) bt207.1)) ((Go.bits .andNot .u32 bt207.1 (rd x9_3 (wrap64 ((rd ((rd_T27 l0_3 x36_2).f1) x49_3) - a0_0)))) != 0) l0_3 (l0_3.length : Int) x36_2 ((rd_T27 l0_3 x36_2).f1) (((rd_T27 l0_3 x36_2).f1).length : Int) ji40 a0_0 a0_1 a0_2 l0_3 ((rd_T27 l0_3 x36_2).f0) ((rd_T27 l0_3 x36_2).f1)) else (none)) else (none))))) else (none)) else (none)) = some r:=by first|(rw [hji40] at H;exact H)|(simp only [hji40] at H ⊢;exact H)
                      have hji40w : (IntKind.i64.wrap (x49_3 + 1)) = ji40:=(i64_w _).trans hji40
                      by_cases c41 : 0 ≤ (ji40)
                      ·rw [if_pos c41] at H
                       have c41b0:=eq_true c41
                       have c41b1 : decide (0 ≤ (ji40)) = true:=decide_eq_true c41
                       clear c41
                       by_cases c42 : (ji40) ≤ (((rd_T27 l0_3 x36_2).f1).length : Int)
                       ·rw [if_pos c42] at H
                        have c42b0:=eq_true c42
                        have c42b1 : decide ((ji40) ≤ (((rd_T27 l0_3 x36_2).f1).length : Int)) = true:=decide_eq_true c42
                        clear c42
                        replace H:=Option.bind_eq_some_iff.mp H
                        obtain ⟨⟨t207,t208⟩,A430,H⟩:=H
                        replace H : (if t208 = true then (if 0 ≤ ((rd_T27 l0_3 x36_2).f0) then (if ((rd_T27 l0_3 x36_2).f0) < (x9_3.length : Int) then (if x10_3 = true then (if 0 ≤ (wrap64 ((rd ((rd_T27 l0_3 x36_2).f1) x49_3) - a0_0)) then (if (wrap64 ((rd ((rd_T27 l0_3 x36_2).f1) x49_3) - a0_0)) < (x9_3.length : Int) then (ahead_follows.l2 k3 l1 a2 t197 (x9_3.set ((wrap64 ((rd ((rd_T27 l0_3 x36_2).f1) x49_3) - a0_0)) : Int).toNat (Go.bits .or .u32 (rd x9_3 (wrap64 ((rd ((rd_T27 l0_3 x36_2).f1) x49_3) - a0_0))) (Go.bits .or .u32 t207 (rd x9_3 ((rd_T27 l0_3 x36_2).f0))))) true l0_3 (l0_3.length : Int) x36_2 ((rd_T27 l0_3 x36_2).f1) (((rd_T27 l0_3 x36_2).f1).length : Int) ji40 a0_0 a0_1 a0_2 l0_3 ((rd_T27 l0_3 x36_2).f0) ((rd_T27 l0_3 x36_2).f1)) else (none)) else (none)) else (if 0 ≤ (wrap64 ((rd ((rd_T27 l0_3 x36_2).f1) x49_3) - a0_0)) then (if (wrap64 ((rd ((rd_T27 l0_3 x36_2).f1) x49_3) - a0_0)) < (x9_3.length : Int) then (ahead_follows.l2 k3 l1 a2 t197 (x9_3.set ((wrap64 ((rd ((rd_T27 l0_3 x36_2).f1) x49_3) - a0_0)) : Int).toNat (Go.bits .or .u32 (rd x9_3 (wrap64 ((rd ((rd_T27 l0_3 x36_2).f1) x49_3) - a0_0))) (Go.bits .or .u32 t207 (rd x9_3 ((rd_T27 l0_3 x36_2).f0))))) ((Go.bits .andNot .u32 (Go.bits .or .u32 t207 (rd x9_3 ((rd_T27 l0_3 x36_2).f0))) (rd x9_3 (wrap64 ((rd ((rd_T27 l0_3 x36_2).f1) x49_3) - a0_0)))) != 0) l0_3 (l0_3.length : Int) x36_2 ((rd_T27 l0_3 x36_2).f1) (((rd_T27 l0_3 x36_2).f1).length : Int) ji40 a0_0 a0_1 a0_2 l0_3 ((rd_T27 l0_3 x36_2).f0) ((rd_T27 l0_3 x36_2).f1)) else (none)) else (none))) else (none)) else (none)) else (if x10_3 = true then (if 0 ≤ (wrap64 ((rd ((rd_T27 l0_3 x36_2).f1) x49_3) - a0_0)) then (if (wrap64 ((rd ((rd_T27 l0_3 x36_2).f1) x49_3) - a0_0)) < (x9_3.length : Int) then (ahead_follows.l2 k3 l1 a2 t197 (x9_3.set ((wrap64 ((rd ((rd_T27 l0_3 x36_2).f1) x49_3) - a0_0)) : Int).toNat (Go.bits .or .u32 (rd x9_3 (wrap64 ((rd ((rd_T27 l0_3 x36_2).f1) x49_3) - a0_0))) t207)) true l0_3 (l0_3.length : Int) x36_2 ((rd_T27 l0_3 x36_2).f1) (((rd_T27 l0_3 x36_2).f1).length : Int) ji40 a0_0 a0_1 a0_2 l0_3 ((rd_T27 l0_3 x36_2).f0) ((rd_T27 l0_3 x36_2).f1)) else (none)) else (none)) else (if 0 ≤ (wrap64 ((rd ((rd_T27 l0_3 x36_2).f1) x49_3) - a0_0)) then (if (wrap64 ((rd ((rd_T27 l0_3 x36_2).f1) x49_3) - a0_0)) < (x9_3.length : Int) then (ahead_follows.l2 k3 l1 a2 t197 (x9_3.set ((wrap64 ((rd ((rd_T27 l0_3 x36_2).f1) x49_3) - a0_0)) : Int).toNat (Go.bits .or .u32 (rd x9_3 (wrap64 ((rd ((rd_T27 l0_3 x36_2).f1) x49_3) - a0_0))) t207)) ((Go.bits .andNot .u32 t207 (rd x9_3 (wrap64 ((rd ((rd_T27 l0_3 x36_2).f1) x49_3) - a0_0)))) != 0) l0_3 (l0_3.length : Int) x36_2 ((rd_T27 l0_3 x36_2).f1) (((rd_T27 l0_3 x36_2).f1).length : Int) ji40 a0_0 a0_1 a0_2 l0_3 ((rd_T27 l0_3 x36_2).f0) ((rd_T27 l0_3 x36_2).f1)) else (none)) else (none)))) = some r:=H
                        have A43:=Aside0.mk A430
                        clear A430
                        by_cases c44 : t208 = true
                        ·subst c44
                         have H1 : (if 0 ≤ ((rd_T27 l0_3 x36_2).f0) then (if ((rd_T27 l0_3 x36_2).f0) < (x9_3.length : Int) then (if x10_3 = true then (if 0 ≤ (wrap64 ((rd ((rd_T27 l0_3 x36_2).f1) x49_3) - a0_0)) then (if (wrap64 ((rd ((rd_T27 l0_3 x36_2).f1) x49_3) - a0_0)) < (x9_3.length : Int) then (ahead_follows.l2 k3 l1 a2 t197 (x9_3.set ((wrap64 ((rd ((rd_T27 l0_3 x36_2).f1) x49_3) - a0_0)) : Int).toNat (Go.bits .or .u32 (rd x9_3 (wrap64 ((rd ((rd_T27 l0_3 x36_2).f1) x49_3) - a0_0))) (Go.bits .or .u32 t207 (rd x9_3 ((rd_T27 l0_3 x36_2).f0))))) true l0_3 (l0_3.length : Int) x36_2 ((rd_T27 l0_3 x36_2).f1) (((rd_T27 l0_3 x36_2).f1).length : Int) ji40 a0_0 a0_1 a0_2 l0_3 ((rd_T27 l0_3 x36_2).f0) ((rd_T27 l0_3 x36_2).f1)) else (none)) else (none)) else (if 0 ≤ (wrap64 ((rd ((rd_T27 l0_3 x36_2).f1) x49_3) - a0_0)) then (if (wrap64 ((rd ((rd_T27 l0_3 x36_2).f1) x49_3) - a0_0)) < (x9_3.length : Int) then (ahead_follows.l2 k3 l1 a2 t197 (x9_3.set ((wrap64 ((rd ((rd_T27 l0_3 x36_2).f1) x49_3) - a0_0)) : Int).toNat (Go.bits .or .u32 (rd x9_3 (wrap64 ((rd ((rd_T27 l0_3 x36_2).f1) x49_3) - a0_0))) (Go.bits .or .u32 t207 (rd x9_3 ((rd_T27 l0_3 x36_2).f0))))) ((Go.bits .andNot .u32 (Go.bits .or .u32 t207 (rd x9_3 ((rd_T27 l0_3 x36_2).f0))) (rd x9_3 (wrap64 ((rd ((rd_T27 l0_3 x36_2).f1) x49_3) - a0_0)))) != 0) l0_3 (l0_3.length : Int) x36_2 ((rd_T27 l0_3 x36_2).f1) (((rd_T27 l0_3 x36_2).f1).length : Int) ji40 a0_0 a0_1 a0_2 l0_3 ((rd_T27 l0_3 x36_2).f0) ((rd_T27 l0_3 x36_2).f1)) else (none)) else (none))) else (none)) else (none)) = some r:=by rw [if_pos rfl] at H;exact H
                         clear H
                         have H:=H1
                         clear H1
                         by_cases c45 : 0 ≤ ((rd_T27 l0_3 x36_2).f0)
                         ·rw [if_pos c45] at H
                          have c45b0 : decide (0 ≤ ((rd_T27 l0_3 x36_2).f0)) = true:=decide_eq_true c45
                          clear c45
                          by_cases c46 : ((rd_T27 l0_3 x36_2).f0) < (x9_3.length : Int)
                          ·rw [if_pos c46] at H
                           have c46b0 : decide (((rd_T27 l0_3 x36_2).f0) < (x9_3.length : Int)) = true:=decide_eq_true c46
                           (try (have c46b0h:=c46b0;simp only [hl9_1,hl9_2,hl9_3] at c46b0h))
                           clear c46
                           by_cases c47 : x10_3 = true
                           ·subst c47
                            have H1 : (if 0 ≤ (wrap64 ((rd ((rd_T27 l0_3 x36_2).f1) x49_3) - a0_0)) then (if (wrap64 ((rd ((rd_T27 l0_3 x36_2).f1) x49_3) - a0_0)) < (x9_3.length : Int) then (ahead_follows.l2 k3 l1 a2 t197 (x9_3.set ((wrap64 ((rd ((rd_T27 l0_3 x36_2).f1) x49_3) - a0_0)) : Int).toNat (Go.bits .or .u32 (rd x9_3 (wrap64 ((rd ((rd_T27 l0_3 x36_2).f1) x49_3) - a0_0))) (Go.bits .or .u32 t207 (rd x9_3 ((rd_T27 l0_3 x36_2).f0))))) true l0_3 (l0_3.length : Int) x36_2 ((rd_T27 l0_3 x36_2).f1) (((rd_T27 l0_3 x36_2).f1).length : Int) ji40 a0_0 a0_1 a0_2 l0_3 ((rd_T27 l0_3 x36_2).f0) ((rd_T27 l0_3 x36_2).f1)) else (none)) else (none)) = some r:=by rw [if_pos rfl] at H;exact H
                            clear H
                            have H:=H1
                            clear H1
                            obtain ⟨ji48,hji48⟩ : ∃ j_ : Int,(wrap64 ((rd ((rd_T27 l0_3 x36_2).f1) x49_3) - a0_0)) = j_:=⟨_,rfl⟩
                            replace H : (if 0 ≤ (ji48) then (if (ji48) < (x9_3.length : Int) then (ahead_follows.l2 k3 l1 a2 t197 (x9_3.set ((ji48) : Int).toNat (Go.bits .or .u32 (rd x9_3 (ji48)) (Go.bits .or .u32 t207 (rd x9_3 ((rd_T27 l0_3 x36_2).f0))))) true l0_3 (l0_3.length : Int) x36_2 ((rd_T27 l0_3 x36_2).f1) (((rd_T27 l0_3 x36_2).f1).length : Int) ji40 a0_0 a0_1 a0_2 l0_3 ((rd_T27 l0_3 x36_2).f0) ((rd_T27 l0_3 x36_2).f1)) else (none)) else (none)) = some r:=by first|(rw [hji48] at H;exact H)|(simp only [hji48] at H ⊢;exact H)
                            (try rw [hji48] at A43)
                            have hji48w : (IntKind.i64.wrap ((rd ((rd_T27 l0_3 x36_2).f1) x49_3) - a0_0)) = ji48:=(i64_w _).trans hji48
                            by_cases c49 : 0 ≤ (ji48)
                            ·rw [if_pos c49] at H
                             have c49b0 : decide (0 ≤ (ji48)) = true:=decide_eq_true c49
                             clear c49
                             by_cases c50 : (ji48) < (x9_3.length : Int)
                             ·rw [if_pos c50] at H
                              have c50b0 : decide ((ji48) < (x9_3.length : Int)) = true:=decide_eq_true c50
                              (try (have c50b0h:=c50b0;simp only [hl9_1,hl9_2,hl9_3] at c50b0h))
                              clear c50
                              obtain ⟨y211,hy211⟩ : ∃ y_ : List Int,y_ = (x9_3.set ((ji48) : Int).toNat (Go.bits .or .u32 (rd x9_3 (ji48)) (Go.bits .or .u32 t207 (rd x9_3 ((rd_T27 l0_3 x36_2).f0))))):=⟨_,rfl⟩
                              replace H : (ahead_follows.l2 k3 l1 a2 t197 y211 true l0_3 (l0_3.length : Int) x36_2 ((rd_T27 l0_3 x36_2).f1) (((rd_T27 l0_3 x36_2).f1).length : Int) ji40 a0_0 a0_1 a0_2 l0_3 ((rd_T27 l0_3 x36_2).f0) ((rd_T27 l0_3 x36_2).f1)) = some r:=by first|(rw [hy211];with_reducible exact H)|(have H2_:=(Option.bind_some _ _).symm.trans H;rw [hy211];with_reducible exact H2_)|(have H2_:=(Option.bind_some _ _).symm.trans H;with_reducible exact H2_)|with_reducible exact H|(rw [hy211];exact H)|exact H
                              have Ny211:=Aside0.mk hy211
                              clear hy211
                              have H':=Aside0.mk H
                              clear H
                              have p205 : 0 ≤ (x49_3 : Int):=of_decide_eq_true (by first|(with_reducible assumption)|assumption)
                              have q205 : x49_3 < (((rd_T27 l0_3 x36_2).f1).length : Int):=of_decide_eq_true (by first|(with_reducible assumption)|assumption)
                              obtain ⟨ad205,e205,hx205_0⟩:=Kd.at_int HR203_1.out x49_3 p205 q205
                              cases e205
                              replace hx205_0:=(HB.out.cell (World.block_lt_of_cell? w _ hx205_0)).trans hx205_0
                              replace p205:=eq_true p205
                              replace q205:=eq_true q205
                              have hnb52:=NB196_204.out
                              have hnc52:=NB204_196.out
                              have hcz53_0 : wr.cell? ⟨gb196,0,none⟩ = some (.int .i64 a0_0):=(blk_cell BK196.out 0).trans rfl
                              have hcz53_1 : wr.cell? ⟨gb196,1,none⟩ = some (.int .i64 a0_1):=(blk_cell BK196.out 1).trans rfl
                              have hcz53_2 : wr.cell? ⟨gb196,2,none⟩ = some (.int .i64 a0_2):=(blk_cell BK196.out 2).trans rfl
                              have hcz53_3 : wr.cell? ⟨gb196,3,none⟩ = some (.slice (some ad203) l0_3.length c0_3):=(blk_cell BK196.out 3).trans rfl
                              have hfz53_0:=blk_frozen BK196.out 0
                              have hfz53_1:=blk_frozen BK196.out 1
                              have hfz53_2:=blk_frozen BK196.out 2
                              have hfz53_3:=blk_frozen BK196.out 3
                              try go_wp2
                              have n0_:=Aside0.mk (Kd.R_drew HO_9.out)
                              have n1_:=Aside0.mk (blk_drew BK196.out)
                              have n2_:=Aside0.mk (blk_drew BK204.out)
                              have n3_:=Aside0.mk (below_drew1 HB.out)
                              clear HO_9
                              clear BK196
                              clear BK204
                              clear HB
                              have HO_9:=n0_
                              have BK196:=n1_
                              have BK204:=n2_
                              have HB:=n3_
                              clear n0_ n1_ n2_ n3_
                              obtain ⟨i055,hi055,_,hsz55,_⟩:=info_parts info3
                              obtain ⟨A55,hcut55,hA55,hC55⟩:=print_drop_of (P:=Try.prog) (Value.int .i64) 0 25 3 .i64 Try.underlying25 hi055 hsz55 (some ad205) c203_1 ((rd_T27 l0_3 x36_2).f1) (ji40) (of_decide_eq_true (by first|(with_reducible assumption)|assumption)) (of_decide_eq_true (by first|(with_reducible assumption)|assumption)) HC203_1.out
                              have HR206:=Aside0.mk (Kd.C_of_reads (h1:=fun _=>rfl) (hA55 _ (Kd.reads_of_C HR203_1.out)))
                              have HC206:=Aside0.mk hC55
                              clear hA55 hC55 hi055 hsz55
                              refine start_ (n:=14) (S:=fun w'=>w'.cell? ⟨gb196,0,none⟩ = some (.int .i64 a0_0) ∧ w'.cell? ⟨gb196,1,none⟩ = some (.int .i64 a0_1) ∧ w'.cell? ⟨gb196,2,none⟩ = some (.int .i64 a0_2) ∧ w'.cell? ⟨gb196,3,none⟩ = some (.slice (some ad203) l0_3.length c0_3) ∧ w'.cell? ⟨gb204,0,none⟩ = some (.int .i64 ((rd_T27 l0_3 x36_2).f0)) ∧ w'.cell? ⟨gb204,1,none⟩ = some (.slice (some ad205) ((rd_T27 l0_3 x36_2).f1).length c203_1)) (ds:=[]) #[false,false,false,false,false,false,false,false,false,false,false,false,false,false] (by kernel_rfl) rfl rfl ⟨(blk_cell BK196.out 0).trans rfl,(blk_cell BK196.out 1).trans rfl,(blk_cell BK196.out 2).trans rfl,(blk_cell BK196.out 3).trans rfl,(blk_cell BK204.out 0).trans rfl,(blk_cell BK204.out 1).trans rfl⟩ (fun hHeld=>?_);refine with_tabW ahead_follows.tab15 ahead_follows.bits15 (fun HT_ HW_=>?_)
                              generalize wr.drew = w54 at HO_9 BK196 BK204 HB HR206 hHeld ⊢
                              refine pure_ (i:=1) (N:=some 60) (v:=?_) (a':=?_) #[false,true,false,false,false,false,false,false,false,false,false,false,false,false] rfl rfl (any_of HT_.out (by kernel_rfl)) (fun _ _ _ h=>h) (Or.inl ⟨by rfl,?_⟩) ?_ ?_
                              rotate_left
                              ·intro w'
                               go_simp
                               with_reducible rfl
                              rotate_left
                              ·simp only [Act.put,List.setIfInBounds_toArray,List.set_cons_zero,List.set_cons_succ,i64_w,i32_w]
                               rfl
                              refine pure_ (i:=2) (N:=some 61) (v:=?_) (a':=?_) #[false,true,true,false,false,false,false,false,false,false,false,false,false,false] rfl rfl (any_of HT_.out (by kernel_rfl)) (fun _ _ _ h=>h) (Or.inl ⟨by rfl,?_⟩) ?_ ?_
                              rotate_left
                              ·intro w'
                               go_simp
                               with_reducible rfl
                              rotate_left
                              ·simp only [Act.put,List.setIfInBounds_toArray,List.set_cons_zero,List.set_cons_succ,i64_w,i32_w]
                               rfl
                              refine pure_ (i:=3) (N:=some 62) (v:=?_) (a':=?_) #[false,true,true,true,false,false,false,false,false,false,false,false,false,false] rfl rfl (any_of HT_.out (by kernel_rfl)) (fun _ _ _ h=>h) (Or.inl ⟨by rfl,?_⟩) ?_ ?_
                              rotate_left
                              ·intro w'
                               go_simp
                               with_reducible rfl
                              rotate_left
                              ·simp only [Act.put,List.setIfInBounds_toArray,List.set_cons_zero,List.set_cons_succ,i64_w,i32_w]
                               rfl
                              refine pure_ (i:=5) (N:=some 64) (v:=?_) (a':=?_) #[false,true,true,true,false,true,false,false,false,false,false,false,false,false] rfl rfl (any_of HT_.out (by kernel_rfl)) (fun _ _ _ h=>h) (Or.inl ⟨by rfl,?_⟩) ?_ ?_
                              rotate_left
                              ·intro w'
                               go_simp
                               with_reducible rfl
                              rotate_left
                              ·simp only [Act.put,List.setIfInBounds_toArray,List.set_cons_zero,List.set_cons_succ,i64_w,i32_w]
                               rfl
                              refine pure_ (i:=6) (N:=some 65) (v:=?_) (a':=?_) #[false,true,true,true,false,true,true,false,false,false,false,false,false,false] rfl rfl (any_of HT_.out (by kernel_rfl)) (fun _ _ _ h=>h) (Or.inl ⟨by rfl,?_⟩) ?_ ?_
                              rotate_left
                              ·intro w'
                               go_simp
                               with_reducible rfl
                              rotate_left
                              ·simp only [Act.put,List.setIfInBounds_toArray,List.set_cons_zero,List.set_cons_succ,i64_w,i32_w]
                               rfl
                              refine take_ (i:=0) (N:=some 59) (v:=?_) (a':=?_) #[true,true,true,true,false,true,true,false,false,false,false,false,false,false] rfl rfl (take_ofW HT_.out HW_.out (by kernel_rfl)) (fun _ _ _ h=>h) (Or.inl ⟨by rfl,?_⟩) hHeld ?_ ?_
                              rotate_left
                              ·rintro w' ⟨s0,s1,s2,s3,s4,s5⟩
                               go_simp
                               with_reducible rfl
                              rotate_left
                              ·simp only [Act.put,List.setIfInBounds_toArray,List.set_cons_zero,List.set_cons_succ,i64_w,i32_w]
                               rfl
                              refine take_ (i:=4) (N:=some 63) (v:=?_) (a':=?_) #[true,true,true,true,true,true,true,false,false,false,false,false,false,false] rfl rfl (take_ofW HT_.out HW_.out (by kernel_rfl)) (fun _ _ _ h=>h) (Or.inl ⟨by rfl,?_⟩) hHeld ?_ ?_
                              rotate_left
                              ·rintro w' ⟨s0,s1,s2,s3,s4,s5⟩
                               go_simp
                               with_reducible rfl
                              rotate_left
                              ·simp only [Act.put,List.setIfInBounds_toArray,List.set_cons_zero,List.set_cons_succ,i64_w,i32_w]
                               rfl
                              refine pure_ (i:=7) (N:=some 66) (v:=?_) (a':=?_) #[true,true,true,true,true,true,true,true,false,false,false,false,false,false] rfl rfl (any_of HT_.out (by kernel_rfl)) (fun _ _ _ h=>h) (Or.inl ⟨by rfl,?_⟩) ?_ ?_
                              rotate_left
                              ·intro w'
                               go_simp
                               with_reducible rfl
                              rotate_left
                              ·simp only [Act.put,List.setIfInBounds_toArray,List.set_cons_zero,List.set_cons_succ,i64_w,i32_w]
                               rfl
                              refine one_ (i:=8) (N:=some 67) #[true,true,true,true,true,true,true,true,true,false,false,false,false,false] rfl rfl (one_of HT_.out (by kernel_rfl)) (by decide) (fun K hK=>?_)
                              refine goes_ Try.func83 (by kernel_rfl) rfl #[.agg #[.int .i64 a0_0,.int .i64 a0_1,.int .i64 a0_2,.slice (some ad203) l0_3.length c0_3],.slice A1 l1.length c1,.int .u32 a2,.slice A55 (((rd_T27 l0_3 x36_2).f1).drop ((ji40) : Int).toNat).length (c203_1 - (ji40).toNat)] (by rfl) rfl rfl (by (try simp only [List.map_toArray,List.map_cons,List.map_nil]);first|done|(rw [show (((rd_T27 l0_3 x36_2).f1).drop ((ji40) : Int).toNat).length = (((rd_T27 l0_3 x36_2).f1).length - (ji40).toNat) from List.length_drop] <;> rfl)|(simp only [hji40];rfl)|rfl|(simp only [List.length_drop,List.length_take];rfl)) ?_
                              with_reducible refine (ahead_begin.calls k3 a0_0 a0_1 a0_2 _ _ l0_3 _ _ l1 a2 _ _ (((rd_T27 l0_3 x36_2).f1).drop ((ji40) : Int).toNat) t207 true _ ?side1 ?side2 ?side3 ?side4 ?side5 ?side6 A43.out).mono ?_
                              (case side1=>repeat (first|exact (Kd.C_below HR0_3.out HB.out)|(with_reducible refine Kd.C_alloc ?_ _)|(with_reducible refine Kd.C_drewN ?_ _)|(with_reducible refine Kd.C_drew ?_)))
                              (case side2=>exact HC0_3.out)
                              (case side3=>repeat (first|exact (Kd.C_below HR1.out HB.out)|(with_reducible refine Kd.C_alloc ?_ _)|(with_reducible refine Kd.C_drewN ?_ _)|(with_reducible refine Kd.C_drew ?_)))
                              (case side4=>exact HC1.out)
                              (case side5=>repeat (first|exact (Kd.C_below HR206.out HB.out)|(with_reducible refine Kd.C_alloc ?_ _)|(with_reducible refine Kd.C_drewN ?_ _)|(with_reducible refine Kd.C_drew ?_)))
                              (case side6=>exact HC206.out)
                              rintro e w56 ⟨rfl,hb⟩
                              refine ⟨_,rfl,?_⟩
                              have n0_:=Aside0.mk (Kd.R_below (by (with_reducible repeat (first|apply Kd.R_alloc|apply Kd.R_drewN|apply Kd.R_drew));exact HO_9.out) hb)
                              have n1_:=Aside0.mk (blk_below (g:=gb196) (o:=.cells #[.int .i64 a0_0,.int .i64 a0_1,.int .i64 a0_2,.slice (some ad203) l0_3.length c0_3] 24 (0,0)) (by (with_reducible repeat (first|refine blk_drewN ?_ _|refine blk_drew ?_|refine blk_alloc ?_ _));exact BK196.out) hb)
                              have n2_:=Aside0.mk (blk_below (g:=gb204) (o:=.cells #[.int .i64 ((rd_T27 l0_3 x36_2).f0),.slice (some ad205) ((rd_T27 l0_3 x36_2).f1).length c203_1] 27 (0,0)) (by (with_reducible repeat (first|refine blk_drewN ?_ _|refine blk_drew ?_|refine blk_alloc ?_ _));exact BK204.out) hb)
                              have n3_:=Aside0.mk (below_step (by repeat (first|(with_reducible first|exact HB.out|apply below_alloc|apply pw_below_drewN|apply below_drew1|refine below_set ?_ GE196.out|refine below_set ?_ GE204.out)|exact HB.out)) hb)
                              clear HO_9
                              clear BK196
                              clear BK204
                              clear HB
                              have HO_9:=n0_
                              have BK196:=n1_
                              have BK204:=n2_
                              have HB:=n3_
                              clear n0_ n1_ n2_ n3_
                              (try clear hb)
                              (try clear hb2)
                              (try clear hk)
                              (try clear hi)
                              refine hK.out _ _ ⟨(blk_cell BK196.out 0).trans rfl,(blk_cell BK196.out 1).trans rfl,(blk_cell BK196.out 2).trans rfl,(blk_cell BK196.out 3).trans rfl,(blk_cell BK204.out 0).trans rfl,(blk_cell BK204.out 1).trans rfl⟩ (fun hHeld=>?_)
                              clear hK K
                              refine norm_ (a':=?_) ?_ ?_
                              rotate_left
                              ·show Act.put _ (some 67) _ = _
                               simp only [Act.put,List.setIfInBounds_toArray,List.set_cons_zero,List.set_cons_succ,i64_w,i32_w]
                               rfl
                              refine pure_ (i:=9) (N:=some 58) (v:=?_) (a':=?_) #[true,true,true,true,true,true,true,true,true,true,false,false,false,false] rfl rfl (any_of HT_.out (by kernel_rfl)) (fun _ _ _ h=>h) (Or.inl ⟨by rfl,?_⟩) ?_ ?_
                              rotate_left
                              ·intro w'
                               go_simp
                               with_reducible rfl
                              rotate_left
                              ·simp only [Act.put,List.setIfInBounds_toArray,List.set_cons_zero,List.set_cons_succ,i64_w,i32_w]
                               rfl
                              refine pure_ (i:=10) (N:=some 68) (v:=?_) (a':=?_) #[true,true,true,true,true,true,true,true,true,true,true,false,false,false] rfl rfl (any_of HT_.out (by kernel_rfl)) (fun _ _ _ h=>h) (Or.inl ⟨by rfl,?_⟩) ?_ ?_
                              rotate_left
                              ·intro w'
                               go_simp
                               with_reducible rfl
                              rotate_left
                              ·simp only [Act.put,List.setIfInBounds_toArray,List.set_cons_zero,List.set_cons_succ,i64_w,i32_w]
                               rfl
                              refine pure_ (i:=11) (N:=some 69) (v:=?_) (a':=?_) #[true,true,true,true,true,true,true,true,true,true,true,true,false,false] rfl rfl (any_of HT_.out (by kernel_rfl)) (fun _ _ _ h=>h) (Or.inl ⟨by rfl,?_⟩) ?_ ?_
                              rotate_left
                              ·intro w'
                               go_simp
                               with_reducible rfl
                              rotate_left
                              ·simp only [Act.put,List.setIfInBounds_toArray,List.set_cons_zero,List.set_cons_succ,i64_w,i32_w]
                               rfl
                              refine pure_ (i:=12) (N:=some 15) (v:=?_) (a':=?_) #[true,true,true,true,true,true,true,true,true,true,true,true,true,false] rfl rfl (any_of HT_.out (by kernel_rfl)) (fun _ _ _ h=>h) (Or.inl ⟨by rfl,?_⟩) ?_ ?_
                              rotate_left
                              ·intro w'
                               go_simp
                               with_reducible rfl
                              rotate_left
                              ·simp only [Act.put,List.setIfInBounds_toArray,List.set_cons_zero,List.set_cons_succ,i64_w,i32_w]
                               rfl
                              refine pure_ (i:=13) (N:=some 16) (v:=?_) (a':=?_) #[true,true,true,true,true,true,true,true,true,true,true,true,true,true] rfl rfl (any_of HT_.out (by kernel_rfl)) (fun _ _ _ h=>h) (Or.inl ⟨by rfl,?_⟩) ?_ ?_
                              rotate_left
                              ·intro w'
                               go_simp
                               with_reducible rfl
                              rotate_left
                              ·simp only [Act.put,List.setIfInBounds_toArray,List.set_cons_zero,List.set_cons_succ,i64_w,i32_w]
                               rfl
                              refine done_ (done_of HT_.out (by kernel_rfl)) ?_
                              have hcz57_0 : w56.cell? ⟨gb204,0,none⟩ = some (.int .i64 ((rd_T27 l0_3 x36_2).f0)):=(blk_cell BK204.out 0).trans rfl
                              have hcz57_1 : w56.cell? ⟨gb204,1,none⟩ = some (.slice (some ad205) ((rd_T27 l0_3 x36_2).f1).length c203_1):=(blk_cell BK204.out 1).trans rfl
                              have hfz57_0:=blk_frozen BK204.out 0
                              have hfz57_1:=blk_frozen BK204.out 1
                              have p209 : 0 ≤ (((rd_T27 l0_3 x36_2).f0) : Int):=of_decide_eq_true (by first|(with_reducible assumption)|assumption)
                              have q209 : ((rd_T27 l0_3 x36_2).f0) < (x9_3.length : Int):=of_decide_eq_true (by first|(with_reducible assumption)|assumption)
                              obtain ⟨ad209,e209,hx209_0⟩:=Kd.at_int (Kd.R_reads' HO_9.out).2.2 ((rd_T27 l0_3 x36_2).f0) p209 q209
                              obtain rfl : (⟨go11,0,none⟩ : Addr) = ad209:=(by injection e209)
                              (first|simp only [add_plain] at hx209_0|simp only [add_at] at hx209_0|simp only [Addr.add,Nat.zero_add] at hx209_0|skip)
                              replace p209:=eq_true p209
                              replace q209:=eq_true q209
                              have hcz58_0 : w56.cell? ⟨gb196,0,none⟩ = some (.int .i64 a0_0):=(blk_cell BK196.out 0).trans rfl
                              have hcz58_1 : w56.cell? ⟨gb196,1,none⟩ = some (.int .i64 a0_1):=(blk_cell BK196.out 1).trans rfl
                              have hcz58_2 : w56.cell? ⟨gb196,2,none⟩ = some (.int .i64 a0_2):=(blk_cell BK196.out 2).trans rfl
                              have hcz58_3 : w56.cell? ⟨gb196,3,none⟩ = some (.slice (some ad203) l0_3.length c0_3):=(blk_cell BK196.out 3).trans rfl
                              have hfz58_0:=blk_frozen BK196.out 0
                              have hfz58_1:=blk_frozen BK196.out 1
                              have hfz58_2:=blk_frozen BK196.out 2
                              have hfz58_3:=blk_frozen BK196.out 3
                              have p210 : 0 ≤ ((ji48) : Int):=of_decide_eq_true (by first|(with_reducible assumption)|assumption)
                              have q210 : (ji48) < (x9_3.length : Int):=of_decide_eq_true (by first|(with_reducible assumption)|assumption)
                              obtain ⟨ad210,e210,hx210_0⟩:=Kd.at_int (Kd.R_reads' HO_9.out).2.2 (ji48) p210 q210
                              obtain rfl : (⟨go11,0,none⟩ : Addr) = ad210:=(by injection e210)
                              (first|simp only [add_plain] at hx210_0|simp only [add_at] at hx210_0|simp only [Addr.add,Nat.zero_add] at hx210_0|skip)
                              replace p210:=eq_true p210
                              replace q210:=eq_true q210
                              have p51 : 0 ≤ ((ji48) : Int):=of_decide_eq_true (by first|(with_reducible assumption)|assumption)
                              have q51 : ((ji48) : Int) < ((x9_3.length : Int) : Int):=of_decide_eq_true (by first|(with_reducible assumption)|assumption)
                              obtain ⟨hx51_0,hf51_0⟩:=Kd.R_celln 0 HO_9.out ((ji48) : Int) p51 q51
                              replace p51:=eq_true p51
                              replace q51:=eq_true q51
                              obtain ⟨hy59_,hz59_⟩:=Kd.R_celln 0 HO_9.out ((ji48) : Int) (of_decide_eq_true (by first|(with_reducible assumption)|assumption)) (of_decide_eq_true (by first|(with_reducible assumption)|assumption))
                              have HP59:=Kd.R_putg HO_9.out ((ji48) : Int) (Go.bits .or .u32 (rd x9_3 (ji48)) (Go.bits .or .u32 t207 (rd x9_3 ((rd_T27 l0_3 x36_2).f0))))
                              try go_wp2_with (first|((with_reducible refine gate_store (t:=28) (p:=100) rfl ?_);refine store_event (t:=28) (p:=100) (v:=?vo_w60) (w1:=(w56.setCell ⟨go11,((ji48) : Int).toNat,none⟩ (.int .u32 (Go.bits .or .u32 (rd x9_3 (ji48)) (Go.bits .or .u32 t207 (rd x9_3 ((rd_T27 l0_3 x36_2).f0))))))) ?hg ?ho ?hn ?hr ?_;(case ho=>rfl);(case hg=>rfl);(case hn=>rfl);(case hr=>first|(go_simp;done)|(go_simp;rfl));intro w60 hw;have hg : w56.grownBy w60 (some go11):=(by rw [hw];exact HP59.2);have hp_ : Kd.R (Kd.int .u32) 28 w60 w.heap.size (fun _=>True) (.slice (some ⟨go11,0,none⟩) x9_3.length co11) y211:=(by rw [hw,Ny211.out];exact HP59.1);clear HP59;have n0_:=Aside0.mk (hp_);have n1_:=Aside0.mk (blk_grown (g:=gb196) (o:=.cells #[.int .i64 a0_0,.int .i64 a0_1,.int .i64 a0_2,.slice (some ad203) l0_3.length c0_3] 24 (0,0)) (by (with_reducible repeat (first|refine blk_drewN ?_ _|refine blk_drew ?_|refine blk_alloc ?_ _));exact BK196.out) hg (Kd.R_ne HO_9.out BK196.out (by decide)));have n2_:=Aside0.mk (blk_grown (g:=gb204) (o:=.cells #[.int .i64 ((rd_T27 l0_3 x36_2).f0),.slice (some ad205) ((rd_T27 l0_3 x36_2).f1).length c203_1] 27 (0,0)) (by (with_reducible repeat (first|refine blk_drewN ?_ _|refine blk_drew ?_|refine blk_alloc ?_ _));exact BK204.out) hg (Kd.R_ne HO_9.out BK204.out (by decide)));have n3_:=Aside0.mk ((by rw [hw];exact below_set (HB.out) GB11.out : Below w.heap.size w w60));clear HO_9;clear BK196;clear BK204;clear HB;have HO_9:=n0_;have BK196:=n1_;have BK204:=n2_;have HB:=n3_;clear n0_ n1_ n2_ n3_;clear hg hw hp_))
                              (try simp only [← hl9_3])
                              first|go_roundg k3|((simp only [← hji8,← hji26,← hji40,← hji48]);go_roundg k3)
                              case measure=>have:=HK1.out;have:=HK2.out;have:=HK3.out;omega
                              case rel=>exact ⟨(y211),(true),(ji40),(by first|rfl|(simp;done)|(simp [*];done)),(by first|rfl|(simp;done)|(simp only [← hji40] <;> (first|rfl|simp))|(simp [*];done)),(by first|exact H'|((simp only [hji8,hji26,hji40,hji48]);exact H')|(have h_:=H'.out;simp only [← hji8,← hji26,← hji40,← hji48] at h_ ⊢;exact ⟨h_⟩)),⟨by have:=HK1.out;have:=HK2.out;have:=HK3.out;omega⟩,⟨by (try simp only [hl9_1]);(try simp only [hl9_2]);(try simp only [hl9_3]);(with_reducible repeat (first|apply Kd.R_alloc|apply Kd.R_drewN|apply Kd.R_drew));exact HO_9.out⟩,⟨by (try simp only [hl9_1]);(try simp only [hl9_2]);(try simp only [hl9_3]);(with_reducible repeat (first|refine blk_drewN ?_ _|refine blk_drew ?_|refine blk_alloc ?_ _));exact BK196.out⟩,⟨by (try simp only [hl9_1]);(try simp only [hl9_2]);(try simp only [hl9_3]);(with_reducible repeat (first|refine blk_drewN ?_ _|refine blk_drew ?_|refine blk_alloc ?_ _));exact BK204.out⟩,⟨by repeat (first|(with_reducible first|exact HB.out|apply below_alloc|apply pw_below_drewN|apply below_drew1|refine below_set ?_ GE196.out|refine below_set ?_ GE204.out)|exact HB.out)⟩⟩
                             ·rw [if_neg c50] at H
                              exact absurd H (by simp)
                            ·rw [if_neg c49] at H
                             exact absurd H (by simp)
                           ·replace c47:=Bool.eq_false_iff.mpr c47
                            subst c47
                            have H1 : (if 0 ≤ (wrap64 ((rd ((rd_T27 l0_3 x36_2).f1) x49_3) - a0_0)) then (if (wrap64 ((rd ((rd_T27 l0_3 x36_2).f1) x49_3) - a0_0)) < (x9_3.length : Int) then (ahead_follows.l2 k3 l1 a2 t197 (x9_3.set ((wrap64 ((rd ((rd_T27 l0_3 x36_2).f1) x49_3) - a0_0)) : Int).toNat (Go.bits .or .u32 (rd x9_3 (wrap64 ((rd ((rd_T27 l0_3 x36_2).f1) x49_3) - a0_0))) (Go.bits .or .u32 t207 (rd x9_3 ((rd_T27 l0_3 x36_2).f0))))) ((Go.bits .andNot .u32 (Go.bits .or .u32 t207 (rd x9_3 ((rd_T27 l0_3 x36_2).f0))) (rd x9_3 (wrap64 ((rd ((rd_T27 l0_3 x36_2).f1) x49_3) - a0_0)))) != 0) l0_3 (l0_3.length : Int) x36_2 ((rd_T27 l0_3 x36_2).f1) (((rd_T27 l0_3 x36_2).f1).length : Int) ji40 a0_0 a0_1 a0_2 l0_3 ((rd_T27 l0_3 x36_2).f0) ((rd_T27 l0_3 x36_2).f1)) else (none)) else (none)) = some r:=by rw [if_neg (show ¬ (false = true) by decide)] at H;exact H
                            clear H
                            have H:=H1
                            clear H1
                            obtain ⟨ji61,hji61⟩ : ∃ j_ : Int,(wrap64 ((rd ((rd_T27 l0_3 x36_2).f1) x49_3) - a0_0)) = j_:=⟨_,rfl⟩
                            replace H : (if 0 ≤ (ji61) then (if (ji61) < (x9_3.length : Int) then (ahead_follows.l2 k3 l1 a2 t197 (x9_3.set ((ji61) : Int).toNat (Go.bits .or .u32 (rd x9_3 (ji61)) (Go.bits .or .u32 t207 (rd x9_3 ((rd_T27 l0_3 x36_2).f0))))) ((Go.bits .andNot .u32 (Go.bits .or .u32 t207 (rd x9_3 ((rd_T27 l0_3 x36_2).f0))) (rd x9_3 (ji61))) != 0) l0_3 (l0_3.length : Int) x36_2 ((rd_T27 l0_3 x36_2).f1) (((rd_T27 l0_3 x36_2).f1).length : Int) ji40 a0_0 a0_1 a0_2 l0_3 ((rd_T27 l0_3 x36_2).f0) ((rd_T27 l0_3 x36_2).f1)) else (none)) else (none)) = some r:=by first|(rw [hji61] at H;exact H)|(simp only [hji61] at H ⊢;exact H)
                            (try rw [hji61] at A43)
                            have hji61w : (IntKind.i64.wrap ((rd ((rd_T27 l0_3 x36_2).f1) x49_3) - a0_0)) = ji61:=(i64_w _).trans hji61
                            by_cases c62 : 0 ≤ (ji61)
                            ·rw [if_pos c62] at H
                             have c62b0 : decide (0 ≤ (ji61)) = true:=decide_eq_true c62
                             clear c62
                             by_cases c63 : (ji61) < (x9_3.length : Int)
                             ·rw [if_pos c63] at H
                              have c63b0 : decide ((ji61) < (x9_3.length : Int)) = true:=decide_eq_true c63
                              (try (have c63b0h:=c63b0;simp only [hl9_1,hl9_2,hl9_3] at c63b0h))
                              clear c63
                              obtain ⟨y214,hy214⟩ : ∃ y_ : List Int,y_ = (x9_3.set ((ji61) : Int).toNat (Go.bits .or .u32 (rd x9_3 (ji61)) (Go.bits .or .u32 t207 (rd x9_3 ((rd_T27 l0_3 x36_2).f0))))):=⟨_,rfl⟩
                              replace H : (ahead_follows.l2 k3 l1 a2 t197 y214 ((Go.bits .andNot .u32 (Go.bits .or .u32 t207 (rd x9_3 ((rd_T27 l0_3 x36_2).f0))) (rd x9_3 (ji61))) != 0) l0_3 (l0_3.length : Int) x36_2 ((rd_T27 l0_3 x36_2).f1) (((rd_T27 l0_3 x36_2).f1).length : Int) ji40 a0_0 a0_1 a0_2 l0_3 ((rd_T27 l0_3 x36_2).f0) ((rd_T27 l0_3 x36_2).f1)) = some r:=by first|(rw [hy214];with_reducible exact H)|(have H2_:=(Option.bind_some _ _).symm.trans H;rw [hy214];with_reducible exact H2_)|(have H2_:=(Option.bind_some _ _).symm.trans H;with_reducible exact H2_)|with_reducible exact H|(rw [hy214];exact H)|exact H
                              have Ny214:=Aside0.mk hy214
                              clear hy214
                              have H':=Aside0.mk H
                              clear H
                              have p205 : 0 ≤ (x49_3 : Int):=of_decide_eq_true (by first|(with_reducible assumption)|assumption)
                              have q205 : x49_3 < (((rd_T27 l0_3 x36_2).f1).length : Int):=of_decide_eq_true (by first|(with_reducible assumption)|assumption)
                              obtain ⟨ad205,e205,hx205_0⟩:=Kd.at_int HR203_1.out x49_3 p205 q205
                              cases e205
                              replace hx205_0:=(HB.out.cell (World.block_lt_of_cell? w _ hx205_0)).trans hx205_0
                              replace p205:=eq_true p205
                              replace q205:=eq_true q205
                              have hnb65:=NB196_204.out
                              have hnc65:=NB204_196.out
                              have hcz66_0 : wr.cell? ⟨gb196,0,none⟩ = some (.int .i64 a0_0):=(blk_cell BK196.out 0).trans rfl
                              have hcz66_1 : wr.cell? ⟨gb196,1,none⟩ = some (.int .i64 a0_1):=(blk_cell BK196.out 1).trans rfl
                              have hcz66_2 : wr.cell? ⟨gb196,2,none⟩ = some (.int .i64 a0_2):=(blk_cell BK196.out 2).trans rfl
                              have hcz66_3 : wr.cell? ⟨gb196,3,none⟩ = some (.slice (some ad203) l0_3.length c0_3):=(blk_cell BK196.out 3).trans rfl
                              have hfz66_0:=blk_frozen BK196.out 0
                              have hfz66_1:=blk_frozen BK196.out 1
                              have hfz66_2:=blk_frozen BK196.out 2
                              have hfz66_3:=blk_frozen BK196.out 3
                              try go_wp2
                              have n0_:=Aside0.mk (Kd.R_drew HO_9.out)
                              have n1_:=Aside0.mk (blk_drew BK196.out)
                              have n2_:=Aside0.mk (blk_drew BK204.out)
                              have n3_:=Aside0.mk (below_drew1 HB.out)
                              clear HO_9
                              clear BK196
                              clear BK204
                              clear HB
                              have HO_9:=n0_
                              have BK196:=n1_
                              have BK204:=n2_
                              have HB:=n3_
                              clear n0_ n1_ n2_ n3_
                              obtain ⟨i068,hi068,_,hsz68,_⟩:=info_parts info3
                              obtain ⟨A68,hcut68,hA68,hC68⟩:=print_drop_of (P:=Try.prog) (Value.int .i64) 0 25 3 .i64 Try.underlying25 hi068 hsz68 (some ad205) c203_1 ((rd_T27 l0_3 x36_2).f1) (ji40) (of_decide_eq_true (by first|(with_reducible assumption)|assumption)) (of_decide_eq_true (by first|(with_reducible assumption)|assumption)) HC203_1.out
                              have HR206:=Aside0.mk (Kd.C_of_reads (h1:=fun _=>rfl) (hA68 _ (Kd.reads_of_C HR203_1.out)))
                              have HC206:=Aside0.mk hC68
                              clear hA68 hC68 hi068 hsz68
                              refine start_ (n:=14) (S:=fun w'=>w'.cell? ⟨gb196,0,none⟩ = some (.int .i64 a0_0) ∧ w'.cell? ⟨gb196,1,none⟩ = some (.int .i64 a0_1) ∧ w'.cell? ⟨gb196,2,none⟩ = some (.int .i64 a0_2) ∧ w'.cell? ⟨gb196,3,none⟩ = some (.slice (some ad203) l0_3.length c0_3) ∧ w'.cell? ⟨gb204,0,none⟩ = some (.int .i64 ((rd_T27 l0_3 x36_2).f0)) ∧ w'.cell? ⟨gb204,1,none⟩ = some (.slice (some ad205) ((rd_T27 l0_3 x36_2).f1).length c203_1)) (ds:=[]) #[false,false,false,false,false,false,false,false,false,false,false,false,false,false] (by kernel_rfl) rfl rfl ⟨(blk_cell BK196.out 0).trans rfl,(blk_cell BK196.out 1).trans rfl,(blk_cell BK196.out 2).trans rfl,(blk_cell BK196.out 3).trans rfl,(blk_cell BK204.out 0).trans rfl,(blk_cell BK204.out 1).trans rfl⟩ (fun hHeld=>?_);refine with_tabW ahead_follows.tab15 ahead_follows.bits15 (fun HT_ HW_=>?_)
                              generalize wr.drew = w67 at HO_9 BK196 BK204 HB HR206 hHeld ⊢
                              refine pure_ (i:=1) (N:=some 60) (v:=?_) (a':=?_) #[false,true,false,false,false,false,false,false,false,false,false,false,false,false] rfl rfl (any_of HT_.out (by kernel_rfl)) (fun _ _ _ h=>h) (Or.inl ⟨by rfl,?_⟩) ?_ ?_
                              rotate_left
                              ·intro w'
                               go_simp
                               with_reducible rfl
                              rotate_left
                              ·simp only [Act.put,List.setIfInBounds_toArray,List.set_cons_zero,List.set_cons_succ,i64_w,i32_w]
                               rfl
                              refine pure_ (i:=2) (N:=some 61) (v:=?_) (a':=?_) #[false,true,true,false,false,false,false,false,false,false,false,false,false,false] rfl rfl (any_of HT_.out (by kernel_rfl)) (fun _ _ _ h=>h) (Or.inl ⟨by rfl,?_⟩) ?_ ?_
                              rotate_left
                              ·intro w'
                               go_simp
                               with_reducible rfl
                              rotate_left
                              ·simp only [Act.put,List.setIfInBounds_toArray,List.set_cons_zero,List.set_cons_succ,i64_w,i32_w]
                               rfl
                              refine pure_ (i:=3) (N:=some 62) (v:=?_) (a':=?_) #[false,true,true,true,false,false,false,false,false,false,false,false,false,false] rfl rfl (any_of HT_.out (by kernel_rfl)) (fun _ _ _ h=>h) (Or.inl ⟨by rfl,?_⟩) ?_ ?_
                              rotate_left
                              ·intro w'
                               go_simp
                               with_reducible rfl
                              rotate_left
                              ·simp only [Act.put,List.setIfInBounds_toArray,List.set_cons_zero,List.set_cons_succ,i64_w,i32_w]
                               rfl
                              refine pure_ (i:=5) (N:=some 64) (v:=?_) (a':=?_) #[false,true,true,true,false,true,false,false,false,false,false,false,false,false] rfl rfl (any_of HT_.out (by kernel_rfl)) (fun _ _ _ h=>h) (Or.inl ⟨by rfl,?_⟩) ?_ ?_
                              rotate_left
                              ·intro w'
                               go_simp
                               with_reducible rfl
                              rotate_left
                              ·simp only [Act.put,List.setIfInBounds_toArray,List.set_cons_zero,List.set_cons_succ,i64_w,i32_w]
                               rfl
                              refine pure_ (i:=6) (N:=some 65) (v:=?_) (a':=?_) #[false,true,true,true,false,true,true,false,false,false,false,false,false,false] rfl rfl (any_of HT_.out (by kernel_rfl)) (fun _ _ _ h=>h) (Or.inl ⟨by rfl,?_⟩) ?_ ?_
                              rotate_left
                              ·intro w'
                               go_simp
                               with_reducible rfl
                              rotate_left
                              ·simp only [Act.put,List.setIfInBounds_toArray,List.set_cons_zero,List.set_cons_succ,i64_w,i32_w]
                               rfl
                              refine take_ (i:=0) (N:=some 59) (v:=?_) (a':=?_) #[true,true,true,true,false,true,true,false,false,false,false,false,false,false] rfl rfl (take_ofW HT_.out HW_.out (by kernel_rfl)) (fun _ _ _ h=>h) (Or.inl ⟨by rfl,?_⟩) hHeld ?_ ?_
                              rotate_left
                              ·rintro w' ⟨s0,s1,s2,s3,s4,s5⟩
                               go_simp
                               with_reducible rfl
                              rotate_left
                              ·simp only [Act.put,List.setIfInBounds_toArray,List.set_cons_zero,List.set_cons_succ,i64_w,i32_w]
                               rfl
                              refine take_ (i:=4) (N:=some 63) (v:=?_) (a':=?_) #[true,true,true,true,true,true,true,false,false,false,false,false,false,false] rfl rfl (take_ofW HT_.out HW_.out (by kernel_rfl)) (fun _ _ _ h=>h) (Or.inl ⟨by rfl,?_⟩) hHeld ?_ ?_
                              rotate_left
                              ·rintro w' ⟨s0,s1,s2,s3,s4,s5⟩
                               go_simp
                               with_reducible rfl
                              rotate_left
                              ·simp only [Act.put,List.setIfInBounds_toArray,List.set_cons_zero,List.set_cons_succ,i64_w,i32_w]
                               rfl
                              refine pure_ (i:=7) (N:=some 66) (v:=?_) (a':=?_) #[true,true,true,true,true,true,true,true,false,false,false,false,false,false] rfl rfl (any_of HT_.out (by kernel_rfl)) (fun _ _ _ h=>h) (Or.inl ⟨by rfl,?_⟩) ?_ ?_
                              rotate_left
                              ·intro w'
                               go_simp
                               with_reducible rfl
                              rotate_left
                              ·simp only [Act.put,List.setIfInBounds_toArray,List.set_cons_zero,List.set_cons_succ,i64_w,i32_w]
                               rfl
                              refine one_ (i:=8) (N:=some 67) #[true,true,true,true,true,true,true,true,true,false,false,false,false,false] rfl rfl (one_of HT_.out (by kernel_rfl)) (by decide) (fun K hK=>?_)
                              refine goes_ Try.func83 (by kernel_rfl) rfl #[.agg #[.int .i64 a0_0,.int .i64 a0_1,.int .i64 a0_2,.slice (some ad203) l0_3.length c0_3],.slice A1 l1.length c1,.int .u32 a2,.slice A68 (((rd_T27 l0_3 x36_2).f1).drop ((ji40) : Int).toNat).length (c203_1 - (ji40).toNat)] (by rfl) rfl rfl (by (try simp only [List.map_toArray,List.map_cons,List.map_nil]);first|done|(rw [show (((rd_T27 l0_3 x36_2).f1).drop ((ji40) : Int).toNat).length = (((rd_T27 l0_3 x36_2).f1).length - (ji40).toNat) from List.length_drop] <;> rfl)|(simp only [hji40];rfl)|rfl|(simp only [List.length_drop,List.length_take];rfl)) ?_
                              with_reducible refine (ahead_begin.calls k3 a0_0 a0_1 a0_2 _ _ l0_3 _ _ l1 a2 _ _ (((rd_T27 l0_3 x36_2).f1).drop ((ji40) : Int).toNat) t207 true _ ?side1 ?side2 ?side3 ?side4 ?side5 ?side6 A43.out).mono ?_
                              (case side1=>repeat (first|exact (Kd.C_below HR0_3.out HB.out)|(with_reducible refine Kd.C_alloc ?_ _)|(with_reducible refine Kd.C_drewN ?_ _)|(with_reducible refine Kd.C_drew ?_)))
                              (case side2=>exact HC0_3.out)
                              (case side3=>repeat (first|exact (Kd.C_below HR1.out HB.out)|(with_reducible refine Kd.C_alloc ?_ _)|(with_reducible refine Kd.C_drewN ?_ _)|(with_reducible refine Kd.C_drew ?_)))
                              (case side4=>exact HC1.out)
                              (case side5=>repeat (first|exact (Kd.C_below HR206.out HB.out)|(with_reducible refine Kd.C_alloc ?_ _)|(with_reducible refine Kd.C_drewN ?_ _)|(with_reducible refine Kd.C_drew ?_)))
                              (case side6=>exact HC206.out)
                              rintro e w69 ⟨rfl,hb⟩
                              refine ⟨_,rfl,?_⟩
                              have n0_:=Aside0.mk (Kd.R_below (by (with_reducible repeat (first|apply Kd.R_alloc|apply Kd.R_drewN|apply Kd.R_drew));exact HO_9.out) hb)
                              have n1_:=Aside0.mk (blk_below (g:=gb196) (o:=.cells #[.int .i64 a0_0,.int .i64 a0_1,.int .i64 a0_2,.slice (some ad203) l0_3.length c0_3] 24 (0,0)) (by (with_reducible repeat (first|refine blk_drewN ?_ _|refine blk_drew ?_|refine blk_alloc ?_ _));exact BK196.out) hb)
                              have n2_:=Aside0.mk (blk_below (g:=gb204) (o:=.cells #[.int .i64 ((rd_T27 l0_3 x36_2).f0),.slice (some ad205) ((rd_T27 l0_3 x36_2).f1).length c203_1] 27 (0,0)) (by (with_reducible repeat (first|refine blk_drewN ?_ _|refine blk_drew ?_|refine blk_alloc ?_ _));exact BK204.out) hb)
                              have n3_:=Aside0.mk (below_step (by repeat (first|(with_reducible first|exact HB.out|apply below_alloc|apply pw_below_drewN|apply below_drew1|refine below_set ?_ GE196.out|refine below_set ?_ GE204.out)|exact HB.out)) hb)
                              clear HO_9
                              clear BK196
                              clear BK204
                              clear HB
                              have HO_9:=n0_
                              have BK196:=n1_
                              have BK204:=n2_
                              have HB:=n3_
                              clear n0_ n1_ n2_ n3_
                              (try clear hb)
                              (try clear hb2)
                              (try clear hk)
                              (try clear hi)
                              refine hK.out _ _ ⟨(blk_cell BK196.out 0).trans rfl,(blk_cell BK196.out 1).trans rfl,(blk_cell BK196.out 2).trans rfl,(blk_cell BK196.out 3).trans rfl,(blk_cell BK204.out 0).trans rfl,(blk_cell BK204.out 1).trans rfl⟩ (fun hHeld=>?_)
                              clear hK K
                              refine norm_ (a':=?_) ?_ ?_
                              rotate_left
                              ·show Act.put _ (some 67) _ = _
                               simp only [Act.put,List.setIfInBounds_toArray,List.set_cons_zero,List.set_cons_succ,i64_w,i32_w]
                               rfl
                              refine pure_ (i:=9) (N:=some 58) (v:=?_) (a':=?_) #[true,true,true,true,true,true,true,true,true,true,false,false,false,false] rfl rfl (any_of HT_.out (by kernel_rfl)) (fun _ _ _ h=>h) (Or.inl ⟨by rfl,?_⟩) ?_ ?_
                              rotate_left
                              ·intro w'
                               go_simp
                               with_reducible rfl
                              rotate_left
                              ·simp only [Act.put,List.setIfInBounds_toArray,List.set_cons_zero,List.set_cons_succ,i64_w,i32_w]
                               rfl
                              refine pure_ (i:=10) (N:=some 68) (v:=?_) (a':=?_) #[true,true,true,true,true,true,true,true,true,true,true,false,false,false] rfl rfl (any_of HT_.out (by kernel_rfl)) (fun _ _ _ h=>h) (Or.inl ⟨by rfl,?_⟩) ?_ ?_
                              rotate_left
                              ·intro w'
                               go_simp
                               with_reducible rfl
                              rotate_left
                              ·simp only [Act.put,List.setIfInBounds_toArray,List.set_cons_zero,List.set_cons_succ,i64_w,i32_w]
                               rfl
                              refine pure_ (i:=11) (N:=some 69) (v:=?_) (a':=?_) #[true,true,true,true,true,true,true,true,true,true,true,true,false,false] rfl rfl (any_of HT_.out (by kernel_rfl)) (fun _ _ _ h=>h) (Or.inl ⟨by rfl,?_⟩) ?_ ?_
                              rotate_left
                              ·intro w'
                               go_simp
                               with_reducible rfl
                              rotate_left
                              ·simp only [Act.put,List.setIfInBounds_toArray,List.set_cons_zero,List.set_cons_succ,i64_w,i32_w]
                               rfl
                              refine pure_ (i:=12) (N:=some 15) (v:=?_) (a':=?_) #[true,true,true,true,true,true,true,true,true,true,true,true,true,false] rfl rfl (any_of HT_.out (by kernel_rfl)) (fun _ _ _ h=>h) (Or.inl ⟨by rfl,?_⟩) ?_ ?_
                              rotate_left
                              ·intro w'
                               go_simp
                               with_reducible rfl
                              rotate_left
                              ·simp only [Act.put,List.setIfInBounds_toArray,List.set_cons_zero,List.set_cons_succ,i64_w,i32_w]
                               rfl
                              refine pure_ (i:=13) (N:=some 16) (v:=?_) (a':=?_) #[true,true,true,true,true,true,true,true,true,true,true,true,true,true] rfl rfl (any_of HT_.out (by kernel_rfl)) (fun _ _ _ h=>h) (Or.inl ⟨by rfl,?_⟩) ?_ ?_
                              rotate_left
                              ·intro w'
                               go_simp
                               with_reducible rfl
                              rotate_left
                              ·simp only [Act.put,List.setIfInBounds_toArray,List.set_cons_zero,List.set_cons_succ,i64_w,i32_w]
                               rfl
                              refine done_ (done_of HT_.out (by kernel_rfl)) ?_
                              have hcz70_0 : w69.cell? ⟨gb204,0,none⟩ = some (.int .i64 ((rd_T27 l0_3 x36_2).f0)):=(blk_cell BK204.out 0).trans rfl
                              have hcz70_1 : w69.cell? ⟨gb204,1,none⟩ = some (.slice (some ad205) ((rd_T27 l0_3 x36_2).f1).length c203_1):=(blk_cell BK204.out 1).trans rfl
                              have hfz70_0:=blk_frozen BK204.out 0
                              have hfz70_1:=blk_frozen BK204.out 1
                              have p209 : 0 ≤ (((rd_T27 l0_3 x36_2).f0) : Int):=of_decide_eq_true (by first|(with_reducible assumption)|assumption)
                              have q209 : ((rd_T27 l0_3 x36_2).f0) < (x9_3.length : Int):=of_decide_eq_true (by first|(with_reducible assumption)|assumption)
                              obtain ⟨ad209,e209,hx209_0⟩:=Kd.at_int (Kd.R_reads' HO_9.out).2.2 ((rd_T27 l0_3 x36_2).f0) p209 q209
                              obtain rfl : (⟨go11,0,none⟩ : Addr) = ad209:=(by injection e209)
                              (first|simp only [add_plain] at hx209_0|simp only [add_at] at hx209_0|simp only [Addr.add,Nat.zero_add] at hx209_0|skip)
                              replace p209:=eq_true p209
                              replace q209:=eq_true q209
                              have hcz71_0 : w69.cell? ⟨gb196,0,none⟩ = some (.int .i64 a0_0):=(blk_cell BK196.out 0).trans rfl
                              have hcz71_1 : w69.cell? ⟨gb196,1,none⟩ = some (.int .i64 a0_1):=(blk_cell BK196.out 1).trans rfl
                              have hcz71_2 : w69.cell? ⟨gb196,2,none⟩ = some (.int .i64 a0_2):=(blk_cell BK196.out 2).trans rfl
                              have hcz71_3 : w69.cell? ⟨gb196,3,none⟩ = some (.slice (some ad203) l0_3.length c0_3):=(blk_cell BK196.out 3).trans rfl
                              have hfz71_0:=blk_frozen BK196.out 0
                              have hfz71_1:=blk_frozen BK196.out 1
                              have hfz71_2:=blk_frozen BK196.out 2
                              have hfz71_3:=blk_frozen BK196.out 3
                              have p212 : 0 ≤ ((ji61) : Int):=of_decide_eq_true (by first|(with_reducible assumption)|assumption)
                              have q212 : (ji61) < (x9_3.length : Int):=of_decide_eq_true (by first|(with_reducible assumption)|assumption)
                              obtain ⟨ad212,e212,hx212_0⟩:=Kd.at_int (Kd.R_reads' HO_9.out).2.2 (ji61) p212 q212
                              obtain rfl : (⟨go11,0,none⟩ : Addr) = ad212:=(by injection e212)
                              (first|simp only [add_plain] at hx212_0|simp only [add_at] at hx212_0|simp only [Addr.add,Nat.zero_add] at hx212_0|skip)
                              replace p212:=eq_true p212
                              replace q212:=eq_true q212
                              have p213 : 0 ≤ ((ji61) : Int):=of_decide_eq_true (by first|(with_reducible assumption)|assumption)
                              have q213 : (ji61) < (x9_3.length : Int):=of_decide_eq_true (by first|(with_reducible assumption)|assumption)
                              obtain ⟨ad213,e213,hx213_0⟩:=Kd.at_int (Kd.R_reads' HO_9.out).2.2 (ji61) p213 q213
                              obtain rfl : (⟨go11,0,none⟩ : Addr) = ad213:=(by injection e213)
                              (first|simp only [add_plain] at hx213_0|simp only [add_at] at hx213_0|simp only [Addr.add,Nat.zero_add] at hx213_0|skip)
                              replace p213:=eq_true p213
                              replace q213:=eq_true q213
                              have p64 : 0 ≤ ((ji61) : Int):=of_decide_eq_true (by first|(with_reducible assumption)|assumption)
                              have q64 : ((ji61) : Int) < ((x9_3.length : Int) : Int):=of_decide_eq_true (by first|(with_reducible assumption)|assumption)
                              obtain ⟨hx64_0,hf64_0⟩:=Kd.R_celln 0 HO_9.out ((ji61) : Int) p64 q64
                              replace p64:=eq_true p64
                              replace q64:=eq_true q64
                              obtain ⟨hy72_,hz72_⟩:=Kd.R_celln 0 HO_9.out ((ji61) : Int) (of_decide_eq_true (by first|(with_reducible assumption)|assumption)) (of_decide_eq_true (by first|(with_reducible assumption)|assumption))
                              have HP72:=Kd.R_putg HO_9.out ((ji61) : Int) (Go.bits .or .u32 (rd x9_3 (ji61)) (Go.bits .or .u32 t207 (rd x9_3 ((rd_T27 l0_3 x36_2).f0))))
                              try go_wp2_with (first|((with_reducible refine gate_store (t:=28) (p:=100) rfl ?_);refine store_event (t:=28) (p:=100) (v:=?vo_w73) (w1:=(w69.setCell ⟨go11,((ji61) : Int).toNat,none⟩ (.int .u32 (Go.bits .or .u32 (rd x9_3 (ji61)) (Go.bits .or .u32 t207 (rd x9_3 ((rd_T27 l0_3 x36_2).f0))))))) ?hg ?ho ?hn ?hr ?_;(case ho=>rfl);(case hg=>rfl);(case hn=>rfl);(case hr=>first|(go_simp;done)|(go_simp;rfl));intro w73 hw;have hg : w69.grownBy w73 (some go11):=(by rw [hw];exact HP72.2);have hp_ : Kd.R (Kd.int .u32) 28 w73 w.heap.size (fun _=>True) (.slice (some ⟨go11,0,none⟩) x9_3.length co11) y214:=(by rw [hw,Ny214.out];exact HP72.1);clear HP72;have n0_:=Aside0.mk (hp_);have n1_:=Aside0.mk (blk_grown (g:=gb196) (o:=.cells #[.int .i64 a0_0,.int .i64 a0_1,.int .i64 a0_2,.slice (some ad203) l0_3.length c0_3] 24 (0,0)) (by (with_reducible repeat (first|refine blk_drewN ?_ _|refine blk_drew ?_|refine blk_alloc ?_ _));exact BK196.out) hg (Kd.R_ne HO_9.out BK196.out (by decide)));have n2_:=Aside0.mk (blk_grown (g:=gb204) (o:=.cells #[.int .i64 ((rd_T27 l0_3 x36_2).f0),.slice (some ad205) ((rd_T27 l0_3 x36_2).f1).length c203_1] 27 (0,0)) (by (with_reducible repeat (first|refine blk_drewN ?_ _|refine blk_drew ?_|refine blk_alloc ?_ _));exact BK204.out) hg (Kd.R_ne HO_9.out BK204.out (by decide)));have n3_:=Aside0.mk ((by rw [hw];exact below_set (HB.out) GB11.out : Below w.heap.size w w73));clear HO_9;clear BK196;clear BK204;clear HB;have HO_9:=n0_;have BK196:=n1_;have BK204:=n2_;have HB:=n3_;clear n0_ n1_ n2_ n3_;clear hg hw hp_))
                              (try simp only [← hl9_3])
                              first|go_roundg k3|((simp only [← hji8,← hji26,← hji40,← hji61]);go_roundg k3)
                              case measure=>have:=HK1.out;have:=HK2.out;have:=HK3.out;omega
                              case rel=>exact ⟨(y214),(((Go.bits .andNot .u32 (Go.bits .or .u32 t207 (rd x9_3 ((rd_T27 l0_3 x36_2).f0))) (rd x9_3 (ji61))) != 0)),(ji40),(by first|rfl|(simp;done)|(simp only [← hji61] <;> (first|rfl|simp))|(simp [*];done)),(by first|rfl|(simp;done)|(simp only [← hji40] <;> (first|rfl|simp))|(simp [*];done)),(by first|exact H'|((simp only [hji8,hji26,hji40,hji61]);exact H')|(have h_:=H'.out;simp only [← hji8,← hji26,← hji40,← hji61] at h_ ⊢;exact ⟨h_⟩)),⟨by have:=HK1.out;have:=HK2.out;have:=HK3.out;omega⟩,⟨by (try simp only [hl9_1]);(try simp only [hl9_2]);(try simp only [hl9_3]);(with_reducible repeat (first|apply Kd.R_alloc|apply Kd.R_drewN|apply Kd.R_drew));exact HO_9.out⟩,⟨by (try simp only [hl9_1]);(try simp only [hl9_2]);(try simp only [hl9_3]);(with_reducible repeat (first|refine blk_drewN ?_ _|refine blk_drew ?_|refine blk_alloc ?_ _));exact BK196.out⟩,⟨by (try simp only [hl9_1]);(try simp only [hl9_2]);(try simp only [hl9_3]);(with_reducible repeat (first|refine blk_drewN ?_ _|refine blk_drew ?_|refine blk_alloc ?_ _));exact BK204.out⟩,⟨by repeat (first|(with_reducible first|exact HB.out|apply below_alloc|apply pw_below_drewN|apply below_drew1|refine below_set ?_ GE196.out|refine below_set ?_ GE204.out)|exact HB.out)⟩⟩
                             ·rw [if_neg c63] at H
                              exact absurd H (by simp)
                            ·rw [if_neg c62] at H
                             exact absurd H (by simp)
                          ·rw [if_neg c46] at H
                           exact absurd H (by simp)
                         ·rw [if_neg c45] at H
                          exact absurd H (by simp)
                        ·replace c44:=Bool.eq_false_iff.mpr c44
                         subst c44
                         have H1 : (if x10_3 = true then (if 0 ≤ (wrap64 ((rd ((rd_T27 l0_3 x36_2).f1) x49_3) - a0_0)) then (if (wrap64 ((rd ((rd_T27 l0_3 x36_2).f1) x49_3) - a0_0)) < (x9_3.length : Int) then (ahead_follows.l2 k3 l1 a2 t197 (x9_3.set ((wrap64 ((rd ((rd_T27 l0_3 x36_2).f1) x49_3) - a0_0)) : Int).toNat (Go.bits .or .u32 (rd x9_3 (wrap64 ((rd ((rd_T27 l0_3 x36_2).f1) x49_3) - a0_0))) t207)) true l0_3 (l0_3.length : Int) x36_2 ((rd_T27 l0_3 x36_2).f1) (((rd_T27 l0_3 x36_2).f1).length : Int) ji40 a0_0 a0_1 a0_2 l0_3 ((rd_T27 l0_3 x36_2).f0) ((rd_T27 l0_3 x36_2).f1)) else (none)) else (none)) else (if 0 ≤ (wrap64 ((rd ((rd_T27 l0_3 x36_2).f1) x49_3) - a0_0)) then (if (wrap64 ((rd ((rd_T27 l0_3 x36_2).f1) x49_3) - a0_0)) < (x9_3.length : Int) then (ahead_follows.l2 k3 l1 a2 t197 (x9_3.set ((wrap64 ((rd ((rd_T27 l0_3 x36_2).f1) x49_3) - a0_0)) : Int).toNat (Go.bits .or .u32 (rd x9_3 (wrap64 ((rd ((rd_T27 l0_3 x36_2).f1) x49_3) - a0_0))) t207)) ((Go.bits .andNot .u32 t207 (rd x9_3 (wrap64 ((rd ((rd_T27 l0_3 x36_2).f1) x49_3) - a0_0)))) != 0) l0_3 (l0_3.length : Int) x36_2 ((rd_T27 l0_3 x36_2).f1) (((rd_T27 l0_3 x36_2).f1).length : Int) ji40 a0_0 a0_1 a0_2 l0_3 ((rd_T27 l0_3 x36_2).f0) ((rd_T27 l0_3 x36_2).f1)) else (none)) else (none))) = some r:=by rw [if_neg (show ¬ (false = true) by decide)] at H;exact H
                         clear H
                         have H:=H1
                         clear H1
                         by_cases c74 : x10_3 = true
                         ·subst c74
                          have H1 : (if 0 ≤ (wrap64 ((rd ((rd_T27 l0_3 x36_2).f1) x49_3) - a0_0)) then (if (wrap64 ((rd ((rd_T27 l0_3 x36_2).f1) x49_3) - a0_0)) < (x9_3.length : Int) then (ahead_follows.l2 k3 l1 a2 t197 (x9_3.set ((wrap64 ((rd ((rd_T27 l0_3 x36_2).f1) x49_3) - a0_0)) : Int).toNat (Go.bits .or .u32 (rd x9_3 (wrap64 ((rd ((rd_T27 l0_3 x36_2).f1) x49_3) - a0_0))) t207)) true l0_3 (l0_3.length : Int) x36_2 ((rd_T27 l0_3 x36_2).f1) (((rd_T27 l0_3 x36_2).f1).length : Int) ji40 a0_0 a0_1 a0_2 l0_3 ((rd_T27 l0_3 x36_2).f0) ((rd_T27 l0_3 x36_2).f1)) else (none)) else (none)) = some r:=by rw [if_pos rfl] at H;exact H
                          clear H
                          have H:=H1
                          clear H1
                          obtain ⟨ji75,hji75⟩ : ∃ j_ : Int,(wrap64 ((rd ((rd_T27 l0_3 x36_2).f1) x49_3) - a0_0)) = j_:=⟨_,rfl⟩
                          replace H : (if 0 ≤ (ji75) then (if (ji75) < (x9_3.length : Int) then (ahead_follows.l2 k3 l1 a2 t197 (x9_3.set ((ji75) : Int).toNat (Go.bits .or .u32 (rd x9_3 (ji75)) t207)) true l0_3 (l0_3.length : Int) x36_2 ((rd_T27 l0_3 x36_2).f1) (((rd_T27 l0_3 x36_2).f1).length : Int) ji40 a0_0 a0_1 a0_2 l0_3 ((rd_T27 l0_3 x36_2).f0) ((rd_T27 l0_3 x36_2).f1)) else (none)) else (none)) = some r:=by first|(rw [hji75] at H;exact H)|(simp only [hji75] at H ⊢;exact H)
                          (try rw [hji75] at A43)
                          have hji75w : (IntKind.i64.wrap ((rd ((rd_T27 l0_3 x36_2).f1) x49_3) - a0_0)) = ji75:=(i64_w _).trans hji75
                          by_cases c76 : 0 ≤ (ji75)
                          ·rw [if_pos c76] at H
                           have c76b0 : decide (0 ≤ (ji75)) = true:=decide_eq_true c76
                           clear c76
                           by_cases c77 : (ji75) < (x9_3.length : Int)
                           ·rw [if_pos c77] at H
                            have c77b0 : decide ((ji75) < (x9_3.length : Int)) = true:=decide_eq_true c77
                            (try (have c77b0h:=c77b0;simp only [hl9_1,hl9_2,hl9_3] at c77b0h))
                            clear c77
                            obtain ⟨y216,hy216⟩ : ∃ y_ : List Int,y_ = (x9_3.set ((ji75) : Int).toNat (Go.bits .or .u32 (rd x9_3 (ji75)) t207)):=⟨_,rfl⟩
                            replace H : (ahead_follows.l2 k3 l1 a2 t197 y216 true l0_3 (l0_3.length : Int) x36_2 ((rd_T27 l0_3 x36_2).f1) (((rd_T27 l0_3 x36_2).f1).length : Int) ji40 a0_0 a0_1 a0_2 l0_3 ((rd_T27 l0_3 x36_2).f0) ((rd_T27 l0_3 x36_2).f1)) = some r:=by first|(rw [hy216];with_reducible exact H)|(have H2_:=(Option.bind_some _ _).symm.trans H;rw [hy216];with_reducible exact H2_)|(have H2_:=(Option.bind_some _ _).symm.trans H;with_reducible exact H2_)|with_reducible exact H|(rw [hy216];exact H)|exact H
                            have Ny216:=Aside0.mk hy216
                            clear hy216
                            have H':=Aside0.mk H
                            clear H
                            have p205 : 0 ≤ (x49_3 : Int):=of_decide_eq_true (by first|(with_reducible assumption)|assumption)
                            have q205 : x49_3 < (((rd_T27 l0_3 x36_2).f1).length : Int):=of_decide_eq_true (by first|(with_reducible assumption)|assumption)
                            obtain ⟨ad205,e205,hx205_0⟩:=Kd.at_int HR203_1.out x49_3 p205 q205
                            cases e205
                            replace hx205_0:=(HB.out.cell (World.block_lt_of_cell? w _ hx205_0)).trans hx205_0
                            replace p205:=eq_true p205
                            replace q205:=eq_true q205
                            have hnb79:=NB196_204.out
                            have hnc79:=NB204_196.out
                            have hcz80_0 : wr.cell? ⟨gb196,0,none⟩ = some (.int .i64 a0_0):=(blk_cell BK196.out 0).trans rfl
                            have hcz80_1 : wr.cell? ⟨gb196,1,none⟩ = some (.int .i64 a0_1):=(blk_cell BK196.out 1).trans rfl
                            have hcz80_2 : wr.cell? ⟨gb196,2,none⟩ = some (.int .i64 a0_2):=(blk_cell BK196.out 2).trans rfl
                            have hcz80_3 : wr.cell? ⟨gb196,3,none⟩ = some (.slice (some ad203) l0_3.length c0_3):=(blk_cell BK196.out 3).trans rfl
                            have hfz80_0:=blk_frozen BK196.out 0
                            have hfz80_1:=blk_frozen BK196.out 1
                            have hfz80_2:=blk_frozen BK196.out 2
                            have hfz80_3:=blk_frozen BK196.out 3
                            try go_wp2
                            have n0_:=Aside0.mk (Kd.R_drew HO_9.out)
                            have n1_:=Aside0.mk (blk_drew BK196.out)
                            have n2_:=Aside0.mk (blk_drew BK204.out)
                            have n3_:=Aside0.mk (below_drew1 HB.out)
                            clear HO_9
                            clear BK196
                            clear BK204
                            clear HB
                            have HO_9:=n0_
                            have BK196:=n1_
                            have BK204:=n2_
                            have HB:=n3_
                            clear n0_ n1_ n2_ n3_
                            obtain ⟨i082,hi082,_,hsz82,_⟩:=info_parts info3
                            obtain ⟨A82,hcut82,hA82,hC82⟩:=print_drop_of (P:=Try.prog) (Value.int .i64) 0 25 3 .i64 Try.underlying25 hi082 hsz82 (some ad205) c203_1 ((rd_T27 l0_3 x36_2).f1) (ji40) (of_decide_eq_true (by first|(with_reducible assumption)|assumption)) (of_decide_eq_true (by first|(with_reducible assumption)|assumption)) HC203_1.out
                            have HR206:=Aside0.mk (Kd.C_of_reads (h1:=fun _=>rfl) (hA82 _ (Kd.reads_of_C HR203_1.out)))
                            have HC206:=Aside0.mk hC82
                            clear hA82 hC82 hi082 hsz82
                            refine start_ (n:=14) (S:=fun w'=>w'.cell? ⟨gb196,0,none⟩ = some (.int .i64 a0_0) ∧ w'.cell? ⟨gb196,1,none⟩ = some (.int .i64 a0_1) ∧ w'.cell? ⟨gb196,2,none⟩ = some (.int .i64 a0_2) ∧ w'.cell? ⟨gb196,3,none⟩ = some (.slice (some ad203) l0_3.length c0_3) ∧ w'.cell? ⟨gb204,0,none⟩ = some (.int .i64 ((rd_T27 l0_3 x36_2).f0)) ∧ w'.cell? ⟨gb204,1,none⟩ = some (.slice (some ad205) ((rd_T27 l0_3 x36_2).f1).length c203_1)) (ds:=[]) #[false,false,false,false,false,false,false,false,false,false,false,false,false,false] (by kernel_rfl) rfl rfl ⟨(blk_cell BK196.out 0).trans rfl,(blk_cell BK196.out 1).trans rfl,(blk_cell BK196.out 2).trans rfl,(blk_cell BK196.out 3).trans rfl,(blk_cell BK204.out 0).trans rfl,(blk_cell BK204.out 1).trans rfl⟩ (fun hHeld=>?_);refine with_tabW ahead_follows.tab15 ahead_follows.bits15 (fun HT_ HW_=>?_)
                            generalize wr.drew = w81 at HO_9 BK196 BK204 HB HR206 hHeld ⊢
                            refine pure_ (i:=1) (N:=some 60) (v:=?_) (a':=?_) #[false,true,false,false,false,false,false,false,false,false,false,false,false,false] rfl rfl (any_of HT_.out (by kernel_rfl)) (fun _ _ _ h=>h) (Or.inl ⟨by rfl,?_⟩) ?_ ?_
                            rotate_left
                            ·intro w'
                             go_simp
                             with_reducible rfl
                            rotate_left
                            ·simp only [Act.put,List.setIfInBounds_toArray,List.set_cons_zero,List.set_cons_succ,i64_w,i32_w]
                             rfl
                            refine pure_ (i:=2) (N:=some 61) (v:=?_) (a':=?_) #[false,true,true,false,false,false,false,false,false,false,false,false,false,false] rfl rfl (any_of HT_.out (by kernel_rfl)) (fun _ _ _ h=>h) (Or.inl ⟨by rfl,?_⟩) ?_ ?_
                            rotate_left
                            ·intro w'
                             go_simp
                             with_reducible rfl
                            rotate_left
                            ·simp only [Act.put,List.setIfInBounds_toArray,List.set_cons_zero,List.set_cons_succ,i64_w,i32_w]
                             rfl
                            refine pure_ (i:=3) (N:=some 62) (v:=?_) (a':=?_) #[false,true,true,true,false,false,false,false,false,false,false,false,false,false] rfl rfl (any_of HT_.out (by kernel_rfl)) (fun _ _ _ h=>h) (Or.inl ⟨by rfl,?_⟩) ?_ ?_
                            rotate_left
                            ·intro w'
                             go_simp
                             with_reducible rfl
                            rotate_left
                            ·simp only [Act.put,List.setIfInBounds_toArray,List.set_cons_zero,List.set_cons_succ,i64_w,i32_w]
                             rfl
                            refine pure_ (i:=5) (N:=some 64) (v:=?_) (a':=?_) #[false,true,true,true,false,true,false,false,false,false,false,false,false,false] rfl rfl (any_of HT_.out (by kernel_rfl)) (fun _ _ _ h=>h) (Or.inl ⟨by rfl,?_⟩) ?_ ?_
                            rotate_left
                            ·intro w'
                             go_simp
                             with_reducible rfl
                            rotate_left
                            ·simp only [Act.put,List.setIfInBounds_toArray,List.set_cons_zero,List.set_cons_succ,i64_w,i32_w]
                             rfl
                            refine pure_ (i:=6) (N:=some 65) (v:=?_) (a':=?_) #[false,true,true,true,false,true,true,false,false,false,false,false,false,false] rfl rfl (any_of HT_.out (by kernel_rfl)) (fun _ _ _ h=>h) (Or.inl ⟨by rfl,?_⟩) ?_ ?_
                            rotate_left
                            ·intro w'
                             go_simp
                             with_reducible rfl
                            rotate_left
                            ·simp only [Act.put,List.setIfInBounds_toArray,List.set_cons_zero,List.set_cons_succ,i64_w,i32_w]
                             rfl
                            refine take_ (i:=0) (N:=some 59) (v:=?_) (a':=?_) #[true,true,true,true,false,true,true,false,false,false,false,false,false,false] rfl rfl (take_ofW HT_.out HW_.out (by kernel_rfl)) (fun _ _ _ h=>h) (Or.inl ⟨by rfl,?_⟩) hHeld ?_ ?_
                            rotate_left
                            ·rintro w' ⟨s0,s1,s2,s3,s4,s5⟩
                             go_simp
                             with_reducible rfl
                            rotate_left
                            ·simp only [Act.put,List.setIfInBounds_toArray,List.set_cons_zero,List.set_cons_succ,i64_w,i32_w]
                             rfl
                            refine take_ (i:=4) (N:=some 63) (v:=?_) (a':=?_) #[true,true,true,true,true,true,true,false,false,false,false,false,false,false] rfl rfl (take_ofW HT_.out HW_.out (by kernel_rfl)) (fun _ _ _ h=>h) (Or.inl ⟨by rfl,?_⟩) hHeld ?_ ?_
                            rotate_left
                            ·rintro w' ⟨s0,s1,s2,s3,s4,s5⟩
                             go_simp
                             with_reducible rfl
                            rotate_left
                            ·simp only [Act.put,List.setIfInBounds_toArray,List.set_cons_zero,List.set_cons_succ,i64_w,i32_w]
                             rfl
                            refine pure_ (i:=7) (N:=some 66) (v:=?_) (a':=?_) #[true,true,true,true,true,true,true,true,false,false,false,false,false,false] rfl rfl (any_of HT_.out (by kernel_rfl)) (fun _ _ _ h=>h) (Or.inl ⟨by rfl,?_⟩) ?_ ?_
                            rotate_left
                            ·intro w'
                             go_simp
                             with_reducible rfl
                            rotate_left
                            ·simp only [Act.put,List.setIfInBounds_toArray,List.set_cons_zero,List.set_cons_succ,i64_w,i32_w]
                             rfl
                            refine one_ (i:=8) (N:=some 67) #[true,true,true,true,true,true,true,true,true,false,false,false,false,false] rfl rfl (one_of HT_.out (by kernel_rfl)) (by decide) (fun K hK=>?_)
                            refine goes_ Try.func83 (by kernel_rfl) rfl #[.agg #[.int .i64 a0_0,.int .i64 a0_1,.int .i64 a0_2,.slice (some ad203) l0_3.length c0_3],.slice A1 l1.length c1,.int .u32 a2,.slice A82 (((rd_T27 l0_3 x36_2).f1).drop ((ji40) : Int).toNat).length (c203_1 - (ji40).toNat)] (by rfl) rfl rfl (by (try simp only [List.map_toArray,List.map_cons,List.map_nil]);first|done|(rw [show (((rd_T27 l0_3 x36_2).f1).drop ((ji40) : Int).toNat).length = (((rd_T27 l0_3 x36_2).f1).length - (ji40).toNat) from List.length_drop] <;> rfl)|(simp only [hji40];rfl)|rfl|(simp only [List.length_drop,List.length_take];rfl)) ?_
                            with_reducible refine (ahead_begin.calls k3 a0_0 a0_1 a0_2 _ _ l0_3 _ _ l1 a2 _ _ (((rd_T27 l0_3 x36_2).f1).drop ((ji40) : Int).toNat) t207 false _ ?side1 ?side2 ?side3 ?side4 ?side5 ?side6 A43.out).mono ?_
                            (case side1=>repeat (first|exact (Kd.C_below HR0_3.out HB.out)|(with_reducible refine Kd.C_alloc ?_ _)|(with_reducible refine Kd.C_drewN ?_ _)|(with_reducible refine Kd.C_drew ?_)))
                            (case side2=>exact HC0_3.out)
                            (case side3=>repeat (first|exact (Kd.C_below HR1.out HB.out)|(with_reducible refine Kd.C_alloc ?_ _)|(with_reducible refine Kd.C_drewN ?_ _)|(with_reducible refine Kd.C_drew ?_)))
                            (case side4=>exact HC1.out)
                            (case side5=>repeat (first|exact (Kd.C_below HR206.out HB.out)|(with_reducible refine Kd.C_alloc ?_ _)|(with_reducible refine Kd.C_drewN ?_ _)|(with_reducible refine Kd.C_drew ?_)))
                            (case side6=>exact HC206.out)
                            rintro e w83 ⟨rfl,hb⟩
                            refine ⟨_,rfl,?_⟩
                            have n0_:=Aside0.mk (Kd.R_below (by (with_reducible repeat (first|apply Kd.R_alloc|apply Kd.R_drewN|apply Kd.R_drew));exact HO_9.out) hb)
                            have n1_:=Aside0.mk (blk_below (g:=gb196) (o:=.cells #[.int .i64 a0_0,.int .i64 a0_1,.int .i64 a0_2,.slice (some ad203) l0_3.length c0_3] 24 (0,0)) (by (with_reducible repeat (first|refine blk_drewN ?_ _|refine blk_drew ?_|refine blk_alloc ?_ _));exact BK196.out) hb)
                            have n2_:=Aside0.mk (blk_below (g:=gb204) (o:=.cells #[.int .i64 ((rd_T27 l0_3 x36_2).f0),.slice (some ad205) ((rd_T27 l0_3 x36_2).f1).length c203_1] 27 (0,0)) (by (with_reducible repeat (first|refine blk_drewN ?_ _|refine blk_drew ?_|refine blk_alloc ?_ _));exact BK204.out) hb)
                            have n3_:=Aside0.mk (below_step (by repeat (first|(with_reducible first|exact HB.out|apply below_alloc|apply pw_below_drewN|apply below_drew1|refine below_set ?_ GE196.out|refine below_set ?_ GE204.out)|exact HB.out)) hb)
                            clear HO_9
                            clear BK196
                            clear BK204
                            clear HB
                            have HO_9:=n0_
                            have BK196:=n1_
                            have BK204:=n2_
                            have HB:=n3_
                            clear n0_ n1_ n2_ n3_
                            (try clear hb)
                            (try clear hb2)
                            (try clear hk)
                            (try clear hi)
                            refine hK.out _ _ ⟨(blk_cell BK196.out 0).trans rfl,(blk_cell BK196.out 1).trans rfl,(blk_cell BK196.out 2).trans rfl,(blk_cell BK196.out 3).trans rfl,(blk_cell BK204.out 0).trans rfl,(blk_cell BK204.out 1).trans rfl⟩ (fun hHeld=>?_)
                            clear hK K
                            refine norm_ (a':=?_) ?_ ?_
                            rotate_left
                            ·show Act.put _ (some 67) _ = _
                             simp only [Act.put,List.setIfInBounds_toArray,List.set_cons_zero,List.set_cons_succ,i64_w,i32_w]
                             rfl
                            refine pure_ (i:=9) (N:=some 58) (v:=?_) (a':=?_) #[true,true,true,true,true,true,true,true,true,true,false,false,false,false] rfl rfl (any_of HT_.out (by kernel_rfl)) (fun _ _ _ h=>h) (Or.inl ⟨by rfl,?_⟩) ?_ ?_
                            rotate_left
                            ·intro w'
                             go_simp
                             with_reducible rfl
                            rotate_left
                            ·simp only [Act.put,List.setIfInBounds_toArray,List.set_cons_zero,List.set_cons_succ,i64_w,i32_w]
                             rfl
                            refine pure_ (i:=10) (N:=some 68) (v:=?_) (a':=?_) #[true,true,true,true,true,true,true,true,true,true,true,false,false,false] rfl rfl (any_of HT_.out (by kernel_rfl)) (fun _ _ _ h=>h) (Or.inl ⟨by rfl,?_⟩) ?_ ?_
                            rotate_left
                            ·intro w'
                             go_simp
                             with_reducible rfl
                            rotate_left
                            ·simp only [Act.put,List.setIfInBounds_toArray,List.set_cons_zero,List.set_cons_succ,i64_w,i32_w]
                             rfl
                            refine pure_ (i:=11) (N:=some 69) (v:=?_) (a':=?_) #[true,true,true,true,true,true,true,true,true,true,true,true,false,false] rfl rfl (any_of HT_.out (by kernel_rfl)) (fun _ _ _ h=>h) (Or.inl ⟨by rfl,?_⟩) ?_ ?_
                            rotate_left
                            ·intro w'
                             go_simp
                             with_reducible rfl
                            rotate_left
                            ·simp only [Act.put,List.setIfInBounds_toArray,List.set_cons_zero,List.set_cons_succ,i64_w,i32_w]
                             rfl
                            refine pure_ (i:=12) (N:=some 15) (v:=?_) (a':=?_) #[true,true,true,true,true,true,true,true,true,true,true,true,true,false] rfl rfl (any_of HT_.out (by kernel_rfl)) (fun _ _ _ h=>h) (Or.inl ⟨by rfl,?_⟩) ?_ ?_
                            rotate_left
                            ·intro w'
                             go_simp
                             with_reducible rfl
                            rotate_left
                            ·simp only [Act.put,List.setIfInBounds_toArray,List.set_cons_zero,List.set_cons_succ,i64_w,i32_w]
                             rfl
                            refine pure_ (i:=13) (N:=some 16) (v:=?_) (a':=?_) #[true,true,true,true,true,true,true,true,true,true,true,true,true,true] rfl rfl (any_of HT_.out (by kernel_rfl)) (fun _ _ _ h=>h) (Or.inl ⟨by rfl,?_⟩) ?_ ?_
                            rotate_left
                            ·intro w'
                             go_simp
                             with_reducible rfl
                            rotate_left
                            ·simp only [Act.put,List.setIfInBounds_toArray,List.set_cons_zero,List.set_cons_succ,i64_w,i32_w]
                             rfl
                            refine done_ (done_of HT_.out (by kernel_rfl)) ?_
                            have hcz84_0 : w83.cell? ⟨gb196,0,none⟩ = some (.int .i64 a0_0):=(blk_cell BK196.out 0).trans rfl
                            have hcz84_1 : w83.cell? ⟨gb196,1,none⟩ = some (.int .i64 a0_1):=(blk_cell BK196.out 1).trans rfl
                            have hcz84_2 : w83.cell? ⟨gb196,2,none⟩ = some (.int .i64 a0_2):=(blk_cell BK196.out 2).trans rfl
                            have hcz84_3 : w83.cell? ⟨gb196,3,none⟩ = some (.slice (some ad203) l0_3.length c0_3):=(blk_cell BK196.out 3).trans rfl
                            have hfz84_0:=blk_frozen BK196.out 0
                            have hfz84_1:=blk_frozen BK196.out 1
                            have hfz84_2:=blk_frozen BK196.out 2
                            have hfz84_3:=blk_frozen BK196.out 3
                            have p215 : 0 ≤ ((ji75) : Int):=of_decide_eq_true (by first|(with_reducible assumption)|assumption)
                            have q215 : (ji75) < (x9_3.length : Int):=of_decide_eq_true (by first|(with_reducible assumption)|assumption)
                            obtain ⟨ad215,e215,hx215_0⟩:=Kd.at_int (Kd.R_reads' HO_9.out).2.2 (ji75) p215 q215
                            obtain rfl : (⟨go11,0,none⟩ : Addr) = ad215:=(by injection e215)
                            (first|simp only [add_plain] at hx215_0|simp only [add_at] at hx215_0|simp only [Addr.add,Nat.zero_add] at hx215_0|skip)
                            replace p215:=eq_true p215
                            replace q215:=eq_true q215
                            have p78 : 0 ≤ ((ji75) : Int):=of_decide_eq_true (by first|(with_reducible assumption)|assumption)
                            have q78 : ((ji75) : Int) < ((x9_3.length : Int) : Int):=of_decide_eq_true (by first|(with_reducible assumption)|assumption)
                            obtain ⟨hx78_0,hf78_0⟩:=Kd.R_celln 0 HO_9.out ((ji75) : Int) p78 q78
                            replace p78:=eq_true p78
                            replace q78:=eq_true q78
                            obtain ⟨hy85_,hz85_⟩:=Kd.R_celln 0 HO_9.out ((ji75) : Int) (of_decide_eq_true (by first|(with_reducible assumption)|assumption)) (of_decide_eq_true (by first|(with_reducible assumption)|assumption))
                            have HP85:=Kd.R_putg HO_9.out ((ji75) : Int) (Go.bits .or .u32 (rd x9_3 (ji75)) t207)
                            try go_wp2_with (first|((with_reducible refine gate_store (t:=28) (p:=100) rfl ?_);refine store_event (t:=28) (p:=100) (v:=?vo_w86) (w1:=(w83.setCell ⟨go11,((ji75) : Int).toNat,none⟩ (.int .u32 (Go.bits .or .u32 (rd x9_3 (ji75)) t207)))) ?hg ?ho ?hn ?hr ?_;(case ho=>rfl);(case hg=>rfl);(case hn=>rfl);(case hr=>first|(go_simp;done)|(go_simp;rfl));intro w86 hw;have hg : w83.grownBy w86 (some go11):=(by rw [hw];exact HP85.2);have hp_ : Kd.R (Kd.int .u32) 28 w86 w.heap.size (fun _=>True) (.slice (some ⟨go11,0,none⟩) x9_3.length co11) y216:=(by rw [hw,Ny216.out];exact HP85.1);clear HP85;have n0_:=Aside0.mk (hp_);have n1_:=Aside0.mk (blk_grown (g:=gb196) (o:=.cells #[.int .i64 a0_0,.int .i64 a0_1,.int .i64 a0_2,.slice (some ad203) l0_3.length c0_3] 24 (0,0)) (by (with_reducible repeat (first|refine blk_drewN ?_ _|refine blk_drew ?_|refine blk_alloc ?_ _));exact BK196.out) hg (Kd.R_ne HO_9.out BK196.out (by decide)));have n2_:=Aside0.mk (blk_grown (g:=gb204) (o:=.cells #[.int .i64 ((rd_T27 l0_3 x36_2).f0),.slice (some ad205) ((rd_T27 l0_3 x36_2).f1).length c203_1] 27 (0,0)) (by (with_reducible repeat (first|refine blk_drewN ?_ _|refine blk_drew ?_|refine blk_alloc ?_ _));exact BK204.out) hg (Kd.R_ne HO_9.out BK204.out (by decide)));have n3_:=Aside0.mk ((by rw [hw];exact below_set (HB.out) GB11.out : Below w.heap.size w w86));clear HO_9;clear BK196;clear BK204;clear HB;have HO_9:=n0_;have BK196:=n1_;have BK204:=n2_;have HB:=n3_;clear n0_ n1_ n2_ n3_;clear hg hw hp_))
                            (try simp only [← hl9_3])
                            first|go_roundg k3|((simp only [← hji8,← hji26,← hji40,← hji75]);go_roundg k3)
                            case measure=>have:=HK1.out;have:=HK2.out;have:=HK3.out;omega
                            case rel=>exact ⟨(y216),(true),(ji40),(by first|rfl|(simp;done)|(simp [*];done)),(by first|rfl|(simp;done)|(simp only [← hji40] <;> (first|rfl|simp))|(simp [*];done)),(by first|exact H'|((simp only [hji8,hji26,hji40,hji75]);exact H')|(have h_:=H'.out;simp only [← hji8,← hji26,← hji40,← hji75] at h_ ⊢;exact ⟨h_⟩)),⟨by have:=HK1.out;have:=HK2.out;have:=HK3.out;omega⟩,⟨by (try simp only [hl9_1]);(try simp only [hl9_2]);(try simp only [hl9_3]);(with_reducible repeat (first|apply Kd.R_alloc|apply Kd.R_drewN|apply Kd.R_drew));exact HO_9.out⟩,⟨by (try simp only [hl9_1]);(try simp only [hl9_2]);(try simp only [hl9_3]);(with_reducible repeat (first|refine blk_drewN ?_ _|refine blk_drew ?_|refine blk_alloc ?_ _));exact BK196.out⟩,⟨by (try simp only [hl9_1]);(try simp only [hl9_2]);(try simp only [hl9_3]);(with_reducible repeat (first|refine blk_drewN ?_ _|refine blk_drew ?_|refine blk_alloc ?_ _));exact BK204.out⟩,⟨by repeat (first|(with_reducible first|exact HB.out|apply below_alloc|apply pw_below_drewN|apply below_drew1|refine below_set ?_ GE196.out|refine below_set ?_ GE204.out)|exact HB.out)⟩⟩
                           ·rw [if_neg c77] at H
                            exact absurd H (by simp)
                          ·rw [if_neg c76] at H
                           exact absurd H (by simp)
                         ·replace c74:=Bool.eq_false_iff.mpr c74
                          subst c74
                          have H1 : (if 0 ≤ (wrap64 ((rd ((rd_T27 l0_3 x36_2).f1) x49_3) - a0_0)) then (if (wrap64 ((rd ((rd_T27 l0_3 x36_2).f1) x49_3) - a0_0)) < (x9_3.length : Int) then (ahead_follows.l2 k3 l1 a2 t197 (x9_3.set ((wrap64 ((rd ((rd_T27 l0_3 x36_2).f1) x49_3) - a0_0)) : Int).toNat (Go.bits .or .u32 (rd x9_3 (wrap64 ((rd ((rd_T27 l0_3 x36_2).f1) x49_3) - a0_0))) t207)) ((Go.bits .andNot .u32 t207 (rd x9_3 (wrap64 ((rd ((rd_T27 l0_3 x36_2).f1) x49_3) - a0_0)))) != 0) l0_3 (l0_3.length : Int) x36_2 ((rd_T27 l0_3 x36_2).f1) (((rd_T27 l0_3 x36_2).f1).length : Int) ji40 a0_0 a0_1 a0_2 l0_3 ((rd_T27 l0_3 x36_2).f0) ((rd_T27 l0_3 x36_2).f1)) else (none)) else (none)) = some r:=by rw [if_neg (show ¬ (false = true) by decide)] at H;exact H
                          clear H
                          have H:=H1
                          clear H1
                          obtain ⟨ji87,hji87⟩ : ∃ j_ : Int,(wrap64 ((rd ((rd_T27 l0_3 x36_2).f1) x49_3) - a0_0)) = j_:=⟨_,rfl⟩
                          replace H : (if 0 ≤ (ji87) then (if (ji87) < (x9_3.length : Int) then (ahead_follows.l2 k3 l1 a2 t197 (x9_3.set ((ji87) : Int).toNat (Go.bits .or .u32 (rd x9_3 (ji87)) t207)) ((Go.bits .andNot .u32 t207 (rd x9_3 (ji87))) != 0) l0_3 (l0_3.length : Int) x36_2 ((rd_T27 l0_3 x36_2).f1) (((rd_T27 l0_3 x36_2).f1).length : Int) ji40 a0_0 a0_1 a0_2 l0_3 ((rd_T27 l0_3 x36_2).f0) ((rd_T27 l0_3 x36_2).f1)) else (none)) else (none)) = some r:=by first|(rw [hji87] at H;exact H)|(simp only [hji87] at H ⊢;exact H)
                          (try rw [hji87] at A43)
                          have hji87w : (IntKind.i64.wrap ((rd ((rd_T27 l0_3 x36_2).f1) x49_3) - a0_0)) = ji87:=(i64_w _).trans hji87
                          by_cases c88 : 0 ≤ (ji87)
                          ·rw [if_pos c88] at H
                           have c88b0 : decide (0 ≤ (ji87)) = true:=decide_eq_true c88
                           clear c88
                           by_cases c89 : (ji87) < (x9_3.length : Int)
                           ·rw [if_pos c89] at H
                            have c89b0 : decide ((ji87) < (x9_3.length : Int)) = true:=decide_eq_true c89
                            (try (have c89b0h:=c89b0;simp only [hl9_1,hl9_2,hl9_3] at c89b0h))
                            clear c89
                            obtain ⟨y219,hy219⟩ : ∃ y_ : List Int,y_ = (x9_3.set ((ji87) : Int).toNat (Go.bits .or .u32 (rd x9_3 (ji87)) t207)):=⟨_,rfl⟩
                            replace H : (ahead_follows.l2 k3 l1 a2 t197 y219 ((Go.bits .andNot .u32 t207 (rd x9_3 (ji87))) != 0) l0_3 (l0_3.length : Int) x36_2 ((rd_T27 l0_3 x36_2).f1) (((rd_T27 l0_3 x36_2).f1).length : Int) ji40 a0_0 a0_1 a0_2 l0_3 ((rd_T27 l0_3 x36_2).f0) ((rd_T27 l0_3 x36_2).f1)) = some r:=by first|(rw [hy219];with_reducible exact H)|(have H2_:=(Option.bind_some _ _).symm.trans H;rw [hy219];with_reducible exact H2_)|(have H2_:=(Option.bind_some _ _).symm.trans H;with_reducible exact H2_)|with_reducible exact H|(rw [hy219];exact H)|exact H
                            have Ny219:=Aside0.mk hy219
                            clear hy219
                            have H':=Aside0.mk H
                            clear H
                            have p205 : 0 ≤ (x49_3 : Int):=of_decide_eq_true (by first|(with_reducible assumption)|assumption)
                            have q205 : x49_3 < (((rd_T27 l0_3 x36_2).f1).length : Int):=of_decide_eq_true (by first|(with_reducible assumption)|assumption)
                            obtain ⟨ad205,e205,hx205_0⟩:=Kd.at_int HR203_1.out x49_3 p205 q205
                            cases e205
                            replace hx205_0:=(HB.out.cell (World.block_lt_of_cell? w _ hx205_0)).trans hx205_0
                            replace p205:=eq_true p205
                            replace q205:=eq_true q205
                            have hnb91:=NB196_204.out
                            have hnc91:=NB204_196.out
                            have hcz92_0 : wr.cell? ⟨gb196,0,none⟩ = some (.int .i64 a0_0):=(blk_cell BK196.out 0).trans rfl
                            have hcz92_1 : wr.cell? ⟨gb196,1,none⟩ = some (.int .i64 a0_1):=(blk_cell BK196.out 1).trans rfl
                            have hcz92_2 : wr.cell? ⟨gb196,2,none⟩ = some (.int .i64 a0_2):=(blk_cell BK196.out 2).trans rfl
                            have hcz92_3 : wr.cell? ⟨gb196,3,none⟩ = some (.slice (some ad203) l0_3.length c0_3):=(blk_cell BK196.out 3).trans rfl
                            have hfz92_0:=blk_frozen BK196.out 0
                            have hfz92_1:=blk_frozen BK196.out 1
                            have hfz92_2:=blk_frozen BK196.out 2
                            have hfz92_3:=blk_frozen BK196.out 3
                            try go_wp2
                            have n0_:=Aside0.mk (Kd.R_drew HO_9.out)
                            have n1_:=Aside0.mk (blk_drew BK196.out)
                            have n2_:=Aside0.mk (blk_drew BK204.out)
                            have n3_:=Aside0.mk (below_drew1 HB.out)
                            clear HO_9
                            clear BK196
                            clear BK204
                            clear HB
                            have HO_9:=n0_
                            have BK196:=n1_
                            have BK204:=n2_
                            have HB:=n3_
                            clear n0_ n1_ n2_ n3_
                            obtain ⟨i094,hi094,_,hsz94,_⟩:=info_parts info3
                            obtain ⟨A94,hcut94,hA94,hC94⟩:=print_drop_of (P:=Try.prog) (Value.int .i64) 0 25 3 .i64 Try.underlying25 hi094 hsz94 (some ad205) c203_1 ((rd_T27 l0_3 x36_2).f1) (ji40) (of_decide_eq_true (by first|(with_reducible assumption)|assumption)) (of_decide_eq_true (by first|(with_reducible assumption)|assumption)) HC203_1.out
                            have HR206:=Aside0.mk (Kd.C_of_reads (h1:=fun _=>rfl) (hA94 _ (Kd.reads_of_C HR203_1.out)))
                            have HC206:=Aside0.mk hC94
                            clear hA94 hC94 hi094 hsz94
                            refine start_ (n:=14) (S:=fun w'=>w'.cell? ⟨gb196,0,none⟩ = some (.int .i64 a0_0) ∧ w'.cell? ⟨gb196,1,none⟩ = some (.int .i64 a0_1) ∧ w'.cell? ⟨gb196,2,none⟩ = some (.int .i64 a0_2) ∧ w'.cell? ⟨gb196,3,none⟩ = some (.slice (some ad203) l0_3.length c0_3) ∧ w'.cell? ⟨gb204,0,none⟩ = some (.int .i64 ((rd_T27 l0_3 x36_2).f0)) ∧ w'.cell? ⟨gb204,1,none⟩ = some (.slice (some ad205) ((rd_T27 l0_3 x36_2).f1).length c203_1)) (ds:=[]) #[false,false,false,false,false,false,false,false,false,false,false,false,false,false] (by kernel_rfl) rfl rfl ⟨(blk_cell BK196.out 0).trans rfl,(blk_cell BK196.out 1).trans rfl,(blk_cell BK196.out 2).trans rfl,(blk_cell BK196.out 3).trans rfl,(blk_cell BK204.out 0).trans rfl,(blk_cell BK204.out 1).trans rfl⟩ (fun hHeld=>?_);refine with_tabW ahead_follows.tab15 ahead_follows.bits15 (fun HT_ HW_=>?_)
                            generalize wr.drew = w93 at HO_9 BK196 BK204 HB HR206 hHeld ⊢
                            refine pure_ (i:=1) (N:=some 60) (v:=?_) (a':=?_) #[false,true,false,false,false,false,false,false,false,false,false,false,false,false] rfl rfl (any_of HT_.out (by kernel_rfl)) (fun _ _ _ h=>h) (Or.inl ⟨by rfl,?_⟩) ?_ ?_
                            rotate_left
                            ·intro w'
                             go_simp
                             with_reducible rfl
                            rotate_left
                            ·simp only [Act.put,List.setIfInBounds_toArray,List.set_cons_zero,List.set_cons_succ,i64_w,i32_w]
                             rfl
                            refine pure_ (i:=2) (N:=some 61) (v:=?_) (a':=?_) #[false,true,true,false,false,false,false,false,false,false,false,false,false,false] rfl rfl (any_of HT_.out (by kernel_rfl)) (fun _ _ _ h=>h) (Or.inl ⟨by rfl,?_⟩) ?_ ?_
                            rotate_left
                            ·intro w'
                             go_simp
                             with_reducible rfl
                            rotate_left
                            ·simp only [Act.put,List.setIfInBounds_toArray,List.set_cons_zero,List.set_cons_succ,i64_w,i32_w]
                             rfl
                            refine pure_ (i:=3) (N:=some 62) (v:=?_) (a':=?_) #[false,true,true,true,false,false,false,false,false,false,false,false,false,false] rfl rfl (any_of HT_.out (by kernel_rfl)) (fun _ _ _ h=>h) (Or.inl ⟨by rfl,?_⟩) ?_ ?_
                            rotate_left
                            ·intro w'
                             go_simp
                             with_reducible rfl
                            rotate_left
                            ·simp only [Act.put,List.setIfInBounds_toArray,List.set_cons_zero,List.set_cons_succ,i64_w,i32_w]
                             rfl
                            refine pure_ (i:=5) (N:=some 64) (v:=?_) (a':=?_) #[false,true,true,true,false,true,false,false,false,false,false,false,false,false] rfl rfl (any_of HT_.out (by kernel_rfl)) (fun _ _ _ h=>h) (Or.inl ⟨by rfl,?_⟩) ?_ ?_
                            rotate_left
                            ·intro w'
                             go_simp
                             with_reducible rfl
                            rotate_left
                            ·simp only [Act.put,List.setIfInBounds_toArray,List.set_cons_zero,List.set_cons_succ,i64_w,i32_w]
                             rfl
                            refine pure_ (i:=6) (N:=some 65) (v:=?_) (a':=?_) #[false,true,true,true,false,true,true,false,false,false,false,false,false,false] rfl rfl (any_of HT_.out (by kernel_rfl)) (fun _ _ _ h=>h) (Or.inl ⟨by rfl,?_⟩) ?_ ?_
                            rotate_left
                            ·intro w'
                             go_simp
                             with_reducible rfl
                            rotate_left
                            ·simp only [Act.put,List.setIfInBounds_toArray,List.set_cons_zero,List.set_cons_succ,i64_w,i32_w]
                             rfl
                            refine take_ (i:=0) (N:=some 59) (v:=?_) (a':=?_) #[true,true,true,true,false,true,true,false,false,false,false,false,false,false] rfl rfl (take_ofW HT_.out HW_.out (by kernel_rfl)) (fun _ _ _ h=>h) (Or.inl ⟨by rfl,?_⟩) hHeld ?_ ?_
                            rotate_left
                            ·rintro w' ⟨s0,s1,s2,s3,s4,s5⟩
                             go_simp
                             with_reducible rfl
                            rotate_left
                            ·simp only [Act.put,List.setIfInBounds_toArray,List.set_cons_zero,List.set_cons_succ,i64_w,i32_w]
                             rfl
                            refine take_ (i:=4) (N:=some 63) (v:=?_) (a':=?_) #[true,true,true,true,true,true,true,false,false,false,false,false,false,false] rfl rfl (take_ofW HT_.out HW_.out (by kernel_rfl)) (fun _ _ _ h=>h) (Or.inl ⟨by rfl,?_⟩) hHeld ?_ ?_
                            rotate_left
                            ·rintro w' ⟨s0,s1,s2,s3,s4,s5⟩
                             go_simp
                             with_reducible rfl
                            rotate_left
                            ·simp only [Act.put,List.setIfInBounds_toArray,List.set_cons_zero,List.set_cons_succ,i64_w,i32_w]
                             rfl
                            refine pure_ (i:=7) (N:=some 66) (v:=?_) (a':=?_) #[true,true,true,true,true,true,true,true,false,false,false,false,false,false] rfl rfl (any_of HT_.out (by kernel_rfl)) (fun _ _ _ h=>h) (Or.inl ⟨by rfl,?_⟩) ?_ ?_
                            rotate_left
                            ·intro w'
                             go_simp
                             with_reducible rfl
                            rotate_left
                            ·simp only [Act.put,List.setIfInBounds_toArray,List.set_cons_zero,List.set_cons_succ,i64_w,i32_w]
                             rfl
                            refine one_ (i:=8) (N:=some 67) #[true,true,true,true,true,true,true,true,true,false,false,false,false,false] rfl rfl (one_of HT_.out (by kernel_rfl)) (by decide) (fun K hK=>?_)
                            refine goes_ Try.func83 (by kernel_rfl) rfl #[.agg #[.int .i64 a0_0,.int .i64 a0_1,.int .i64 a0_2,.slice (some ad203) l0_3.length c0_3],.slice A1 l1.length c1,.int .u32 a2,.slice A94 (((rd_T27 l0_3 x36_2).f1).drop ((ji40) : Int).toNat).length (c203_1 - (ji40).toNat)] (by rfl) rfl rfl (by (try simp only [List.map_toArray,List.map_cons,List.map_nil]);first|done|(rw [show (((rd_T27 l0_3 x36_2).f1).drop ((ji40) : Int).toNat).length = (((rd_T27 l0_3 x36_2).f1).length - (ji40).toNat) from List.length_drop] <;> rfl)|(simp only [hji40];rfl)|rfl|(simp only [List.length_drop,List.length_take];rfl)) ?_
                            with_reducible refine (ahead_begin.calls k3 a0_0 a0_1 a0_2 _ _ l0_3 _ _ l1 a2 _ _ (((rd_T27 l0_3 x36_2).f1).drop ((ji40) : Int).toNat) t207 false _ ?side1 ?side2 ?side3 ?side4 ?side5 ?side6 A43.out).mono ?_
                            (case side1=>repeat (first|exact (Kd.C_below HR0_3.out HB.out)|(with_reducible refine Kd.C_alloc ?_ _)|(with_reducible refine Kd.C_drewN ?_ _)|(with_reducible refine Kd.C_drew ?_)))
                            (case side2=>exact HC0_3.out)
                            (case side3=>repeat (first|exact (Kd.C_below HR1.out HB.out)|(with_reducible refine Kd.C_alloc ?_ _)|(with_reducible refine Kd.C_drewN ?_ _)|(with_reducible refine Kd.C_drew ?_)))
                            (case side4=>exact HC1.out)
                            (case side5=>repeat (first|exact (Kd.C_below HR206.out HB.out)|(with_reducible refine Kd.C_alloc ?_ _)|(with_reducible refine Kd.C_drewN ?_ _)|(with_reducible refine Kd.C_drew ?_)))
                            (case side6=>exact HC206.out)
                            rintro e w95 ⟨rfl,hb⟩
                            refine ⟨_,rfl,?_⟩
                            have n0_:=Aside0.mk (Kd.R_below (by (with_reducible repeat (first|apply Kd.R_alloc|apply Kd.R_drewN|apply Kd.R_drew));exact HO_9.out) hb)
                            have n1_:=Aside0.mk (blk_below (g:=gb196) (o:=.cells #[.int .i64 a0_0,.int .i64 a0_1,.int .i64 a0_2,.slice (some ad203) l0_3.length c0_3] 24 (0,0)) (by (with_reducible repeat (first|refine blk_drewN ?_ _|refine blk_drew ?_|refine blk_alloc ?_ _));exact BK196.out) hb)
                            have n2_:=Aside0.mk (blk_below (g:=gb204) (o:=.cells #[.int .i64 ((rd_T27 l0_3 x36_2).f0),.slice (some ad205) ((rd_T27 l0_3 x36_2).f1).length c203_1] 27 (0,0)) (by (with_reducible repeat (first|refine blk_drewN ?_ _|refine blk_drew ?_|refine blk_alloc ?_ _));exact BK204.out) hb)
                            have n3_:=Aside0.mk (below_step (by repeat (first|(with_reducible first|exact HB.out|apply below_alloc|apply pw_below_drewN|apply below_drew1|refine below_set ?_ GE196.out|refine below_set ?_ GE204.out)|exact HB.out)) hb)
                            clear HO_9
                            clear BK196
                            clear BK204
                            clear HB
                            have HO_9:=n0_
                            have BK196:=n1_
                            have BK204:=n2_
                            have HB:=n3_
                            clear n0_ n1_ n2_ n3_
                            (try clear hb)
                            (try clear hb2)
                            (try clear hk)
                            (try clear hi)
                            refine hK.out _ _ ⟨(blk_cell BK196.out 0).trans rfl,(blk_cell BK196.out 1).trans rfl,(blk_cell BK196.out 2).trans rfl,(blk_cell BK196.out 3).trans rfl,(blk_cell BK204.out 0).trans rfl,(blk_cell BK204.out 1).trans rfl⟩ (fun hHeld=>?_)
                            clear hK K
                            refine norm_ (a':=?_) ?_ ?_
                            rotate_left
                            ·show Act.put _ (some 67) _ = _
                             simp only [Act.put,List.setIfInBounds_toArray,List.set_cons_zero,List.set_cons_succ,i64_w,i32_w]
                             rfl
                            refine pure_ (i:=9) (N:=some 58) (v:=?_) (a':=?_) #[true,true,true,true,true,true,true,true,true,true,false,false,false,false] rfl rfl (any_of HT_.out (by kernel_rfl)) (fun _ _ _ h=>h) (Or.inl ⟨by rfl,?_⟩) ?_ ?_
                            rotate_left
                            ·intro w'
                             go_simp
                             with_reducible rfl
                            rotate_left
                            ·simp only [Act.put,List.setIfInBounds_toArray,List.set_cons_zero,List.set_cons_succ,i64_w,i32_w]
                             rfl
                            refine pure_ (i:=10) (N:=some 68) (v:=?_) (a':=?_) #[true,true,true,true,true,true,true,true,true,true,true,false,false,false] rfl rfl (any_of HT_.out (by kernel_rfl)) (fun _ _ _ h=>h) (Or.inl ⟨by rfl,?_⟩) ?_ ?_
                            rotate_left
                            ·intro w'
                             go_simp
                             with_reducible rfl
                            rotate_left
                            ·simp only [Act.put,List.setIfInBounds_toArray,List.set_cons_zero,List.set_cons_succ,i64_w,i32_w]
                             rfl
                            refine pure_ (i:=11) (N:=some 69) (v:=?_) (a':=?_) #[true,true,true,true,true,true,true,true,true,true,true,true,false,false] rfl rfl (any_of HT_.out (by kernel_rfl)) (fun _ _ _ h=>h) (Or.inl ⟨by rfl,?_⟩) ?_ ?_
                            rotate_left
                            ·intro w'
                             go_simp
                             with_reducible rfl
                            rotate_left
                            ·simp only [Act.put,List.setIfInBounds_toArray,List.set_cons_zero,List.set_cons_succ,i64_w,i32_w]
                             rfl
                            refine pure_ (i:=12) (N:=some 15) (v:=?_) (a':=?_) #[true,true,true,true,true,true,true,true,true,true,true,true,true,false] rfl rfl (any_of HT_.out (by kernel_rfl)) (fun _ _ _ h=>h) (Or.inl ⟨by rfl,?_⟩) ?_ ?_
                            rotate_left
                            ·intro w'
                             go_simp
                             with_reducible rfl
                            rotate_left
                            ·simp only [Act.put,List.setIfInBounds_toArray,List.set_cons_zero,List.set_cons_succ,i64_w,i32_w]
                             rfl
                            refine pure_ (i:=13) (N:=some 16) (v:=?_) (a':=?_) #[true,true,true,true,true,true,true,true,true,true,true,true,true,true] rfl rfl (any_of HT_.out (by kernel_rfl)) (fun _ _ _ h=>h) (Or.inl ⟨by rfl,?_⟩) ?_ ?_
                            rotate_left
                            ·intro w'
                             go_simp
                             with_reducible rfl
                            rotate_left
                            ·simp only [Act.put,List.setIfInBounds_toArray,List.set_cons_zero,List.set_cons_succ,i64_w,i32_w]
                             rfl
                            refine done_ (done_of HT_.out (by kernel_rfl)) ?_
                            have hcz96_0 : w95.cell? ⟨gb196,0,none⟩ = some (.int .i64 a0_0):=(blk_cell BK196.out 0).trans rfl
                            have hcz96_1 : w95.cell? ⟨gb196,1,none⟩ = some (.int .i64 a0_1):=(blk_cell BK196.out 1).trans rfl
                            have hcz96_2 : w95.cell? ⟨gb196,2,none⟩ = some (.int .i64 a0_2):=(blk_cell BK196.out 2).trans rfl
                            have hcz96_3 : w95.cell? ⟨gb196,3,none⟩ = some (.slice (some ad203) l0_3.length c0_3):=(blk_cell BK196.out 3).trans rfl
                            have hfz96_0:=blk_frozen BK196.out 0
                            have hfz96_1:=blk_frozen BK196.out 1
                            have hfz96_2:=blk_frozen BK196.out 2
                            have hfz96_3:=blk_frozen BK196.out 3
                            have p217 : 0 ≤ ((ji87) : Int):=of_decide_eq_true (by first|(with_reducible assumption)|assumption)
                            have q217 : (ji87) < (x9_3.length : Int):=of_decide_eq_true (by first|(with_reducible assumption)|assumption)
                            obtain ⟨ad217,e217,hx217_0⟩:=Kd.at_int (Kd.R_reads' HO_9.out).2.2 (ji87) p217 q217
                            obtain rfl : (⟨go11,0,none⟩ : Addr) = ad217:=(by injection e217)
                            (first|simp only [add_plain] at hx217_0|simp only [add_at] at hx217_0|simp only [Addr.add,Nat.zero_add] at hx217_0|skip)
                            replace p217:=eq_true p217
                            replace q217:=eq_true q217
                            have p218 : 0 ≤ ((ji87) : Int):=of_decide_eq_true (by first|(with_reducible assumption)|assumption)
                            have q218 : (ji87) < (x9_3.length : Int):=of_decide_eq_true (by first|(with_reducible assumption)|assumption)
                            obtain ⟨ad218,e218,hx218_0⟩:=Kd.at_int (Kd.R_reads' HO_9.out).2.2 (ji87) p218 q218
                            obtain rfl : (⟨go11,0,none⟩ : Addr) = ad218:=(by injection e218)
                            (first|simp only [add_plain] at hx218_0|simp only [add_at] at hx218_0|simp only [Addr.add,Nat.zero_add] at hx218_0|skip)
                            replace p218:=eq_true p218
                            replace q218:=eq_true q218
                            have p90 : 0 ≤ ((ji87) : Int):=of_decide_eq_true (by first|(with_reducible assumption)|assumption)
                            have q90 : ((ji87) : Int) < ((x9_3.length : Int) : Int):=of_decide_eq_true (by first|(with_reducible assumption)|assumption)
                            obtain ⟨hx90_0,hf90_0⟩:=Kd.R_celln 0 HO_9.out ((ji87) : Int) p90 q90
                            replace p90:=eq_true p90
                            replace q90:=eq_true q90
                            obtain ⟨hy97_,hz97_⟩:=Kd.R_celln 0 HO_9.out ((ji87) : Int) (of_decide_eq_true (by first|(with_reducible assumption)|assumption)) (of_decide_eq_true (by first|(with_reducible assumption)|assumption))
                            have HP97:=Kd.R_putg HO_9.out ((ji87) : Int) (Go.bits .or .u32 (rd x9_3 (ji87)) t207)
                            try go_wp2_with (first|((with_reducible refine gate_store (t:=28) (p:=100) rfl ?_);refine store_event (t:=28) (p:=100) (v:=?vo_w98) (w1:=(w95.setCell ⟨go11,((ji87) : Int).toNat,none⟩ (.int .u32 (Go.bits .or .u32 (rd x9_3 (ji87)) t207)))) ?hg ?ho ?hn ?hr ?_;(case ho=>rfl);(case hg=>rfl);(case hn=>rfl);(case hr=>first|(go_simp;done)|(go_simp;rfl));intro w98 hw;have hg : w95.grownBy w98 (some go11):=(by rw [hw];exact HP97.2);have hp_ : Kd.R (Kd.int .u32) 28 w98 w.heap.size (fun _=>True) (.slice (some ⟨go11,0,none⟩) x9_3.length co11) y219:=(by rw [hw,Ny219.out];exact HP97.1);clear HP97;have n0_:=Aside0.mk (hp_);have n1_:=Aside0.mk (blk_grown (g:=gb196) (o:=.cells #[.int .i64 a0_0,.int .i64 a0_1,.int .i64 a0_2,.slice (some ad203) l0_3.length c0_3] 24 (0,0)) (by (with_reducible repeat (first|refine blk_drewN ?_ _|refine blk_drew ?_|refine blk_alloc ?_ _));exact BK196.out) hg (Kd.R_ne HO_9.out BK196.out (by decide)));have n2_:=Aside0.mk (blk_grown (g:=gb204) (o:=.cells #[.int .i64 ((rd_T27 l0_3 x36_2).f0),.slice (some ad205) ((rd_T27 l0_3 x36_2).f1).length c203_1] 27 (0,0)) (by (with_reducible repeat (first|refine blk_drewN ?_ _|refine blk_drew ?_|refine blk_alloc ?_ _));exact BK204.out) hg (Kd.R_ne HO_9.out BK204.out (by decide)));have n3_:=Aside0.mk ((by rw [hw];exact below_set (HB.out) GB11.out : Below w.heap.size w w98));clear HO_9;clear BK196;clear BK204;clear HB;have HO_9:=n0_;have BK196:=n1_;have BK204:=n2_;have HB:=n3_;clear n0_ n1_ n2_ n3_;clear hg hw hp_))
                            (try simp only [← hl9_3])
                            first|go_roundg k3|((simp only [← hji8,← hji26,← hji40,← hji87]);go_roundg k3)
                            case measure=>have:=HK1.out;have:=HK2.out;have:=HK3.out;omega
                            case rel=>exact ⟨(y219),(((Go.bits .andNot .u32 t207 (rd x9_3 (ji87))) != 0)),(ji40),(by first|rfl|(simp;done)|(simp only [← hji87] <;> (first|rfl|simp))|(simp [*];done)),(by first|rfl|(simp;done)|(simp only [← hji40] <;> (first|rfl|simp))|(simp [*];done)),(by first|exact H'|((simp only [hji8,hji26,hji40,hji87]);exact H')|(have h_:=H'.out;simp only [← hji8,← hji26,← hji40,← hji87] at h_ ⊢;exact ⟨h_⟩)),⟨by have:=HK1.out;have:=HK2.out;have:=HK3.out;omega⟩,⟨by (try simp only [hl9_1]);(try simp only [hl9_2]);(try simp only [hl9_3]);(with_reducible repeat (first|apply Kd.R_alloc|apply Kd.R_drewN|apply Kd.R_drew));exact HO_9.out⟩,⟨by (try simp only [hl9_1]);(try simp only [hl9_2]);(try simp only [hl9_3]);(with_reducible repeat (first|refine blk_drewN ?_ _|refine blk_drew ?_|refine blk_alloc ?_ _));exact BK196.out⟩,⟨by (try simp only [hl9_1]);(try simp only [hl9_2]);(try simp only [hl9_3]);(with_reducible repeat (first|refine blk_drewN ?_ _|refine blk_drew ?_|refine blk_alloc ?_ _));exact BK204.out⟩,⟨by repeat (first|(with_reducible first|exact HB.out|apply below_alloc|apply pw_below_drewN|apply below_drew1|refine below_set ?_ GE196.out|refine below_set ?_ GE204.out)|exact HB.out)⟩⟩
                           ·rw [if_neg c89] at H
                            exact absurd H (by simp)
                          ·rw [if_neg c88] at H
                           exact absurd H (by simp)
                       ·rw [if_neg c42] at H
                        exact absurd H (by simp)
                      ·rw [if_neg c41] at H
                       exact absurd H (by simp)
                    ·rw [if_neg c36] at H
                     exact absurd H (by simp)
                   ·rw [if_neg c35] at H
                    exact absurd H (by simp)
                  ·rw [if_neg c34] at H
                   have c34b0 : decide (x49_3 < (((rd_T27 l0_3 x36_2).f1).length : Int)) = false:=decide_eq_false c34
                   (try (have c34b0h:=c34b0;simp only [hl9_1,hl9_2,hl9_3] at c34b0h))
                   clear c34
                   have H':=Aside0.mk H
                   clear H
                   go_wp2
                   (try simp only [← hl9_2,← hl9_3])
                   first|go_roundg k3|((simp only [← hji8,← hji26]);go_roundg k3)
                   case measure=>have:=HK1.out;have:=HK2.out;have:=HK3.out;omega
                   case rel=>exact ⟨(x9_3),(x10_3),(wrap64 (x36_2 + 1)),(by first|rfl|(simp;done)|(simp [*];done)),(by first|rfl|(simp;done)|(simp [*];done)),(by first|exact H'|((simp only [hji8,hji26]);exact H')|(have h_:=H'.out;simp only [← hji8,← hji26] at h_ ⊢;exact ⟨h_⟩)),⟨by have:=HK1.out;have:=HK2.out;have:=HK3.out;omega⟩,⟨by (try simp only [hl9_1]);(try simp only [hl9_2]);(try simp only [hl9_3]);(with_reducible repeat (first|apply Kd.R_alloc|apply Kd.R_drewN|apply Kd.R_drew));exact HO_9.out⟩,⟨by (try simp only [hl9_1]);(try simp only [hl9_2]);(try simp only [hl9_3]);(with_reducible repeat (first|refine blk_drewN ?_ _|refine blk_drew ?_|refine blk_alloc ?_ _));exact BK196.out⟩,⟨by repeat (first|(with_reducible first|exact HB.out|apply below_alloc|apply pw_below_drewN|apply below_drew1|refine below_set ?_ GE196.out|refine below_set ?_ GE204.out)|exact HB.out)⟩⟩
              ·rw [if_neg c25] at H
               exact absurd H (by simp)
             ·rw [if_neg c24] at H
              exact absurd H (by simp)
            ·rw [if_neg c23] at H
             exact absurd H (by simp)
           ·rw [if_neg c22] at H
            have c22b0 : decide (x36_2 < (l0_3.length : Int)) = false:=decide_eq_false c22
            (try (have c22b0h:=c22b0;simp only [hl9_1,hl9_2] at c22b0h))
            clear c22
            have H':=Aside0.mk H
            clear H
            go_wp2
            (try simp only [← hl9_1,← hl9_2])
            first|go_roundg k2|((simp only [← hji8]);go_roundg k2)
            case measure=>have:=HK1.out;have:=HK2.out;omega
            case rel=>exact ⟨(x9_2),(x10_2),(by first|rfl|(simp;done)|(simp [*];done)),(by first|exact H'|((simp only [hji8]);exact H')|(have h_:=H'.out;simp only [← hji8] at h_ ⊢;exact ⟨h_⟩)),⟨by have:=HK1.out;have:=HK2.out;omega⟩,⟨by (try simp only [hl9_1]);(try simp only [hl9_2]);(with_reducible repeat (first|apply Kd.R_alloc|apply Kd.R_drewN|apply Kd.R_drew));exact HO_9.out⟩,⟨by (try simp only [hl9_1]);(try simp only [hl9_2]);(with_reducible repeat (first|refine blk_drewN ?_ _|refine blk_drew ?_|refine blk_alloc ?_ _));exact BK196.out⟩,⟨by repeat (first|(with_reducible first|exact HB.out|apply below_alloc|apply pw_below_drewN|apply below_drew1|refine below_set ?_ GE196.out)|exact HB.out)⟩⟩
        ·replace c20:=Bool.eq_false_iff.mpr c20
         subst c20
         have H1 : (some x9_1) = some r:=by rw [if_neg (show ¬ (false = true) by decide)] at H;exact H
         clear H
         have H:=H1
         clear H1
         obtain rfl:=Option.some.inj H
         go_wp2
         go_ret
         exact ⟨_,by first|rfl|(simp [errW_none,errW_some] <;> rfl)|(simp only [← hji8];first|rfl|(simp [errW_none,errW_some] <;> rfl))|(simp [*,errW_none,errW_some] <;> rfl),by (with_reducible repeat (first|apply Kd.R_alloc|apply Kd.R_drewN|apply Kd.R_drew));exact HO_9.out,by repeat (first|(with_reducible first|exact HB.out|apply below_alloc|apply pw_below_drewN|apply below_drew1|refine below_set ?_ GE196.out)|exact HB.out)⟩
     ·rw [if_neg c10] at H
      exact absurd H (by simp)
    ·rw [if_neg c9] at H
     exact absurd H (by simp)
   ·rw [if_neg c7] at H
    exact absurd H (by simp)
  ·rw [if_neg c6] at H
   exact absurd H (by simp)
 ·rw [if_neg c5] at H
  exact absurd H (by simp)
end Go.Proofs.Ytnkackiocigdoaa.GE
