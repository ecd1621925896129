-- Written by ext.py, a program of this session.
import Derived.Test.YtnkackiocigdoaaGA0
import Derived.Test.YtnkackiocigdoaaGA4
import Derived.Test.YtnkackiocigdoaaGA5
import Derived.Test.YtnkackiocigdoaaGA7
import Derived.Test.YtnkackiocigdoaaGA8
namespace Go.Proofs.Ytnkackiocigdoaa.GA
open Go.RowKit Go.Proofs.YtnkackiocigdoaaW.PrintWords Go.Proofs.YtnkackiocigdoaaW.PrintLast Go.Proofs.YtnkackiocigdoaaW.PrintMore
attribute [local go_sem] max2_int min2_int max_two min_two max_three min_three max_four min_four cellIs_set   -- for this text's walks alone
set_option linter.unusedVariables false
set_option linter.unusedSimpArgs false
/-! ### coppicerkeep_GrammarSets: function 3 -/
mutual
def coppicerkeep_GrammarSets.j1 : Nat → Int → Int → Int → Bool → Int → Int → Int → List (S27) → Int → List Int → Option (Bool)
 | 0,_,_,_,_,_,_,_,_,_,_=>none
 | k + 1,x5,x7,x9,x65,x134000,x134001,x134002,x134003,x135000,x135001=>if x65 = true then (some false) else ((some (([] : List (S27)) : List (S27))).bind fun y144=>(if y144.length + x134003.length < 4398046511104 then ((some (y144 ++ x134003 : List (S27))).bind fun y147=>((some (([(⟨x135000,x135001⟩ : S27)] : List (S27)) : List (S27))).bind fun y150=>(if y147.length + y150.length < 4398046511104 then ((some (y147 ++ y150 : List (S27))).bind fun y153=>((grammar_Makes.f k x134000 x134001 x134002 y153).bind fun bt156=>((grammar_Void.f k x134000 x134001 x134002 y153).bind fun bt158=>((grammar_Comes.f k x134000 x134001 x134002 y153).bind fun bt160=>((coppicerref_GrammarCheck.f k x134000 x134001 x134002 y153).bind fun t162=>(if t162 = 0 then (if bt156.2 = 0 then (if bt158.2 = 0 then (if bt160.2 = 0 then (if (Go.bits .andNot .u32 x5 bt156.1) = 0 then (if (Go.bits .andNot .u32 x7 bt158.1) = 0 then (coppicerkeep_GrammarSets.j3 k ((Go.bits .andNot .u32 x9 bt160.1) == 0)) else (coppicerkeep_GrammarSets.j3 k false)) else (coppicerkeep_GrammarSets.j3 k false)) else (coppicerkeep_GrammarSets.j3 k false)) else (coppicerkeep_GrammarSets.j3 k false)) else (coppicerkeep_GrammarSets.j3 k false)) else (if bt156.2 = 0 then (coppicerkeep_GrammarSets.j2 k false) else (if bt158.2 = 0 then (coppicerkeep_GrammarSets.j2 k false) else (coppicerkeep_GrammarSets.j2 k (bt160.2 != 0)))))))))) else (none)))) else (none)))
def coppicerkeep_GrammarSets.j3 : Nat → Bool → Option (Bool)
 | 0,_=>none
 | k + 1,x4=>some x4
def coppicerkeep_GrammarSets.j2 : Nat → Bool → Option (Bool)
 | 0,_=>none
 | k + 1,x4=>some x4
def coppicerkeep_GrammarSets.j0 : Nat → Bool → Option (Bool)
 | 0,_=>none
 | k + 1,x4=>some x4
end
def coppicerkeep_GrammarSets.f (k : Nat) (a0_0 : Int) (a0_1 : Int) (a0_2 : Int) (l0_3 : List (S27)) (a1_0 : Int) (l1_1 : List Int) : Option (Bool):=(grammar_Makes.f k a0_0 a0_1 a0_2 l0_3).bind fun bt135=>((grammar_Void.f k a0_0 a0_1 a0_2 l0_3).bind fun bt137=>((grammar_Comes.f k a0_0 a0_1 a0_2 l0_3).bind fun bt139=>((coppicerref_GrammarCheck.f k a0_0 a0_1 a0_2 l0_3).bind fun t141=>(if t141 = 0 then (if bt135.2 = 0 then (if bt137.2 = 0 then (if bt139.2 = 0 then (if (Go.bits .andNot .u32 bt137.1 bt135.1) = 0 then ((coppicerref_Bit.f bt139.1 a0_2).bind fun t142=>(coppicerkeep_GrammarSets.j1 k bt135.1 bt137.1 bt139.1 (!t142) a0_0 a0_1 a0_2 l0_3 a1_0 l1_1)) else (coppicerkeep_GrammarSets.j1 k bt135.1 bt137.1 bt139.1 true a0_0 a0_1 a0_2 l0_3 a1_0 l1_1)) else (coppicerkeep_GrammarSets.j1 k bt135.1 bt137.1 bt139.1 true a0_0 a0_1 a0_2 l0_3 a1_0 l1_1)) else (coppicerkeep_GrammarSets.j1 k bt135.1 bt137.1 bt139.1 true a0_0 a0_1 a0_2 l0_3 a1_0 l1_1)) else (coppicerkeep_GrammarSets.j1 k bt135.1 bt137.1 bt139.1 true a0_0 a0_1 a0_2 l0_3 a1_0 l1_1)) else (if bt135.2 = 0 then (coppicerkeep_GrammarSets.j0 k false) else (if bt137.2 = 0 then (coppicerkeep_GrammarSets.j0 k false) else (coppicerkeep_GrammarSets.j0 k (bt139.2 != 0))))))))
theorem coppicerkeep_GrammarSets.mono_l : ∀ k,(∀ y0 y1 y2 y3 y4 y5 y6 y7 y8 y9,LeO (coppicerkeep_GrammarSets.j1 k y0 y1 y2 y3 y4 y5 y6 y7 y8 y9) (coppicerkeep_GrammarSets.j1 (k + 1) y0 y1 y2 y3 y4 y5 y6 y7 y8 y9)) ∧ (∀ y0,LeO (coppicerkeep_GrammarSets.j3 k y0) (coppicerkeep_GrammarSets.j3 (k + 1) y0)) ∧ (∀ y0,LeO (coppicerkeep_GrammarSets.j2 k y0) (coppicerkeep_GrammarSets.j2 (k + 1) y0)) ∧ (∀ y0,LeO (coppicerkeep_GrammarSets.j0 k y0) (coppicerkeep_GrammarSets.j0 (k + 1) y0))
 | 0=>⟨fun _ _ _ _ _ _ _ _ _ _ r h=>by simp [coppicerkeep_GrammarSets.j1] at h,fun _ r h=>by simp [coppicerkeep_GrammarSets.j3] at h,fun _ r h=>by simp [coppicerkeep_GrammarSets.j2] at h,fun _ r h=>by simp [coppicerkeep_GrammarSets.j0] at h⟩
 | k + 1=>by
  obtain ⟨ih0,ih1,ih2,ih3⟩:=coppicerkeep_GrammarSets.mono_l k
  refine ⟨?_,?_,?_,?_⟩
  ·intro y0 y1 y2 y3 y4 y5 y6 y7 y8 y9
   unfold coppicerkeep_GrammarSets.j1
   repeat' first
   | (with_reducible exact ih0 _ _ _ _ _ _ _ _ _ _)
   | (with_reducible exact ih1 _)
   | (with_reducible exact ih2 _)
   | (with_reducible exact ih3 _)
   | (with_reducible exact coppicerref_GrammarCheck.mono _ _ _ _ _)
   | (with_reducible exact grammar_Comes.mono _ _ _ _ _)
   | (with_reducible exact grammar_Makes.mono _ _ _ _ _)
   | (with_reducible exact grammar_Void.mono _ _ _ _ _)
   | (with_reducible exact LeO.refl _)
   | (with_reducible exact LeO.none _)
   | (with_reducible refine LeO.ite ?_ ?_)
   | (with_reducible refine LeO.bind ?_ (fun _=>?_))
   | exact ih0 _ _ _ _ _ _ _ _ _ _
   | exact ih1 _
   | exact ih2 _
   | exact ih3 _
   | exact coppicerref_GrammarCheck.mono _ _ _ _ _
   | exact grammar_Comes.mono _ _ _ _ _
   | exact grammar_Makes.mono _ _ _ _ _
   | exact grammar_Void.mono _ _ _ _ _
   | exact LeO.none _
   | refine LeO.ite ?_ ?_
   | refine LeO.bind ?_ (fun _=>?_)
  ·intro y0
   unfold coppicerkeep_GrammarSets.j3
   repeat' first
   | (with_reducible exact ih0 _ _ _ _ _ _ _ _ _ _)
   | (with_reducible exact ih1 _)
   | (with_reducible exact ih2 _)
   | (with_reducible exact ih3 _)
   | (with_reducible exact coppicerref_GrammarCheck.mono _ _ _ _ _)
   | (with_reducible exact grammar_Comes.mono _ _ _ _ _)
   | (with_reducible exact grammar_Makes.mono _ _ _ _ _)
   | (with_reducible exact grammar_Void.mono _ _ _ _ _)
   | (with_reducible exact LeO.refl _)
   | (with_reducible exact LeO.none _)
   | (with_reducible refine LeO.ite ?_ ?_)
   | (with_reducible refine LeO.bind ?_ (fun _=>?_))
   | exact ih0 _ _ _ _ _ _ _ _ _ _
   | exact ih1 _
   | exact ih2 _
   | exact ih3 _
   | exact coppicerref_GrammarCheck.mono _ _ _ _ _
   | exact grammar_Comes.mono _ _ _ _ _
   | exact grammar_Makes.mono _ _ _ _ _
   | exact grammar_Void.mono _ _ _ _ _
   | exact LeO.none _
   | refine LeO.ite ?_ ?_
   | refine LeO.bind ?_ (fun _=>?_)
  ·intro y0
   unfold coppicerkeep_GrammarSets.j2
   repeat' first
   | (with_reducible exact ih0 _ _ _ _ _ _ _ _ _ _)
   | (with_reducible exact ih1 _)
   | (with_reducible exact ih2 _)
   | (with_reducible exact ih3 _)
   | (with_reducible exact coppicerref_GrammarCheck.mono _ _ _ _ _)
   | (with_reducible exact grammar_Comes.mono _ _ _ _ _)
   | (with_reducible exact grammar_Makes.mono _ _ _ _ _)
   | (with_reducible exact grammar_Void.mono _ _ _ _ _)
   | (with_reducible exact LeO.refl _)
   | (with_reducible exact LeO.none _)
   | (with_reducible refine LeO.ite ?_ ?_)
   | (with_reducible refine LeO.bind ?_ (fun _=>?_))
   | exact ih0 _ _ _ _ _ _ _ _ _ _
   | exact ih1 _
   | exact ih2 _
   | exact ih3 _
   | exact coppicerref_GrammarCheck.mono _ _ _ _ _
   | exact grammar_Comes.mono _ _ _ _ _
   | exact grammar_Makes.mono _ _ _ _ _
   | exact grammar_Void.mono _ _ _ _ _
   | exact LeO.none _
   | refine LeO.ite ?_ ?_
   | refine LeO.bind ?_ (fun _=>?_)
  ·intro y0
   unfold coppicerkeep_GrammarSets.j0
   repeat' first
   | (with_reducible exact ih0 _ _ _ _ _ _ _ _ _ _)
   | (with_reducible exact ih1 _)
   | (with_reducible exact ih2 _)
   | (with_reducible exact ih3 _)
   | (with_reducible exact coppicerref_GrammarCheck.mono _ _ _ _ _)
   | (with_reducible exact grammar_Comes.mono _ _ _ _ _)
   | (with_reducible exact grammar_Makes.mono _ _ _ _ _)
   | (with_reducible exact grammar_Void.mono _ _ _ _ _)
   | (with_reducible exact LeO.refl _)
   | (with_reducible exact LeO.none _)
   | (with_reducible refine LeO.ite ?_ ?_)
   | (with_reducible refine LeO.bind ?_ (fun _=>?_))
   | exact ih0 _ _ _ _ _ _ _ _ _ _
   | exact ih1 _
   | exact ih2 _
   | exact ih3 _
   | exact coppicerref_GrammarCheck.mono _ _ _ _ _
   | exact grammar_Comes.mono _ _ _ _ _
   | exact grammar_Makes.mono _ _ _ _ _
   | exact grammar_Void.mono _ _ _ _ _
   | exact LeO.none _
   | refine LeO.ite ?_ ?_
   | refine LeO.bind ?_ (fun _=>?_)
theorem coppicerkeep_GrammarSets.mono : ∀ a0 a1 a2 a3 a4 a5 k,LeO (coppicerkeep_GrammarSets.f k a0 a1 a2 a3 a4 a5) (coppicerkeep_GrammarSets.f (k + 1) a0 a1 a2 a3 a4 a5):=by
 intro a0 a1 a2 a3 a4 a5 k
 obtain ⟨ih0,ih1,ih2,ih3⟩:=coppicerkeep_GrammarSets.mono_l k
 unfold coppicerkeep_GrammarSets.f
 repeat' first
   | (with_reducible exact ih0 _ _ _ _ _ _ _ _ _ _)
   | (with_reducible exact ih1 _)
   | (with_reducible exact ih2 _)
   | (with_reducible exact ih3 _)
   | (with_reducible exact coppicerref_GrammarCheck.mono _ _ _ _ _)
   | (with_reducible exact grammar_Comes.mono _ _ _ _ _)
   | (with_reducible exact grammar_Makes.mono _ _ _ _ _)
   | (with_reducible exact grammar_Void.mono _ _ _ _ _)
   | (with_reducible exact LeO.refl _)
   | (with_reducible exact LeO.none _)
   | (with_reducible refine LeO.ite ?_ ?_)
   | (with_reducible refine LeO.bind ?_ (fun _=>?_))
   | exact ih0 _ _ _ _ _ _ _ _ _ _
   | exact ih1 _
   | exact ih2 _
   | exact ih3 _
   | exact coppicerref_GrammarCheck.mono _ _ _ _ _
   | exact grammar_Comes.mono _ _ _ _ _
   | exact grammar_Makes.mono _ _ _ _ _
   | exact grammar_Void.mono _ _ _ _ _
   | exact LeO.none _
   | refine LeO.ite ?_ ?_
   | refine LeO.bind ?_ (fun _=>?_)
def coppicerkeep_GrammarSets.T9 : Bool × List (List Nat × List Nat):=(true,[([],[]),([],[]),([1],[1]),([0,2],[0,2]),([],[]),([4],[4]),([3,5,3],[3,5]),([0,1,2,3,4,5,6],[]),([7,6,6,0,1,2,3,4,5,6],[6,7])])
def coppicerkeep_GrammarSets.B9 : List Nat:=[0,0,2,7,0,16,63,127,255]
theorem coppicerkeep_GrammarSets.tab9 : rtab .any (opsOf Try.f3 9) = coppicerkeep_GrammarSets.T9:=by kernel_rfl
theorem coppicerkeep_GrammarSets.bits9 : waitsOk coppicerkeep_GrammarSets.T9.2 coppicerkeep_GrammarSets.B9 = true:=by kernel_rfl
set_option maxHeartbeats 8000000 in
set_option maxRecDepth 100000 in
theorem coppicerkeep_GrammarSets.calls (k : Nat) (a0_0 : Int) (a0_1 : Int) (a0_2 : Int) (P0_3_ : Nat → Prop) (A0_3 : Option Addr) (c0_3 : Nat) (l0_3 : List (S27)) (a1_0 : Int) (P1_1_ : Nat → Prop) (A1_1 : Option Addr) (c1_1 : Nat) (l1_1 : List Int) (r : Bool) (w : World) (hs0_3 : Kd.V k27 27 w w.heap.size (fun k_=>P0_3_ k_) (.slice A0_3 l0_3.length c0_3) l0_3) (hs1_1 : Kd.V (Kd.int .i64) 3 w w.heap.size (fun k_=>P1_1_ k_) (.slice A1_1 l1_1.length c1_1) l1_1) (h : coppicerkeep_GrammarSets.f k a0_0 a0_1 a0_2 l0_3 a1_0 l1_1 = some r) :
  Calls Try.prog 3 #[.agg #[.int .i64 a0_0,.int .i64 a0_1,.int .i64 a0_2,.slice A0_3 l0_3.length c0_3],.agg #[.int .i64 a1_0,.slice A1_1 l1_1.length c1_1]] w fun e w'=>e = .returned (.bool r) ∧ Below w.heap.size w w':=by
 have hu24:=Try.underlying24
 have hu27:=Try.underlying27
 have HO0_3:=Aside0.mk (show Kd.V k27 27 w w.heap.size (fun k_=>((P0_3_ k_ ∨ P1_1_ k_) ∨ w.heap.size ≤ k_)) (.slice A0_3 l0_3.length c0_3) l0_3 from Kd.V_mono hs0_3 (fun k_ hk=>.inl (.inl hk)))
 have HO1_1:=Aside0.mk (show Kd.V (Kd.int .i64) 3 w w.heap.size (fun k_=>((P0_3_ k_ ∨ P1_1_ k_) ∨ w.heap.size ≤ k_)) (.slice A1_1 l1_1.length c1_1) l1_1 from Kd.V_mono hs1_1 (fun k_ hk=>.inl (.inr hk)))
 have HB:=Aside0.mk (Below.refl w.heap.size w)
 have H : ((grammar_Makes.f k a0_0 a0_1 a0_2 l0_3).bind fun bt135=>((grammar_Void.f k a0_0 a0_1 a0_2 l0_3).bind fun bt137=>((grammar_Comes.f k a0_0 a0_1 a0_2 l0_3).bind fun bt139=>((coppicerref_GrammarCheck.f k a0_0 a0_1 a0_2 l0_3).bind fun t141=>(if t141 = 0 then (if bt135.2 = 0 then (if bt137.2 = 0 then (if bt139.2 = 0 then (if (Go.bits .andNot .u32 bt137.1 bt135.1) = 0 then ((coppicerref_Bit.f bt139.1 a0_2).bind fun t142=>(coppicerkeep_GrammarSets.j1 k bt135.1 bt137.1 bt139.1 (!t142) a0_0 a0_1 a0_2 l0_3 a1_0 l1_1)) else (coppicerkeep_GrammarSets.j1 k bt135.1 bt137.1 bt139.1 true a0_0 a0_1 a0_2 l0_3 a1_0 l1_1)) else (coppicerkeep_GrammarSets.j1 k bt135.1 bt137.1 bt139.1 true a0_0 a0_1 a0_2 l0_3 a1_0 l1_1)) else (coppicerkeep_GrammarSets.j1 k bt135.1 bt137.1 bt139.1 true a0_0 a0_1 a0_2 l0_3 a1_0 l1_1)) else (coppicerkeep_GrammarSets.j1 k bt135.1 bt137.1 bt139.1 true a0_0 a0_1 a0_2 l0_3 a1_0 l1_1)) else (if bt135.2 = 0 then (coppicerkeep_GrammarSets.j0 k false) else (if bt137.2 = 0 then (coppicerkeep_GrammarSets.j0 k false) else (coppicerkeep_GrammarSets.j0 k (bt139.2 != 0))))))))) = some r:=h
 clear h
 replace H:=Option.bind_eq_some_iff.mp H
 obtain ⟨⟨t135,t136⟩,A30,H⟩:=H
 replace H : ((grammar_Void.f k a0_0 a0_1 a0_2 l0_3).bind fun bt137=>((grammar_Comes.f k a0_0 a0_1 a0_2 l0_3).bind fun bt139=>((coppicerref_GrammarCheck.f k a0_0 a0_1 a0_2 l0_3).bind fun t141=>(if t141 = 0 then (if t136 = 0 then (if bt137.2 = 0 then (if bt139.2 = 0 then (if (Go.bits .andNot .u32 bt137.1 t135) = 0 then ((coppicerref_Bit.f bt139.1 a0_2).bind fun t142=>(coppicerkeep_GrammarSets.j1 k t135 bt137.1 bt139.1 (!t142) a0_0 a0_1 a0_2 l0_3 a1_0 l1_1)) else (coppicerkeep_GrammarSets.j1 k t135 bt137.1 bt139.1 true a0_0 a0_1 a0_2 l0_3 a1_0 l1_1)) else (coppicerkeep_GrammarSets.j1 k t135 bt137.1 bt139.1 true a0_0 a0_1 a0_2 l0_3 a1_0 l1_1)) else (coppicerkeep_GrammarSets.j1 k t135 bt137.1 bt139.1 true a0_0 a0_1 a0_2 l0_3 a1_0 l1_1)) else (coppicerkeep_GrammarSets.j1 k t135 bt137.1 bt139.1 true a0_0 a0_1 a0_2 l0_3 a1_0 l1_1)) else (if t136 = 0 then (coppicerkeep_GrammarSets.j0 k false) else (if bt137.2 = 0 then (coppicerkeep_GrammarSets.j0 k false) else (coppicerkeep_GrammarSets.j0 k (bt139.2 != 0)))))))) = some r:=H
 have A3:=Aside0.mk A30
 clear A30
 replace H:=Option.bind_eq_some_iff.mp H
 obtain ⟨⟨t137,t138⟩,A40,H⟩:=H
 replace H : ((grammar_Comes.f k a0_0 a0_1 a0_2 l0_3).bind fun bt139=>((coppicerref_GrammarCheck.f k a0_0 a0_1 a0_2 l0_3).bind fun t141=>(if t141 = 0 then (if t136 = 0 then (if t138 = 0 then (if bt139.2 = 0 then (if (Go.bits .andNot .u32 t137 t135) = 0 then ((coppicerref_Bit.f bt139.1 a0_2).bind fun t142=>(coppicerkeep_GrammarSets.j1 k t135 t137 bt139.1 (!t142) a0_0 a0_1 a0_2 l0_3 a1_0 l1_1)) else (coppicerkeep_GrammarSets.j1 k t135 t137 bt139.1 true a0_0 a0_1 a0_2 l0_3 a1_0 l1_1)) else (coppicerkeep_GrammarSets.j1 k t135 t137 bt139.1 true a0_0 a0_1 a0_2 l0_3 a1_0 l1_1)) else (coppicerkeep_GrammarSets.j1 k t135 t137 bt139.1 true a0_0 a0_1 a0_2 l0_3 a1_0 l1_1)) else (coppicerkeep_GrammarSets.j1 k t135 t137 bt139.1 true a0_0 a0_1 a0_2 l0_3 a1_0 l1_1)) else (if t136 = 0 then (coppicerkeep_GrammarSets.j0 k false) else (if t138 = 0 then (coppicerkeep_GrammarSets.j0 k false) else (coppicerkeep_GrammarSets.j0 k (bt139.2 != 0))))))) = some r:=H
 have A4:=Aside0.mk A40
 clear A40
 replace H:=Option.bind_eq_some_iff.mp H
 obtain ⟨⟨t139,t140⟩,A50,H⟩:=H
 replace H : ((coppicerref_GrammarCheck.f k a0_0 a0_1 a0_2 l0_3).bind fun t141=>(if t141 = 0 then (if t136 = 0 then (if t138 = 0 then (if t140 = 0 then (if (Go.bits .andNot .u32 t137 t135) = 0 then ((coppicerref_Bit.f t139 a0_2).bind fun t142=>(coppicerkeep_GrammarSets.j1 k t135 t137 t139 (!t142) a0_0 a0_1 a0_2 l0_3 a1_0 l1_1)) else (coppicerkeep_GrammarSets.j1 k t135 t137 t139 true a0_0 a0_1 a0_2 l0_3 a1_0 l1_1)) else (coppicerkeep_GrammarSets.j1 k t135 t137 t139 true a0_0 a0_1 a0_2 l0_3 a1_0 l1_1)) else (coppicerkeep_GrammarSets.j1 k t135 t137 t139 true a0_0 a0_1 a0_2 l0_3 a1_0 l1_1)) else (coppicerkeep_GrammarSets.j1 k t135 t137 t139 true a0_0 a0_1 a0_2 l0_3 a1_0 l1_1)) else (if t136 = 0 then (coppicerkeep_GrammarSets.j0 k false) else (if t138 = 0 then (coppicerkeep_GrammarSets.j0 k false) else (coppicerkeep_GrammarSets.j0 k (t140 != 0)))))) = some r:=H
 have A5:=Aside0.mk A50
 clear A50
 replace H:=Option.bind_eq_some_iff.mp H
 obtain ⟨t141,A60,H⟩:=H
 replace H : (if t141 = 0 then (if t136 = 0 then (if t138 = 0 then (if t140 = 0 then (if (Go.bits .andNot .u32 t137 t135) = 0 then ((coppicerref_Bit.f t139 a0_2).bind fun t142=>(coppicerkeep_GrammarSets.j1 k t135 t137 t139 (!t142) a0_0 a0_1 a0_2 l0_3 a1_0 l1_1)) else (coppicerkeep_GrammarSets.j1 k t135 t137 t139 true a0_0 a0_1 a0_2 l0_3 a1_0 l1_1)) else (coppicerkeep_GrammarSets.j1 k t135 t137 t139 true a0_0 a0_1 a0_2 l0_3 a1_0 l1_1)) else (coppicerkeep_GrammarSets.j1 k t135 t137 t139 true a0_0 a0_1 a0_2 l0_3 a1_0 l1_1)) else (coppicerkeep_GrammarSets.j1 k t135 t137 t139 true a0_0 a0_1 a0_2 l0_3 a1_0 l1_1)) else (if t136 = 0 then (coppicerkeep_GrammarSets.j0 k false) else (if t138 = 0 then (coppicerkeep_GrammarSets.j0 k false) else (coppicerkeep_GrammarSets.j0 k (t140 != 0))))) = some r:=H
 have A6:=Aside0.mk A60
 clear A60
 by_cases c7 : t141 = 0
 ·rw [if_pos c7] at H
  have c7b0 : (t141 == 0) = true:=beq_iff_eq.mpr c7
  have c7b1 : (t141 != 0) = false:=bne_eq_false_iff_eq.mpr c7
  clear c7
  have HC8:=Aside0.mk H
  clear H
  go_enter Try.func3,Try.ntmps3
  go_upto_region 6 with (first|((with_reducible refine gate_dst (N:=2) rfl ?_);refine box_event ?hg (N:=2) ?hd (cs:=#[.int .i64 a0_0,.int .i64 a0_1,.int .i64 a0_2,.slice A0_3 l0_3.length c0_3]) (t:=24) ?hr ?_;(case hd=>rfl);(case hg=>rfl);(case hr=>first|(go_simp;done)|(go_simp;rfl));intro gb133 hg w9 hbox hb;have n0_:=Aside0.mk (Kd.V_below (Kd.V_elderB (by (with_reducible repeat (first|apply Kd.V_alloc|apply Kd.V_drewN|apply Kd.V_drew));exact HO0_3.out) gb133 (Nat.le_of_eq hg.symm)) hb);have n1_:=Aside0.mk (Kd.V_below (Kd.V_elderB (by (with_reducible repeat (first|apply Kd.V_alloc|apply Kd.V_drewN|apply Kd.V_drew));exact HO1_1.out) gb133 (Nat.le_of_eq hg.symm)) hb);have n2_:=Aside0.mk (below_step (by repeat (first|(with_reducible first|exact HB.out|apply below_alloc|apply pw_below_drewN|apply below_drew1)|exact HB.out)) hb);have n3_:=Aside0.mk (hbox);have n4_:=Aside0.mk ((by rw [hg];exact (below_size (by repeat (first|(with_reducible first|exact HB.out|apply below_alloc|apply pw_below_drewN|apply below_drew1)|exact HB.out))) : w.heap.size ≤ gb133));have n5_:=Aside0.mk ((by rw [hg];exact (below_size (by repeat (first|(with_reducible first|exact HB.out|apply below_alloc|apply pw_below_drewN|apply below_drew1)|exact HB.out))) : w.heap.size ≤ gb133));clear HO0_3;clear HO1_1;clear HB;have HO0_3:=n0_;have HO1_1:=n1_;have HB:=n2_;have BK133:=n3_;have GW133:=n4_;have GE133:=n5_;clear n0_ n1_ n2_ n3_ n4_ n5_;clear hb hbox hg)|((with_reducible refine gate_dst (N:=3) rfl ?_);refine box_event ?hg (N:=3) ?hd (cs:=#[.int .i64 a1_0,.slice A1_1 l1_1.length c1_1]) (t:=27) ?hr ?_;(case hd=>rfl);(case hg=>rfl);(case hr=>first|(go_simp;done)|(go_simp;rfl));intro gb134 hg w10 hbox hb;have n0_:=Aside0.mk (Kd.V_below (Kd.V_elderB (by (with_reducible repeat (first|apply Kd.V_alloc|apply Kd.V_drewN|apply Kd.V_drew));exact HO0_3.out) gb134 (Nat.le_of_eq hg.symm)) hb);have n1_:=Aside0.mk (Kd.V_below (Kd.V_elderB (by (with_reducible repeat (first|apply Kd.V_alloc|apply Kd.V_drewN|apply Kd.V_drew));exact HO1_1.out) gb134 (Nat.le_of_eq hg.symm)) hb);have n2_:=Aside0.mk (blk_below (g:=gb133) (o:=.cells #[.int .i64 a0_0,.int .i64 a0_1,.int .i64 a0_2,.slice A0_3 l0_3.length c0_3] 24 (0,0)) (by (with_reducible repeat (first|refine blk_drewN ?_ _|refine blk_drew ?_|refine blk_alloc ?_ _));exact BK133.out) hb);have n3_:=Aside0.mk (below_step (by repeat (first|(with_reducible first|exact HB.out|apply below_alloc|apply pw_below_drewN|apply below_drew1|refine below_set ?_ GE133.out)|exact HB.out)) hb);have n4_:=Aside0.mk (hbox);have n5_:=Aside0.mk ((by rw [hg];exact (below_size (by repeat (first|(with_reducible first|exact HB.out|apply below_alloc|apply pw_below_drewN|apply below_drew1|refine below_set ?_ GE133.out)|exact HB.out))) : w.heap.size ≤ gb134));have n6_:=Aside0.mk ((by rw [hg];exact (below_size (by repeat (first|(with_reducible first|exact HB.out|apply below_alloc|apply pw_below_drewN|apply below_drew1|refine below_set ?_ GE133.out)|exact HB.out))) : w.heap.size ≤ gb134));have n7_:=Aside0.mk ((by rw [hg];exact Nat.ne_of_lt (blk_lt (g:=gb133) (o:=.cells #[.int .i64 a0_0,.int .i64 a0_1,.int .i64 a0_2,.slice A0_3 l0_3.length c0_3] 24 (0,0)) (by (with_reducible repeat (first|refine blk_drewN ?_ _|refine blk_drew ?_|refine blk_alloc ?_ _));exact BK133.out)) : gb133 ≠ gb134));have n8_:=Aside0.mk ((by rw [hg];exact Nat.ne_of_gt (blk_lt (g:=gb133) (o:=.cells #[.int .i64 a0_0,.int .i64 a0_1,.int .i64 a0_2,.slice A0_3 l0_3.length c0_3] 24 (0,0)) (by (with_reducible repeat (first|refine blk_drewN ?_ _|refine blk_drew ?_|refine blk_alloc ?_ _));exact BK133.out)) : gb134 ≠ gb133));clear HO0_3;clear HO1_1;clear BK133;clear HB;have HO0_3:=n0_;have HO1_1:=n1_;have BK133:=n2_;have HB:=n3_;have BK134:=n4_;have GW134:=n5_;have GE134:=n6_;have NB133_134:=n7_;have NB134_133:=n8_;clear n0_ n1_ n2_ n3_ n4_ n5_ n6_ n7_ n8_;clear hb hbox hg;have hnb11:=NB133_134.out;have hnc11:=NB134_133.out;have hcz12_0 : w10.cell? ⟨gb133,0,none⟩ = some (.int .i64 a0_0):=(blk_cell BK133.out 0).trans rfl;have hcz12_1 : w10.cell? ⟨gb133,1,none⟩ = some (.int .i64 a0_1):=(blk_cell BK133.out 1).trans rfl;have hcz12_2 : w10.cell? ⟨gb133,2,none⟩ = some (.int .i64 a0_2):=(blk_cell BK133.out 2).trans rfl;have hcz12_3 : w10.cell? ⟨gb133,3,none⟩ = some (.slice A0_3 l0_3.length c0_3):=(blk_cell BK133.out 3).trans rfl;have hfz12_0:=blk_frozen BK133.out 0;have hfz12_1:=blk_frozen BK133.out 1;have hfz12_2:=blk_frozen BK133.out 2;have hfz12_3:=blk_frozen BK133.out 3)|((with_reducible refine gate_callee (f:=15) rfl ?_);refine goesL_ (some 17) rfl rfl Try.func15 (by kernel_rfl) rfl #[.agg #[.int .i64 a0_0,.int .i64 a0_1,.int .i64 a0_2,.slice A0_3 l0_3.length c0_3]] rfl (by (try simp only [List.map_toArray,List.map_cons,List.map_nil]);first|done|rfl|(simp only [List.length_drop,List.length_take];rfl)) ?_;(with_reducible refine (grammar_Makes.calls k a0_0 a0_1 a0_2 _ _ l0_3 t135 t136 _ ?side1 ?side2 A3.out).mono ?_);(case side1=>repeat (first|exact (Kd.V_reads' HO0_3.out).2.2|(with_reducible refine Kd.C_alloc ?_ _)|(with_reducible refine Kd.C_drewN ?_ _)|(with_reducible refine Kd.C_drew ?_)));(case side2=>exact (Kd.V_reads' HO0_3.out).2.1);rintro e w13 ⟨rfl,hb⟩;refine ⟨_,rfl,?_⟩;have n0_:=Aside0.mk (Kd.V_below (by (with_reducible repeat (first|apply Kd.V_alloc|apply Kd.V_drewN|apply Kd.V_drew));exact HO0_3.out) hb);have n1_:=Aside0.mk (Kd.V_below (by (with_reducible repeat (first|apply Kd.V_alloc|apply Kd.V_drewN|apply Kd.V_drew));exact HO1_1.out) hb);have n2_:=Aside0.mk (blk_below (g:=gb133) (o:=.cells #[.int .i64 a0_0,.int .i64 a0_1,.int .i64 a0_2,.slice A0_3 l0_3.length c0_3] 24 (0,0)) (by (with_reducible repeat (first|refine blk_drewN ?_ _|refine blk_drew ?_|refine blk_alloc ?_ _));exact BK133.out) hb);have n3_:=Aside0.mk (blk_below (g:=gb134) (o:=.cells #[.int .i64 a1_0,.slice A1_1 l1_1.length c1_1] 27 (0,0)) (by (with_reducible repeat (first|refine blk_drewN ?_ _|refine blk_drew ?_|refine blk_alloc ?_ _));exact BK134.out) hb);have n4_:=Aside0.mk (below_step (by repeat (first|(with_reducible first|exact HB.out|apply below_alloc|apply pw_below_drewN|apply below_drew1|refine below_set ?_ GE133.out|refine below_set ?_ GE134.out)|exact HB.out)) hb);clear HO0_3;clear HO1_1;clear BK133;clear BK134;clear HB;have HO0_3:=n0_;have HO1_1:=n1_;have BK133:=n2_;have BK134:=n3_;have HB:=n4_;clear n0_ n1_ n2_ n3_ n4_;(try clear hb);(try clear hb2);(try clear hk);(try clear hi);have hcz14_0 : w13.cell? ⟨gb133,0,none⟩ = some (.int .i64 a0_0):=(blk_cell BK133.out 0).trans rfl;have hcz14_1 : w13.cell? ⟨gb133,1,none⟩ = some (.int .i64 a0_1):=(blk_cell BK133.out 1).trans rfl;have hcz14_2 : w13.cell? ⟨gb133,2,none⟩ = some (.int .i64 a0_2):=(blk_cell BK133.out 2).trans rfl;have hcz14_3 : w13.cell? ⟨gb133,3,none⟩ = some (.slice A0_3 l0_3.length c0_3):=(blk_cell BK133.out 3).trans rfl;have hfz14_0:=blk_frozen BK133.out 0;have hfz14_1:=blk_frozen BK133.out 1;have hfz14_2:=blk_frozen BK133.out 2;have hfz14_3:=blk_frozen BK133.out 3)|((with_reducible refine gate_callee (f:=16) rfl ?_);refine goesL_ (some 22) rfl rfl Try.func16 (by kernel_rfl) rfl #[.agg #[.int .i64 a0_0,.int .i64 a0_1,.int .i64 a0_2,.slice A0_3 l0_3.length c0_3]] rfl (by (try simp only [List.map_toArray,List.map_cons,List.map_nil]);first|done|rfl|(simp only [List.length_drop,List.length_take];rfl)) ?_;(with_reducible refine (grammar_Void.calls k a0_0 a0_1 a0_2 _ _ l0_3 t137 t138 _ ?side1 ?side2 A4.out).mono ?_);(case side1=>repeat (first|exact (Kd.V_reads' HO0_3.out).2.2|(with_reducible refine Kd.C_alloc ?_ _)|(with_reducible refine Kd.C_drewN ?_ _)|(with_reducible refine Kd.C_drew ?_)));(case side2=>exact (Kd.V_reads' HO0_3.out).2.1);rintro e w15 ⟨rfl,hb⟩;refine ⟨_,rfl,?_⟩;have n0_:=Aside0.mk (Kd.V_below (by (with_reducible repeat (first|apply Kd.V_alloc|apply Kd.V_drewN|apply Kd.V_drew));exact HO0_3.out) hb);have n1_:=Aside0.mk (Kd.V_below (by (with_reducible repeat (first|apply Kd.V_alloc|apply Kd.V_drewN|apply Kd.V_drew));exact HO1_1.out) hb);have n2_:=Aside0.mk (blk_below (g:=gb133) (o:=.cells #[.int .i64 a0_0,.int .i64 a0_1,.int .i64 a0_2,.slice A0_3 l0_3.length c0_3] 24 (0,0)) (by (with_reducible repeat (first|refine blk_drewN ?_ _|refine blk_drew ?_|refine blk_alloc ?_ _));exact BK133.out) hb);have n3_:=Aside0.mk (blk_below (g:=gb134) (o:=.cells #[.int .i64 a1_0,.slice A1_1 l1_1.length c1_1] 27 (0,0)) (by (with_reducible repeat (first|refine blk_drewN ?_ _|refine blk_drew ?_|refine blk_alloc ?_ _));exact BK134.out) hb);have n4_:=Aside0.mk (below_step (by repeat (first|(with_reducible first|exact HB.out|apply below_alloc|apply pw_below_drewN|apply below_drew1|refine below_set ?_ GE133.out|refine below_set ?_ GE134.out)|exact HB.out)) hb);clear HO0_3;clear HO1_1;clear BK133;clear BK134;clear HB;have HO0_3:=n0_;have HO1_1:=n1_;have BK133:=n2_;have BK134:=n3_;have HB:=n4_;clear n0_ n1_ n2_ n3_ n4_;(try clear hb);(try clear hb2);(try clear hk);(try clear hi);have hcz16_0 : w15.cell? ⟨gb133,0,none⟩ = some (.int .i64 a0_0):=(blk_cell BK133.out 0).trans rfl;have hcz16_1 : w15.cell? ⟨gb133,1,none⟩ = some (.int .i64 a0_1):=(blk_cell BK133.out 1).trans rfl;have hcz16_2 : w15.cell? ⟨gb133,2,none⟩ = some (.int .i64 a0_2):=(blk_cell BK133.out 2).trans rfl;have hcz16_3 : w15.cell? ⟨gb133,3,none⟩ = some (.slice A0_3 l0_3.length c0_3):=(blk_cell BK133.out 3).trans rfl;have hfz16_0:=blk_frozen BK133.out 0;have hfz16_1:=blk_frozen BK133.out 1;have hfz16_2:=blk_frozen BK133.out 2;have hfz16_3:=blk_frozen BK133.out 3)|((with_reducible refine gate_callee (f:=17) rfl ?_);refine goesL_ (some 27) rfl rfl Try.func17 (by kernel_rfl) rfl #[.agg #[.int .i64 a0_0,.int .i64 a0_1,.int .i64 a0_2,.slice A0_3 l0_3.length c0_3]] rfl (by (try simp only [List.map_toArray,List.map_cons,List.map_nil]);first|done|rfl|(simp only [List.length_drop,List.length_take];rfl)) ?_;(with_reducible refine (grammar_Comes.calls k a0_0 a0_1 a0_2 _ _ l0_3 t139 t140 _ ?side1 ?side2 A5.out).mono ?_);(case side1=>repeat (first|exact (Kd.V_reads' HO0_3.out).2.2|(with_reducible refine Kd.C_alloc ?_ _)|(with_reducible refine Kd.C_drewN ?_ _)|(with_reducible refine Kd.C_drew ?_)));(case side2=>exact (Kd.V_reads' HO0_3.out).2.1);rintro e w17 ⟨rfl,hb⟩;refine ⟨_,rfl,?_⟩;have n0_:=Aside0.mk (Kd.V_below (by (with_reducible repeat (first|apply Kd.V_alloc|apply Kd.V_drewN|apply Kd.V_drew));exact HO0_3.out) hb);have n1_:=Aside0.mk (Kd.V_below (by (with_reducible repeat (first|apply Kd.V_alloc|apply Kd.V_drewN|apply Kd.V_drew));exact HO1_1.out) hb);have n2_:=Aside0.mk (blk_below (g:=gb133) (o:=.cells #[.int .i64 a0_0,.int .i64 a0_1,.int .i64 a0_2,.slice A0_3 l0_3.length c0_3] 24 (0,0)) (by (with_reducible repeat (first|refine blk_drewN ?_ _|refine blk_drew ?_|refine blk_alloc ?_ _));exact BK133.out) hb);have n3_:=Aside0.mk (blk_below (g:=gb134) (o:=.cells #[.int .i64 a1_0,.slice A1_1 l1_1.length c1_1] 27 (0,0)) (by (with_reducible repeat (first|refine blk_drewN ?_ _|refine blk_drew ?_|refine blk_alloc ?_ _));exact BK134.out) hb);have n4_:=Aside0.mk (below_step (by repeat (first|(with_reducible first|exact HB.out|apply below_alloc|apply pw_below_drewN|apply below_drew1|refine below_set ?_ GE133.out|refine below_set ?_ GE134.out)|exact HB.out)) hb);clear HO0_3;clear HO1_1;clear BK133;clear BK134;clear HB;have HO0_3:=n0_;have HO1_1:=n1_;have BK133:=n2_;have BK134:=n3_;have HB:=n4_;clear n0_ n1_ n2_ n3_ n4_;(try clear hb);(try clear hb2);(try clear hk);(try clear hi);have hcz18_0 : w17.cell? ⟨gb133,0,none⟩ = some (.int .i64 a0_0):=(blk_cell BK133.out 0).trans rfl;have hcz18_1 : w17.cell? ⟨gb133,1,none⟩ = some (.int .i64 a0_1):=(blk_cell BK133.out 1).trans rfl;have hcz18_2 : w17.cell? ⟨gb133,2,none⟩ = some (.int .i64 a0_2):=(blk_cell BK133.out 2).trans rfl;have hcz18_3 : w17.cell? ⟨gb133,3,none⟩ = some (.slice A0_3 l0_3.length c0_3):=(blk_cell BK133.out 3).trans rfl;have hfz18_0:=blk_frozen BK133.out 0;have hfz18_1:=blk_frozen BK133.out 1;have hfz18_2:=blk_frozen BK133.out 2;have hfz18_3:=blk_frozen BK133.out 3)|((with_reducible refine gate_callee (f:=18) rfl ?_);refine goesL_ (some 31) rfl rfl Try.func18 (by kernel_rfl) rfl #[.agg #[.int .i64 a0_0,.int .i64 a0_1,.int .i64 a0_2,.slice A0_3 l0_3.length c0_3]] rfl (by (try simp only [List.map_toArray,List.map_cons,List.map_nil]);first|done|rfl|(simp only [List.length_drop,List.length_take];rfl)) ?_;(with_reducible refine (coppicerref_GrammarCheck.calls k a0_0 a0_1 a0_2 _ _ l0_3 t141 _ ?side1 ?side2 A6.out).mono ?_);(case side1=>repeat (first|exact (Kd.V_reads' HO0_3.out).2.2|(with_reducible refine Kd.C_alloc ?_ _)|(with_reducible refine Kd.C_drewN ?_ _)|(with_reducible refine Kd.C_drew ?_)));(case side2=>exact (Kd.V_reads' HO0_3.out).2.1);rintro e w19 ⟨rfl,hb⟩;refine ⟨_,rfl,?_⟩;have n0_:=Aside0.mk (Kd.V_below (by (with_reducible repeat (first|apply Kd.V_alloc|apply Kd.V_drewN|apply Kd.V_drew));exact HO0_3.out) hb);have n1_:=Aside0.mk (Kd.V_below (by (with_reducible repeat (first|apply Kd.V_alloc|apply Kd.V_drewN|apply Kd.V_drew));exact HO1_1.out) hb);have n2_:=Aside0.mk (blk_below (g:=gb133) (o:=.cells #[.int .i64 a0_0,.int .i64 a0_1,.int .i64 a0_2,.slice A0_3 l0_3.length c0_3] 24 (0,0)) (by (with_reducible repeat (first|refine blk_drewN ?_ _|refine blk_drew ?_|refine blk_alloc ?_ _));exact BK133.out) hb);have n3_:=Aside0.mk (blk_below (g:=gb134) (o:=.cells #[.int .i64 a1_0,.slice A1_1 l1_1.length c1_1] 27 (0,0)) (by (with_reducible repeat (first|refine blk_drewN ?_ _|refine blk_drew ?_|refine blk_alloc ?_ _));exact BK134.out) hb);have n4_:=Aside0.mk (below_step (by repeat (first|(with_reducible first|exact HB.out|apply below_alloc|apply pw_below_drewN|apply below_drew1|refine below_set ?_ GE133.out|refine below_set ?_ GE134.out)|exact HB.out)) hb);clear HO0_3;clear HO1_1;clear BK133;clear BK134;clear HB;have HO0_3:=n0_;have HO1_1:=n1_;have BK133:=n2_;have BK134:=n3_;have HB:=n4_;clear n0_ n1_ n2_ n3_ n4_;(try clear hb);(try clear hb2);(try clear hk);(try clear hi)))
  (try simp only [Act.put,List.setIfInBounds_toArray,List.set_cons_zero,List.set_cons_succ])
  go_cut [65] (fun v65 wc=>∃ (kq : Nat) (x65_7 : Bool),v65 = .bool x65_7 ∧ Aside0 (coppicerkeep_GrammarSets.j1 kq t135 t137 t139 x65_7 a0_0 a0_1 a0_2 l0_3 a1_0 l1_1 = some r) ∧ Aside0 (kq ≤ k) ∧ Aside0 (Kd.V k27 27 wc w.heap.size (fun k_=>((P0_3_ k_ ∨ P1_1_ k_) ∨ w.heap.size ≤ k_) ∧ k_ ≠ gb133 ∧ k_ ≠ gb134) (.slice A0_3 l0_3.length c0_3) l0_3) ∧ Aside0 (Kd.V (Kd.int .i64) 3 wc w.heap.size (fun k_=>((P0_3_ k_ ∨ P1_1_ k_) ∨ w.heap.size ≤ k_) ∧ k_ ≠ gb133 ∧ k_ ≠ gb134) (.slice A1_1 l1_1.length c1_1) l1_1) ∧ Aside0 (wc.heap[gb133]? = some (.cells #[.int .i64 a0_0,.int .i64 a0_1,.int .i64 a0_2,(.slice A0_3 l0_3.length c0_3)] 24 (0,0))) ∧ Aside0 (wc.heap[gb134]? = some (.cells #[.int .i64 a1_0,(.slice A1_1 l1_1.length c1_1)] 27 (0,0))) ∧ Aside0 (Below w.heap.size w wc))
  case first =>
   have H:=HC8.out
   clear HC8
   by_cases c20 : t136 = 0
   ·rw [if_pos c20] at H
    have c20b0 : (t136 == 0) = true:=beq_iff_eq.mpr c20
    have c20b1 : (t136 != 0) = false:=bne_eq_false_iff_eq.mpr c20
    clear c20
    (first|rw [c20b0]|(simp only [i64_w,i32_w];rw [c20b0])|skip)
    by_cases c21 : t138 = 0
    ·rw [if_pos c21] at H
     have c21b0 : (t138 == 0) = true:=beq_iff_eq.mpr c21
     have c21b1 : (t138 != 0) = false:=bne_eq_false_iff_eq.mpr c21
     clear c21
     by_cases c22 : t140 = 0
     ·rw [if_pos c22] at H
      have c22b0 : (t140 == 0) = true:=beq_iff_eq.mpr c22
      have c22b1 : (t140 != 0) = false:=bne_eq_false_iff_eq.mpr c22
      clear c22
      by_cases c23 : (Go.bits .andNot .u32 t137 t135) = 0
      ·rw [if_pos c23] at H
       have c23b0 : ((Go.bits .andNot .u32 t137 t135) == 0) = true:=beq_iff_eq.mpr c23
       have c23b1 : ((Go.bits .andNot .u32 t137 t135) != 0) = false:=bne_eq_false_iff_eq.mpr c23
       clear c23
       replace H:=Option.bind_eq_some_iff.mp H
       obtain ⟨t142,A240,H⟩:=H
       replace H : (coppicerkeep_GrammarSets.j1 k t135 t137 t139 (!t142) a0_0 a0_1 a0_2 l0_3 a1_0 l1_1) = some r:=H
       have A24:=Aside0.mk A240
       clear A240
       have H':=Aside0.mk H
       clear H
       have hnb25:=NB133_134.out
       have hnc25:=NB134_133.out
       have hcz26_0 : w19.cell? ⟨gb133,0,none⟩ = some (.int .i64 a0_0):=(blk_cell BK133.out 0).trans rfl
       have hcz26_1 : w19.cell? ⟨gb133,1,none⟩ = some (.int .i64 a0_1):=(blk_cell BK133.out 1).trans rfl
       have hcz26_2 : w19.cell? ⟨gb133,2,none⟩ = some (.int .i64 a0_2):=(blk_cell BK133.out 2).trans rfl
       have hcz26_3 : w19.cell? ⟨gb133,3,none⟩ = some (.slice A0_3 l0_3.length c0_3):=(blk_cell BK133.out 3).trans rfl
       have hfz26_0:=blk_frozen BK133.out 0
       have hfz26_1:=blk_frozen BK133.out 1
       have hfz26_2:=blk_frozen BK133.out 2
       have hfz26_3:=blk_frozen BK133.out 3
       go_wp2_with (first|(go_at_call 19;(with_reducible refine (coppicerref_Bit.calls t139 a0_2 t142 _ A24.out).mono ?_);rintro e w' ⟨rfl,⟨nd,rfl⟩⟩))
       go_meet
       case rel=>exact ⟨_,(!t142),(by first|rfl|(simp;done)|(simp [*];done)),H',⟨by first|omega|exact Nat.le_refl _⟩,⟨by (with_reducible repeat (first|apply Kd.V_alloc|apply Kd.V_drewN|apply Kd.V_drew));exact Kd.V_mono HO0_3.out (fun _ hk=>⟨hk.1.1,⟨hk.1.2,hk.2⟩⟩)⟩,⟨by (with_reducible repeat (first|apply Kd.V_alloc|apply Kd.V_drewN|apply Kd.V_drew));exact Kd.V_mono HO1_1.out (fun _ hk=>⟨hk.1.1,⟨hk.1.2,hk.2⟩⟩)⟩,⟨by (with_reducible repeat (first|refine blk_drewN ?_ _|refine blk_drew ?_|refine blk_alloc ?_ _));exact BK133.out⟩,⟨by (with_reducible repeat (first|refine blk_drewN ?_ _|refine blk_drew ?_|refine blk_alloc ?_ _));exact BK134.out⟩,⟨by repeat (first|(with_reducible first|exact HB.out|apply below_alloc|apply pw_below_drewN|apply below_drew1|refine below_set ?_ GE133.out|refine below_set ?_ GE134.out)|exact HB.out)⟩⟩
      ·rw [if_neg c23] at H
       have c23b0 : ((Go.bits .andNot .u32 t137 t135) == 0) = false:=beq_eq_false_iff_ne.mpr c23
       have c23b1 : ((Go.bits .andNot .u32 t137 t135) != 0) = true:=bne_iff_ne.mpr c23
       have H':=Aside0.mk H
       clear H
       go_wp2
       go_meet
       case rel=>exact ⟨_,(true),(by first|rfl|(simp;done)|(simp [*];done)),H',⟨by first|omega|exact Nat.le_refl _⟩,⟨by (with_reducible repeat (first|apply Kd.V_alloc|apply Kd.V_drewN|apply Kd.V_drew));exact Kd.V_mono HO0_3.out (fun _ hk=>⟨hk.1.1,⟨hk.1.2,hk.2⟩⟩)⟩,⟨by (with_reducible repeat (first|apply Kd.V_alloc|apply Kd.V_drewN|apply Kd.V_drew));exact Kd.V_mono HO1_1.out (fun _ hk=>⟨hk.1.1,⟨hk.1.2,hk.2⟩⟩)⟩,⟨by (with_reducible repeat (first|refine blk_drewN ?_ _|refine blk_drew ?_|refine blk_alloc ?_ _));exact BK133.out⟩,⟨by (with_reducible repeat (first|refine blk_drewN ?_ _|refine blk_drew ?_|refine blk_alloc ?_ _));exact BK134.out⟩,⟨by repeat (first|(with_reducible first|exact HB.out|apply below_alloc|apply pw_below_drewN|apply below_drew1|refine below_set ?_ GE133.out|refine below_set ?_ GE134.out)|exact HB.out)⟩⟩
     ·rw [if_neg c22] at H
      have c22b0 : (t140 == 0) = false:=beq_eq_false_iff_ne.mpr c22
      have c22b1 : (t140 != 0) = true:=bne_iff_ne.mpr c22
      have H':=Aside0.mk H
      clear H
      go_wp2
      go_meet
      case rel=>exact ⟨_,(true),(by first|rfl|(simp;done)|(simp [*];done)),H',⟨by first|omega|exact Nat.le_refl _⟩,⟨by (with_reducible repeat (first|apply Kd.V_alloc|apply Kd.V_drewN|apply Kd.V_drew));exact Kd.V_mono HO0_3.out (fun _ hk=>⟨hk.1.1,⟨hk.1.2,hk.2⟩⟩)⟩,⟨by (with_reducible repeat (first|apply Kd.V_alloc|apply Kd.V_drewN|apply Kd.V_drew));exact Kd.V_mono HO1_1.out (fun _ hk=>⟨hk.1.1,⟨hk.1.2,hk.2⟩⟩)⟩,⟨by (with_reducible repeat (first|refine blk_drewN ?_ _|refine blk_drew ?_|refine blk_alloc ?_ _));exact BK133.out⟩,⟨by (with_reducible repeat (first|refine blk_drewN ?_ _|refine blk_drew ?_|refine blk_alloc ?_ _));exact BK134.out⟩,⟨by repeat (first|(with_reducible first|exact HB.out|apply below_alloc|apply pw_below_drewN|apply below_drew1|refine below_set ?_ GE133.out|refine below_set ?_ GE134.out)|exact HB.out)⟩⟩
    ·rw [if_neg c21] at H
     have c21b0 : (t138 == 0) = false:=beq_eq_false_iff_ne.mpr c21
     have c21b1 : (t138 != 0) = true:=bne_iff_ne.mpr c21
     have H':=Aside0.mk H
     clear H
     go_wp2
     go_meet
     case rel=>exact ⟨_,(true),(by first|rfl|(simp;done)|(simp [*];done)),H',⟨by first|omega|exact Nat.le_refl _⟩,⟨by (with_reducible repeat (first|apply Kd.V_alloc|apply Kd.V_drewN|apply Kd.V_drew));exact Kd.V_mono HO0_3.out (fun _ hk=>⟨hk.1.1,⟨hk.1.2,hk.2⟩⟩)⟩,⟨by (with_reducible repeat (first|apply Kd.V_alloc|apply Kd.V_drewN|apply Kd.V_drew));exact Kd.V_mono HO1_1.out (fun _ hk=>⟨hk.1.1,⟨hk.1.2,hk.2⟩⟩)⟩,⟨by (with_reducible repeat (first|refine blk_drewN ?_ _|refine blk_drew ?_|refine blk_alloc ?_ _));exact BK133.out⟩,⟨by (with_reducible repeat (first|refine blk_drewN ?_ _|refine blk_drew ?_|refine blk_alloc ?_ _));exact BK134.out⟩,⟨by repeat (first|(with_reducible first|exact HB.out|apply below_alloc|apply pw_below_drewN|apply below_drew1|refine below_set ?_ GE133.out|refine below_set ?_ GE134.out)|exact HB.out)⟩⟩
   ·rw [if_neg c20] at H
    have c20b0 : (t136 == 0) = false:=beq_eq_false_iff_ne.mpr c20
    have c20b1 : (t136 != 0) = true:=bne_iff_ne.mpr c20
    (first|rw [c20b0]|(simp only [i64_w,i32_w];rw [c20b0])|skip)
    have H':=Aside0.mk H
    clear H
    go_wp2
    go_meet
    case rel=>exact ⟨_,(true),(by first|rfl|(simp;done)|(simp [*];done)),H',⟨by first|omega|exact Nat.le_refl _⟩,⟨by (with_reducible repeat (first|apply Kd.V_alloc|apply Kd.V_drewN|apply Kd.V_drew));exact Kd.V_mono HO0_3.out (fun _ hk=>⟨hk.1.1,⟨hk.1.2,hk.2⟩⟩)⟩,⟨by (with_reducible repeat (first|apply Kd.V_alloc|apply Kd.V_drewN|apply Kd.V_drew));exact Kd.V_mono HO1_1.out (fun _ hk=>⟨hk.1.1,⟨hk.1.2,hk.2⟩⟩)⟩,⟨by (with_reducible repeat (first|refine blk_drewN ?_ _|refine blk_drew ?_|refine blk_alloc ?_ _));exact BK133.out⟩,⟨by (with_reducible repeat (first|refine blk_drewN ?_ _|refine blk_drew ?_|refine blk_alloc ?_ _));exact BK134.out⟩,⟨by repeat (first|(with_reducible first|exact HB.out|apply below_alloc|apply pw_below_drewN|apply below_drew1|refine below_set ?_ GE133.out|refine below_set ?_ GE134.out)|exact HB.out)⟩⟩
  case rest =>
   clear HC8
   try clear c1
   try clear c2
   try clear p2
   try clear c3
   try clear c7
   try clear c7b0
   try clear c7b1
   try clear c11
   try clear c15
   try clear c16
   try clear c17
   try clear c18
   try clear c20
   try clear c20b0
   try clear c20b1
   try clear c21
   try clear c21b0
   try clear c21b1
   try clear c22
   try clear c22b0
   try clear c22b1
   try clear c23
   try clear c23b0
   try clear c23b1
   try clear c25
   try clear hcz12_0
   try clear hcz12_1
   try clear hcz12_2
   try clear hcz12_3
   try clear hcz14_0
   try clear hcz14_1
   try clear hcz14_2
   try clear hcz14_3
   try clear hcz16_0
   try clear hcz16_1
   try clear hcz16_2
   try clear hcz16_3
   try clear hcz18_0
   try clear hcz18_1
   try clear hcz18_2
   try clear hcz18_3
   try clear hcz26_0
   try clear hcz26_1
   try clear hcz26_2
   try clear hcz26_3
   try clear hfz12_0
   try clear hfz12_1
   try clear hfz12_2
   try clear hfz12_3
   try clear hfz14_0
   try clear hfz14_1
   try clear hfz14_2
   try clear hfz14_3
   try clear hfz16_0
   try clear hfz16_1
   try clear hfz16_2
   try clear hfz16_3
   try clear hfz18_0
   try clear hfz18_1
   try clear hfz18_2
   try clear hfz18_3
   try clear hfz26_0
   try clear hfz26_1
   try clear hfz26_2
   try clear hfz26_3
   obtain ⟨kq,x65_7,rfl,HA,HJ7,HO_134003,HO_135001,BK133,BK134,HB⟩:=hcut
   cases kq with
   | zero=>exact absurd HA.out (by simp [coppicerkeep_GrammarSets.j1])
   | succ kj7 =>
    have H:=HA.out
    clear HA
    simp only [coppicerkeep_GrammarSets.j1] at H
    by_cases c27 : x65_7 = true
    ·subst c27
     have H1 : (some false) = some r:=by rw [if_pos rfl] at H;exact H
     clear H
     have H:=H1
     clear H1
     obtain rfl:=Option.some.inj H
     go_wp2
     go_ret
     exact ⟨by first|rfl|(simp [errW_none,errW_some] <;> rfl)|(simp [*,errW_none,errW_some] <;> rfl),by repeat (first|(with_reducible first|exact HB.out|apply below_alloc|apply pw_below_drewN|apply below_drew1|refine below_set ?_ GE133.out|refine below_set ?_ GE134.out)|exact HB.out)⟩
    ·replace c27:=Bool.eq_false_iff.mpr c27
     subst c27
     have H1 : ((some (([] : List (S27)) : List (S27))).bind fun y144=>(if y144.length + l0_3.length < 4398046511104 then ((some (y144 ++ l0_3 : List (S27))).bind fun y147=>((some (([(⟨a1_0,l1_1⟩ : S27)] : List (S27)) : List (S27))).bind fun y150=>(if y147.length + y150.length < 4398046511104 then ((some (y147 ++ y150 : List (S27))).bind fun y153=>((grammar_Makes.f kj7 a0_0 a0_1 a0_2 y153).bind fun bt156=>((grammar_Void.f kj7 a0_0 a0_1 a0_2 y153).bind fun bt158=>((grammar_Comes.f kj7 a0_0 a0_1 a0_2 y153).bind fun bt160=>((coppicerref_GrammarCheck.f kj7 a0_0 a0_1 a0_2 y153).bind fun t162=>(if t162 = 0 then (if bt156.2 = 0 then (if bt158.2 = 0 then (if bt160.2 = 0 then (if (Go.bits .andNot .u32 t135 bt156.1) = 0 then (if (Go.bits .andNot .u32 t137 bt158.1) = 0 then (coppicerkeep_GrammarSets.j3 kj7 ((Go.bits .andNot .u32 t139 bt160.1) == 0)) else (coppicerkeep_GrammarSets.j3 kj7 false)) else (coppicerkeep_GrammarSets.j3 kj7 false)) else (coppicerkeep_GrammarSets.j3 kj7 false)) else (coppicerkeep_GrammarSets.j3 kj7 false)) else (coppicerkeep_GrammarSets.j3 kj7 false)) else (if bt156.2 = 0 then (coppicerkeep_GrammarSets.j2 kj7 false) else (if bt158.2 = 0 then (coppicerkeep_GrammarSets.j2 kj7 false) else (coppicerkeep_GrammarSets.j2 kj7 (bt160.2 != 0)))))))))) else (none)))) else (none))) = some r:=by rw [if_neg (show ¬ (false = true) by decide)] at H;exact H
     clear H
     have H:=H1
     clear H1
     obtain ⟨y144,hy144⟩ : ∃ y_ : List (S27),y_ = (([] : List (S27))):=⟨_,rfl⟩
     replace H : (if y144.length + l0_3.length < 4398046511104 then ((some (y144 ++ l0_3 : List (S27))).bind fun y147=>((some (([(⟨a1_0,l1_1⟩ : S27)] : List (S27)) : List (S27))).bind fun y150=>(if y147.length + y150.length < 4398046511104 then ((some (y147 ++ y150 : List (S27))).bind fun y153=>((grammar_Makes.f kj7 a0_0 a0_1 a0_2 y153).bind fun bt156=>((grammar_Void.f kj7 a0_0 a0_1 a0_2 y153).bind fun bt158=>((grammar_Comes.f kj7 a0_0 a0_1 a0_2 y153).bind fun bt160=>((coppicerref_GrammarCheck.f kj7 a0_0 a0_1 a0_2 y153).bind fun t162=>(if t162 = 0 then (if bt156.2 = 0 then (if bt158.2 = 0 then (if bt160.2 = 0 then (if (Go.bits .andNot .u32 t135 bt156.1) = 0 then (if (Go.bits .andNot .u32 t137 bt158.1) = 0 then (coppicerkeep_GrammarSets.j3 kj7 ((Go.bits .andNot .u32 t139 bt160.1) == 0)) else (coppicerkeep_GrammarSets.j3 kj7 false)) else (coppicerkeep_GrammarSets.j3 kj7 false)) else (coppicerkeep_GrammarSets.j3 kj7 false)) else (coppicerkeep_GrammarSets.j3 kj7 false)) else (coppicerkeep_GrammarSets.j3 kj7 false)) else (if bt156.2 = 0 then (coppicerkeep_GrammarSets.j2 kj7 false) else (if bt158.2 = 0 then (coppicerkeep_GrammarSets.j2 kj7 false) else (coppicerkeep_GrammarSets.j2 kj7 (bt160.2 != 0)))))))))) else (none)))) else (none)) = some r:=by first|(rw [hy144];with_reducible exact H)|(have H2_:=(Option.bind_some _ _).symm.trans H;rw [hy144];with_reducible exact H2_)|(have H2_:=(Option.bind_some _ _).symm.trans H;with_reducible exact H2_)|with_reducible exact H|(rw [hy144];exact H)|exact H
     have Ny144:=Aside0.mk hy144
     clear hy144
     by_cases c28 : y144.length + l0_3.length < 4398046511104
     ·rw [if_pos c28] at H
      have LMc28:=Aside0.mk c28
      clear c28
      obtain ⟨y147,hy147⟩ : ∃ y_ : List (S27),y_ = (y144 ++ l0_3):=⟨_,rfl⟩
      replace H : ((some (([(⟨a1_0,l1_1⟩ : S27)] : List (S27)) : List (S27))).bind fun y150=>(if y147.length + y150.length < 4398046511104 then ((some (y147 ++ y150 : List (S27))).bind fun y153=>((grammar_Makes.f kj7 a0_0 a0_1 a0_2 y153).bind fun bt156=>((grammar_Void.f kj7 a0_0 a0_1 a0_2 y153).bind fun bt158=>((grammar_Comes.f kj7 a0_0 a0_1 a0_2 y153).bind fun bt160=>((coppicerref_GrammarCheck.f kj7 a0_0 a0_1 a0_2 y153).bind fun t162=>(if t162 = 0 then (if bt156.2 = 0 then (if bt158.2 = 0 then (if bt160.2 = 0 then (if (Go.bits .andNot .u32 t135 bt156.1) = 0 then (if (Go.bits .andNot .u32 t137 bt158.1) = 0 then (coppicerkeep_GrammarSets.j3 kj7 ((Go.bits .andNot .u32 t139 bt160.1) == 0)) else (coppicerkeep_GrammarSets.j3 kj7 false)) else (coppicerkeep_GrammarSets.j3 kj7 false)) else (coppicerkeep_GrammarSets.j3 kj7 false)) else (coppicerkeep_GrammarSets.j3 kj7 false)) else (coppicerkeep_GrammarSets.j3 kj7 false)) else (if bt156.2 = 0 then (coppicerkeep_GrammarSets.j2 kj7 false) else (if bt158.2 = 0 then (coppicerkeep_GrammarSets.j2 kj7 false) else (coppicerkeep_GrammarSets.j2 kj7 (bt160.2 != 0)))))))))) else (none))) = some r:=by first|(rw [hy147];with_reducible exact H)|(have H2_:=(Option.bind_some _ _).symm.trans H;rw [hy147];with_reducible exact H2_)|(have H2_:=(Option.bind_some _ _).symm.trans H;with_reducible exact H2_)|with_reducible exact H|(rw [hy147];exact H)|exact H
      have Ny147:=Aside0.mk hy147
      clear hy147
      obtain ⟨y150,hy150⟩ : ∃ y_ : List (S27),y_ = (([(⟨a1_0,l1_1⟩ : S27)] : List (S27))):=⟨_,rfl⟩
      replace H : (if y147.length + y150.length < 4398046511104 then ((some (y147 ++ y150 : List (S27))).bind fun y153=>((grammar_Makes.f kj7 a0_0 a0_1 a0_2 y153).bind fun bt156=>((grammar_Void.f kj7 a0_0 a0_1 a0_2 y153).bind fun bt158=>((grammar_Comes.f kj7 a0_0 a0_1 a0_2 y153).bind fun bt160=>((coppicerref_GrammarCheck.f kj7 a0_0 a0_1 a0_2 y153).bind fun t162=>(if t162 = 0 then (if bt156.2 = 0 then (if bt158.2 = 0 then (if bt160.2 = 0 then (if (Go.bits .andNot .u32 t135 bt156.1) = 0 then (if (Go.bits .andNot .u32 t137 bt158.1) = 0 then (coppicerkeep_GrammarSets.j3 kj7 ((Go.bits .andNot .u32 t139 bt160.1) == 0)) else (coppicerkeep_GrammarSets.j3 kj7 false)) else (coppicerkeep_GrammarSets.j3 kj7 false)) else (coppicerkeep_GrammarSets.j3 kj7 false)) else (coppicerkeep_GrammarSets.j3 kj7 false)) else (coppicerkeep_GrammarSets.j3 kj7 false)) else (if bt156.2 = 0 then (coppicerkeep_GrammarSets.j2 kj7 false) else (if bt158.2 = 0 then (coppicerkeep_GrammarSets.j2 kj7 false) else (coppicerkeep_GrammarSets.j2 kj7 (bt160.2 != 0)))))))))) else (none)) = some r:=by first|(rw [hy150];with_reducible exact H)|(have H2_:=(Option.bind_some _ _).symm.trans H;rw [hy150];with_reducible exact H2_)|(have H2_:=(Option.bind_some _ _).symm.trans H;with_reducible exact H2_)|with_reducible exact H|(rw [hy150];exact H)|exact H
      have Ny150:=Aside0.mk hy150
      clear hy150
      by_cases c29 : y147.length + y150.length < 4398046511104
      ·rw [if_pos c29] at H
       have LMc29:=Aside0.mk c29
       clear c29
       obtain ⟨y153,hy153⟩ : ∃ y_ : List (S27),y_ = (y147 ++ y150):=⟨_,rfl⟩
       replace H : ((grammar_Makes.f kj7 a0_0 a0_1 a0_2 y153).bind fun bt156=>((grammar_Void.f kj7 a0_0 a0_1 a0_2 y153).bind fun bt158=>((grammar_Comes.f kj7 a0_0 a0_1 a0_2 y153).bind fun bt160=>((coppicerref_GrammarCheck.f kj7 a0_0 a0_1 a0_2 y153).bind fun t162=>(if t162 = 0 then (if bt156.2 = 0 then (if bt158.2 = 0 then (if bt160.2 = 0 then (if (Go.bits .andNot .u32 t135 bt156.1) = 0 then (if (Go.bits .andNot .u32 t137 bt158.1) = 0 then (coppicerkeep_GrammarSets.j3 kj7 ((Go.bits .andNot .u32 t139 bt160.1) == 0)) else (coppicerkeep_GrammarSets.j3 kj7 false)) else (coppicerkeep_GrammarSets.j3 kj7 false)) else (coppicerkeep_GrammarSets.j3 kj7 false)) else (coppicerkeep_GrammarSets.j3 kj7 false)) else (coppicerkeep_GrammarSets.j3 kj7 false)) else (if bt156.2 = 0 then (coppicerkeep_GrammarSets.j2 kj7 false) else (if bt158.2 = 0 then (coppicerkeep_GrammarSets.j2 kj7 false) else (coppicerkeep_GrammarSets.j2 kj7 (bt160.2 != 0))))))))) = some r:=by first|(rw [hy153];with_reducible exact H)|(have H2_:=(Option.bind_some _ _).symm.trans H;rw [hy153];with_reducible exact H2_)|(have H2_:=(Option.bind_some _ _).symm.trans H;with_reducible exact H2_)|with_reducible exact H|(rw [hy153];exact H)|exact H
       have Ny153:=Aside0.mk hy153
       clear hy153
       replace H:=Option.bind_eq_some_iff.mp H
       obtain ⟨⟨t156,t157⟩,A300,H⟩:=H
       replace H : ((grammar_Void.f kj7 a0_0 a0_1 a0_2 y153).bind fun bt158=>((grammar_Comes.f kj7 a0_0 a0_1 a0_2 y153).bind fun bt160=>((coppicerref_GrammarCheck.f kj7 a0_0 a0_1 a0_2 y153).bind fun t162=>(if t162 = 0 then (if t157 = 0 then (if bt158.2 = 0 then (if bt160.2 = 0 then (if (Go.bits .andNot .u32 t135 t156) = 0 then (if (Go.bits .andNot .u32 t137 bt158.1) = 0 then (coppicerkeep_GrammarSets.j3 kj7 ((Go.bits .andNot .u32 t139 bt160.1) == 0)) else (coppicerkeep_GrammarSets.j3 kj7 false)) else (coppicerkeep_GrammarSets.j3 kj7 false)) else (coppicerkeep_GrammarSets.j3 kj7 false)) else (coppicerkeep_GrammarSets.j3 kj7 false)) else (coppicerkeep_GrammarSets.j3 kj7 false)) else (if t157 = 0 then (coppicerkeep_GrammarSets.j2 kj7 false) else (if bt158.2 = 0 then (coppicerkeep_GrammarSets.j2 kj7 false) else (coppicerkeep_GrammarSets.j2 kj7 (bt160.2 != 0)))))))) = some r:=H
       have A30:=Aside0.mk A300
       clear A300
       replace H:=Option.bind_eq_some_iff.mp H
       obtain ⟨⟨t158,t159⟩,A310,H⟩:=H
       replace H : ((grammar_Comes.f kj7 a0_0 a0_1 a0_2 y153).bind fun bt160=>((coppicerref_GrammarCheck.f kj7 a0_0 a0_1 a0_2 y153).bind fun t162=>(if t162 = 0 then (if t157 = 0 then (if t159 = 0 then (if bt160.2 = 0 then (if (Go.bits .andNot .u32 t135 t156) = 0 then (if (Go.bits .andNot .u32 t137 t158) = 0 then (coppicerkeep_GrammarSets.j3 kj7 ((Go.bits .andNot .u32 t139 bt160.1) == 0)) else (coppicerkeep_GrammarSets.j3 kj7 false)) else (coppicerkeep_GrammarSets.j3 kj7 false)) else (coppicerkeep_GrammarSets.j3 kj7 false)) else (coppicerkeep_GrammarSets.j3 kj7 false)) else (coppicerkeep_GrammarSets.j3 kj7 false)) else (if t157 = 0 then (coppicerkeep_GrammarSets.j2 kj7 false) else (if t159 = 0 then (coppicerkeep_GrammarSets.j2 kj7 false) else (coppicerkeep_GrammarSets.j2 kj7 (bt160.2 != 0))))))) = some r:=H
       have A31:=Aside0.mk A310
       clear A310
       replace H:=Option.bind_eq_some_iff.mp H
       obtain ⟨⟨t160,t161⟩,A320,H⟩:=H
       replace H : ((coppicerref_GrammarCheck.f kj7 a0_0 a0_1 a0_2 y153).bind fun t162=>(if t162 = 0 then (if t157 = 0 then (if t159 = 0 then (if t161 = 0 then (if (Go.bits .andNot .u32 t135 t156) = 0 then (if (Go.bits .andNot .u32 t137 t158) = 0 then (coppicerkeep_GrammarSets.j3 kj7 ((Go.bits .andNot .u32 t139 t160) == 0)) else (coppicerkeep_GrammarSets.j3 kj7 false)) else (coppicerkeep_GrammarSets.j3 kj7 false)) else (coppicerkeep_GrammarSets.j3 kj7 false)) else (coppicerkeep_GrammarSets.j3 kj7 false)) else (coppicerkeep_GrammarSets.j3 kj7 false)) else (if t157 = 0 then (coppicerkeep_GrammarSets.j2 kj7 false) else (if t159 = 0 then (coppicerkeep_GrammarSets.j2 kj7 false) else (coppicerkeep_GrammarSets.j2 kj7 (t161 != 0)))))) = some r:=H
       have A32:=Aside0.mk A320
       clear A320
       replace H:=Option.bind_eq_some_iff.mp H
       obtain ⟨t162,A330,H⟩:=H
       replace H : (if t162 = 0 then (if t157 = 0 then (if t159 = 0 then (if t161 = 0 then (if (Go.bits .andNot .u32 t135 t156) = 0 then (if (Go.bits .andNot .u32 t137 t158) = 0 then (coppicerkeep_GrammarSets.j3 kj7 ((Go.bits .andNot .u32 t139 t160) == 0)) else (coppicerkeep_GrammarSets.j3 kj7 false)) else (coppicerkeep_GrammarSets.j3 kj7 false)) else (coppicerkeep_GrammarSets.j3 kj7 false)) else (coppicerkeep_GrammarSets.j3 kj7 false)) else (coppicerkeep_GrammarSets.j3 kj7 false)) else (if t157 = 0 then (coppicerkeep_GrammarSets.j2 kj7 false) else (if t159 = 0 then (coppicerkeep_GrammarSets.j2 kj7 false) else (coppicerkeep_GrammarSets.j2 kj7 (t161 != 0))))) = some r:=H
       have A33:=Aside0.mk A330
       clear A330
       by_cases c34 : t162 = 0
       ·rw [if_pos c34] at H
        have c34b0 : (t162 == 0) = true:=beq_iff_eq.mpr c34
        have c34b1 : (t162 != 0) = false:=bne_eq_false_iff_eq.mpr c34
        clear c34
        have HC35:=Aside0.mk H
        clear H
        have hnb36:=NB133_134.out
        have hnc36:=NB134_133.out
        have hcz37_0 : wc.cell? ⟨gb133,0,none⟩ = some (.int .i64 a0_0):=(blk_cell BK133.out 0).trans rfl
        have hcz37_1 : wc.cell? ⟨gb133,1,none⟩ = some (.int .i64 a0_1):=(blk_cell BK133.out 1).trans rfl
        have hcz37_2 : wc.cell? ⟨gb133,2,none⟩ = some (.int .i64 a0_2):=(blk_cell BK133.out 2).trans rfl
        have hcz37_3 : wc.cell? ⟨gb133,3,none⟩ = some (.slice A0_3 l0_3.length c0_3):=(blk_cell BK133.out 3).trans rfl
        have hfz37_0:=blk_frozen BK133.out 0
        have hfz37_1:=blk_frozen BK133.out 1
        have hfz37_2:=blk_frozen BK133.out 2
        have hfz37_3:=blk_frozen BK133.out 3
        try go_wp2_with (first|((with_reducible refine gate_dst (N:=11) rfl ?_);refine box_event ?hg (N:=11) ?hd (cs:=#[.int .i64 0,.int .i64 0,.int .i64 0,.slice none 0 0]) (t:=24) ?hr ?_;(case hd=>rfl);(case hg=>rfl);(case hr=>first|(go_simp;done)|(go_simp;rfl));intro gb143 hg w38 hbox hb;have n0_:=Aside0.mk (Kd.V_below (Kd.V_elderB (by (with_reducible repeat (first|apply Kd.V_alloc|apply Kd.V_drewN|apply Kd.V_drew));exact HO_134003.out) gb143 (Nat.le_of_eq hg.symm)) hb);have n1_:=Aside0.mk (Kd.V_below (Kd.V_elderB (by (with_reducible repeat (first|apply Kd.V_alloc|apply Kd.V_drewN|apply Kd.V_drew));exact HO_135001.out) gb143 (Nat.le_of_eq hg.symm)) hb);have n2_:=Aside0.mk (blk_below (g:=gb133) (o:=.cells #[.int .i64 a0_0,.int .i64 a0_1,.int .i64 a0_2,.slice A0_3 l0_3.length c0_3] 24 (0,0)) (by (with_reducible repeat (first|refine blk_drewN ?_ _|refine blk_drew ?_|refine blk_alloc ?_ _));exact BK133.out) hb);have n3_:=Aside0.mk (blk_below (g:=gb134) (o:=.cells #[.int .i64 a1_0,.slice A1_1 l1_1.length c1_1] 27 (0,0)) (by (with_reducible repeat (first|refine blk_drewN ?_ _|refine blk_drew ?_|refine blk_alloc ?_ _));exact BK134.out) hb);have n4_:=Aside0.mk (below_step (by repeat (first|(with_reducible first|exact HB.out|apply below_alloc|apply pw_below_drewN|apply below_drew1|refine below_set ?_ GE133.out|refine below_set ?_ GE134.out)|exact HB.out)) hb);have n5_:=Aside0.mk (hbox);have n6_:=Aside0.mk ((by rw [hg];exact (below_size (by repeat (first|(with_reducible first|exact HB.out|apply below_alloc|apply pw_below_drewN|apply below_drew1|refine below_set ?_ GE133.out|refine below_set ?_ GE134.out)|exact HB.out))) : w.heap.size ≤ gb143));have n7_:=Aside0.mk ((by rw [hg];exact (below_size (by repeat (first|(with_reducible first|exact HB.out|apply below_alloc|apply pw_below_drewN|apply below_drew1|refine below_set ?_ GE133.out|refine below_set ?_ GE134.out)|exact HB.out))) : w.heap.size ≤ gb143));have n8_:=Aside0.mk ((by rw [hg];exact Nat.ne_of_lt (blk_lt (g:=gb133) (o:=.cells #[.int .i64 a0_0,.int .i64 a0_1,.int .i64 a0_2,.slice A0_3 l0_3.length c0_3] 24 (0,0)) (by (with_reducible repeat (first|refine blk_drewN ?_ _|refine blk_drew ?_|refine blk_alloc ?_ _));exact BK133.out)) : gb133 ≠ gb143));have n9_:=Aside0.mk ((by rw [hg];exact Nat.ne_of_gt (blk_lt (g:=gb133) (o:=.cells #[.int .i64 a0_0,.int .i64 a0_1,.int .i64 a0_2,.slice A0_3 l0_3.length c0_3] 24 (0,0)) (by (with_reducible repeat (first|refine blk_drewN ?_ _|refine blk_drew ?_|refine blk_alloc ?_ _));exact BK133.out)) : gb143 ≠ gb133));have n10_:=Aside0.mk ((by rw [hg];exact Nat.ne_of_lt (blk_lt (g:=gb134) (o:=.cells #[.int .i64 a1_0,.slice A1_1 l1_1.length c1_1] 27 (0,0)) (by (with_reducible repeat (first|refine blk_drewN ?_ _|refine blk_drew ?_|refine blk_alloc ?_ _));exact BK134.out)) : gb134 ≠ gb143));have n11_:=Aside0.mk ((by rw [hg];exact Nat.ne_of_gt (blk_lt (g:=gb134) (o:=.cells #[.int .i64 a1_0,.slice A1_1 l1_1.length c1_1] 27 (0,0)) (by (with_reducible repeat (first|refine blk_drewN ?_ _|refine blk_drew ?_|refine blk_alloc ?_ _));exact BK134.out)) : gb143 ≠ gb134));clear HO_134003;clear HO_135001;clear BK133;clear BK134;clear HB;have HO_134003:=n0_;have HO_135001:=n1_;have BK133:=n2_;have BK134:=n3_;have HB:=n4_;have BK143:=n5_;have GW143:=n6_;have GE143:=n7_;have NB133_143:=n8_;have NB143_133:=n9_;have NB134_143:=n10_;have NB143_134:=n11_;clear n0_ n1_ n2_ n3_ n4_ n5_ n6_ n7_ n8_ n9_ n10_ n11_;clear hb hbox hg;have hnb39:=NB143_133.out;have hnc39:=NB133_143.out;have hnb40:=NB143_134.out;have hnc40:=NB134_143.out;have hcz41_0 : w38.cell? ⟨gb143,0,none⟩ = some (.int .i64 0):=(blk_cell BK143.out 0).trans rfl;have hcz41_1 : w38.cell? ⟨gb143,1,none⟩ = some (.int .i64 0):=(blk_cell BK143.out 1).trans rfl;have hcz41_2 : w38.cell? ⟨gb143,2,none⟩ = some (.int .i64 0):=(blk_cell BK143.out 2).trans rfl;have hcz41_3 : w38.cell? ⟨gb143,3,none⟩ = some (.slice none 0 0):=(blk_cell BK143.out 3).trans rfl;have hfz41_0:=blk_frozen BK143.out 0;have hfz41_1:=blk_frozen BK143.out 1;have hfz41_2:=blk_frozen BK143.out 2;have hfz41_3:=blk_frozen BK143.out 3))
        have n0_ : Aside0 (Kd.V k27 27 ((((w38.setCell ⟨gb143,0,none⟩ (.int .i64 a0_0)).setCell ⟨gb143,1,none⟩ (.int .i64 a0_1)).setCell ⟨gb143,2,none⟩ (.int .i64 a0_2)).setCell ⟨gb143,3,none⟩ (.slice A0_3 l0_3.length c0_3)) w.heap.size (fun k_=>((P0_3_ k_ ∨ P1_1_ k_) ∨ w.heap.size ≤ k_) ∧ k_ ≠ gb133 ∧ k_ ≠ gb134 ∧ k_ ≠ gb143) (.slice A0_3 l0_3.length c0_3) l0_3):=⟨by (with_reducible repeat (first|apply Kd.V_alloc|apply Kd.V_drewN|apply Kd.V_drew));exact Kd.V_mono (Kd.V_far (p:=⟨gb143,3,none⟩) (Kd.V_far (p:=⟨gb143,2,none⟩) (Kd.V_far (p:=⟨gb143,1,none⟩) (Kd.V_far (p:=⟨gb143,0,none⟩) (Kd.V_mono HO_134003.out (fun k_ hk=>(⟨hk,hk.2⟩ : _ ∧ k_ ≠ gb143))) (fun _ hk=>hk.2) (.int .i64 a0_0)) (fun _ hk=>hk.2) (.int .i64 a0_1)) (fun _ hk=>hk.2) (.int .i64 a0_2)) (fun _ hk=>hk.2) (.slice A0_3 l0_3.length c0_3)) (fun _ hk=>⟨hk.1.1.1,⟨hk.1.1.2.1,⟨hk.1.1.2.2,hk.1.2⟩⟩⟩)⟩
        have n1_ : Aside0 (Kd.V (Kd.int .i64) 3 ((((w38.setCell ⟨gb143,0,none⟩ (.int .i64 a0_0)).setCell ⟨gb143,1,none⟩ (.int .i64 a0_1)).setCell ⟨gb143,2,none⟩ (.int .i64 a0_2)).setCell ⟨gb143,3,none⟩ (.slice A0_3 l0_3.length c0_3)) w.heap.size (fun k_=>((P0_3_ k_ ∨ P1_1_ k_) ∨ w.heap.size ≤ k_) ∧ k_ ≠ gb133 ∧ k_ ≠ gb134 ∧ k_ ≠ gb143) (.slice A1_1 l1_1.length c1_1) l1_1):=⟨by (with_reducible repeat (first|apply Kd.V_alloc|apply Kd.V_drewN|apply Kd.V_drew));exact Kd.V_mono (Kd.V_far (p:=⟨gb143,3,none⟩) (Kd.V_far (p:=⟨gb143,2,none⟩) (Kd.V_far (p:=⟨gb143,1,none⟩) (Kd.V_far (p:=⟨gb143,0,none⟩) (Kd.V_mono HO_135001.out (fun k_ hk=>(⟨hk,hk.2⟩ : _ ∧ k_ ≠ gb143))) (fun _ hk=>hk.2) (.int .i64 a0_0)) (fun _ hk=>hk.2) (.int .i64 a0_1)) (fun _ hk=>hk.2) (.int .i64 a0_2)) (fun _ hk=>hk.2) (.slice A0_3 l0_3.length c0_3)) (fun _ hk=>⟨hk.1.1.1,⟨hk.1.1.2.1,⟨hk.1.1.2.2,hk.1.2⟩⟩⟩)⟩
        have n2_ : Aside0 (((((w38.setCell ⟨gb143,0,none⟩ (.int .i64 a0_0)).setCell ⟨gb143,1,none⟩ (.int .i64 a0_1)).setCell ⟨gb143,2,none⟩ (.int .i64 a0_2)).setCell ⟨gb143,3,none⟩ (.slice A0_3 l0_3.length c0_3)).heap[gb133]? = some (.cells #[.int .i64 a0_0,.int .i64 a0_1,.int .i64 a0_2,.slice A0_3 l0_3.length c0_3] 24 (0,0))):=⟨by (with_reducible repeat (first|refine blk_drewN ?_ _|refine blk_drew ?_|refine blk_alloc ?_ _));refine blk_far ?_ NB133_143.out _;(with_reducible repeat (first|refine blk_drewN ?_ _|refine blk_drew ?_|refine blk_alloc ?_ _));refine blk_far ?_ NB133_143.out _;(with_reducible repeat (first|refine blk_drewN ?_ _|refine blk_drew ?_|refine blk_alloc ?_ _));refine blk_far ?_ NB133_143.out _;(with_reducible repeat (first|refine blk_drewN ?_ _|refine blk_drew ?_|refine blk_alloc ?_ _));refine blk_far ?_ NB133_143.out _;(with_reducible repeat (first|refine blk_drewN ?_ _|refine blk_drew ?_|refine blk_alloc ?_ _));exact BK133.out⟩
        have n3_ : Aside0 (((((w38.setCell ⟨gb143,0,none⟩ (.int .i64 a0_0)).setCell ⟨gb143,1,none⟩ (.int .i64 a0_1)).setCell ⟨gb143,2,none⟩ (.int .i64 a0_2)).setCell ⟨gb143,3,none⟩ (.slice A0_3 l0_3.length c0_3)).heap[gb134]? = some (.cells #[.int .i64 a1_0,.slice A1_1 l1_1.length c1_1] 27 (0,0))):=⟨by (with_reducible repeat (first|refine blk_drewN ?_ _|refine blk_drew ?_|refine blk_alloc ?_ _));refine blk_far ?_ NB134_143.out _;(with_reducible repeat (first|refine blk_drewN ?_ _|refine blk_drew ?_|refine blk_alloc ?_ _));refine blk_far ?_ NB134_143.out _;(with_reducible repeat (first|refine blk_drewN ?_ _|refine blk_drew ?_|refine blk_alloc ?_ _));refine blk_far ?_ NB134_143.out _;(with_reducible repeat (first|refine blk_drewN ?_ _|refine blk_drew ?_|refine blk_alloc ?_ _));refine blk_far ?_ NB134_143.out _;(with_reducible repeat (first|refine blk_drewN ?_ _|refine blk_drew ?_|refine blk_alloc ?_ _));exact BK134.out⟩
        have n4_ : Aside0 (((((w38.setCell ⟨gb143,0,none⟩ (.int .i64 a0_0)).setCell ⟨gb143,1,none⟩ (.int .i64 a0_1)).setCell ⟨gb143,2,none⟩ (.int .i64 a0_2)).setCell ⟨gb143,3,none⟩ (.slice A0_3 l0_3.length c0_3)).heap[gb143]? = some (.cells #[.int .i64 a0_0,.int .i64 a0_1,.int .i64 a0_2,.slice A0_3 l0_3.length c0_3] 24 (0,0))):=⟨by (with_reducible repeat (first|refine blk_drewN ?_ _|refine blk_drew ?_|refine blk_alloc ?_ _));refine blk_put (cs:=#[.int .i64 a0_0,.int .i64 a0_1,.int .i64 a0_2,.slice none 0 0]) ?_ 3 _ rfl;(with_reducible repeat (first|refine blk_drewN ?_ _|refine blk_drew ?_|refine blk_alloc ?_ _));refine blk_put (cs:=#[.int .i64 a0_0,.int .i64 a0_1,.int .i64 0,.slice none 0 0]) ?_ 2 _ rfl;(with_reducible repeat (first|refine blk_drewN ?_ _|refine blk_drew ?_|refine blk_alloc ?_ _));refine blk_put (cs:=#[.int .i64 a0_0,.int .i64 0,.int .i64 0,.slice none 0 0]) ?_ 1 _ rfl;(with_reducible repeat (first|refine blk_drewN ?_ _|refine blk_drew ?_|refine blk_alloc ?_ _));refine blk_put (cs:=#[.int .i64 0,.int .i64 0,.int .i64 0,.slice none 0 0]) ?_ 0 _ rfl;(with_reducible repeat (first|refine blk_drewN ?_ _|refine blk_drew ?_|refine blk_alloc ?_ _));exact BK143.out⟩
        have n5_ : Aside0 (Below w.heap.size w ((((w38.setCell ⟨gb143,0,none⟩ (.int .i64 a0_0)).setCell ⟨gb143,1,none⟩ (.int .i64 a0_1)).setCell ⟨gb143,2,none⟩ (.int .i64 a0_2)).setCell ⟨gb143,3,none⟩ (.slice A0_3 l0_3.length c0_3))):=⟨by repeat (first|(with_reducible first|exact HB.out|apply below_alloc|apply pw_below_drewN|apply below_drew1|refine below_set ?_ GE133.out|refine below_set ?_ GE134.out|refine below_set ?_ GE143.out)|exact HB.out)⟩
        (try clear HO_134003)
        (try clear HO_135001)
        (try clear BK133)
        (try clear BK134)
        (try clear BK143)
        (try clear HB)
        generalize ((((w38.setCell ⟨gb143,0,none⟩ (.int .i64 a0_0)).setCell ⟨gb143,1,none⟩ (.int .i64 a0_1)).setCell ⟨gb143,2,none⟩ (.int .i64 a0_2)).setCell ⟨gb143,3,none⟩ (.slice A0_3 l0_3.length c0_3)) = w42 at n0_ n1_ n2_ n3_ n4_ n5_ ⊢
        have HO_134003:=n0_
        have HO_135001:=n1_
        have BK133:=n2_
        have BK134:=n3_
        have BK143:=n4_
        have HB:=n5_
        clear n0_ n1_ n2_ n3_ n4_ n5_
        have n0_:=Aside0.mk (Kd.V_drew HO_134003.out)
        have n1_:=Aside0.mk (Kd.V_drew HO_135001.out)
        have n2_:=Aside0.mk (blk_drew BK133.out)
        have n3_:=Aside0.mk (blk_drew BK134.out)
        have n4_:=Aside0.mk (blk_drew BK143.out)
        have n5_:=Aside0.mk (below_drew1 HB.out)
        clear HO_134003
        clear HO_135001
        clear BK133
        clear BK134
        clear BK143
        clear HB
        have HO_134003:=n0_
        have HO_135001:=n1_
        have BK133:=n2_
        have BK134:=n3_
        have BK143:=n4_
        have HB:=n5_
        clear n0_ n1_ n2_ n3_ n4_ n5_
        refine start_ (n:=9) (S:=fun w'=>w'.cell? ⟨gb133,0,none⟩ = some (.int .i64 a0_0) ∧ w'.cell? ⟨gb133,1,none⟩ = some (.int .i64 a0_1) ∧ w'.cell? ⟨gb133,2,none⟩ = some (.int .i64 a0_2) ∧ w'.cell? ⟨gb133,3,none⟩ = some (.slice A0_3 l0_3.length c0_3) ∧ w'.cell? ⟨gb134,0,none⟩ = some (.int .i64 a1_0) ∧ w'.cell? ⟨gb134,1,none⟩ = some (.slice A1_1 l1_1.length c1_1)) (ds:=[]) #[false,false,false,false,false,false,false,false,false] (by kernel_rfl) rfl rfl ⟨(blk_cell BK133.out 0).trans rfl,(blk_cell BK133.out 1).trans rfl,(blk_cell BK133.out 2).trans rfl,(blk_cell BK133.out 3).trans rfl,(blk_cell BK134.out 0).trans rfl,(blk_cell BK134.out 1).trans rfl⟩ (fun hHeld=>?_);refine with_tabW coppicerkeep_GrammarSets.tab9 coppicerkeep_GrammarSets.bits9 (fun HT_ HW_=>?_)
        generalize w42.drew = w43 at HO_134003 HO_135001 BK133 BK134 BK143 HB hHeld ⊢
        refine pure_ (i:=1) (N:=some 68) (v:=?_) (a':=?_) #[false,true,false,false,false,false,false,false,false] rfl rfl (any_of HT_.out (by kernel_rfl)) (fun _ _ _ h=>h) (Or.inl ⟨by rfl,?_⟩) ?_ ?_
        rotate_left
        ·intro w'
         go_simp
         with_reducible rfl
        rotate_left
        ·simp only [Act.put,List.setIfInBounds_toArray,List.set_cons_zero,List.set_cons_succ,i64_w,i32_w]
         rfl
        refine take_ (i:=2) (N:=some 69) (v:=?_) (a':=?_) #[false,true,true,false,false,false,false,false,false] rfl rfl (take_ofW HT_.out HW_.out (by kernel_rfl)) (fun _ _ _ h=>h) (Or.inl ⟨by rfl,?_⟩) hHeld ?_ ?_
        rotate_left
        ·rintro w' ⟨s0,s1,s2,s3,s4,s5⟩
         go_simp
         with_reducible rfl
        rotate_left
        ·simp only [Act.put,List.setIfInBounds_toArray,List.set_cons_zero,List.set_cons_succ,i64_w,i32_w]
         rfl
        refine take_ (i:=4) (N:=some 71) (v:=?_) (a':=?_) #[false,true,true,false,true,false,false,false,false] rfl rfl (take_ofW HT_.out HW_.out (by kernel_rfl)) (fun _ _ _ h=>h) (Or.inl ⟨by rfl,?_⟩) hHeld ?_ ?_
        rotate_left
        ·rintro w' ⟨s0,s1,s2,s3,s4,s5⟩
         go_simp
         with_reducible rfl
        rotate_left
        ·simp only [Act.put,List.setIfInBounds_toArray,List.set_cons_zero,List.set_cons_succ,i64_w,i32_w]
         rfl
        refine join_ (σ:=Value × Value × Value) 3 #[true,true,true,true,true,true,false,false,false] (fun s_=>[(67,s_.1),(70,s_.2.1),(72,s_.2.2)]) (fun s_ w'=>(w'.cell? ⟨gb133,0,none⟩ = some (.int .i64 a0_0) ∧ w'.cell? ⟨gb133,1,none⟩ = some (.int .i64 a0_1) ∧ w'.cell? ⟨gb133,2,none⟩ = some (.int .i64 a0_2) ∧ w'.cell? ⟨gb133,3,none⟩ = some (.slice A0_3 l0_3.length c0_3) ∧ w'.cell? ⟨gb134,0,none⟩ = some (.int .i64 a1_0) ∧ w'.cell? ⟨gb134,1,none⟩ = some (.slice A1_1 l1_1.length c1_1)) ∧ (Kd.N k27 27 w' w.heap.size (fun k_=>((P0_3_ k_ ∨ P1_1_ k_) ∨ w.heap.size ≤ k_) ∧ some k_ ≠ (s_.2.2 : Value).ownBlock ∧ k_ ≠ gb133 ∧ k_ ≠ gb134 ∧ k_ ≠ gb143) s_.2.1 y147) ∧ (Kd.N k27 27 w' w.heap.size (fun k_=>((P0_3_ k_ ∨ P1_1_ k_) ∨ w.heap.size ≤ k_) ∧ some k_ ≠ (s_.2.1 : Value).ownBlock ∧ k_ ≠ gb133 ∧ k_ ≠ gb134 ∧ k_ ≠ gb143) s_.2.2 y150) ∧ (Kd.V k27 27 w' w.heap.size (fun k_=>((P0_3_ k_ ∨ P1_1_ k_) ∨ w.heap.size ≤ k_) ∧ some k_ ≠ (s_.2.1 : Value).ownBlock ∧ some k_ ≠ (s_.2.2 : Value).ownBlock ∧ k_ ≠ gb133 ∧ k_ ≠ gb134 ∧ k_ ≠ gb143) (.slice A0_3 l0_3.length c0_3) l0_3) ∧ (Kd.V (Kd.int .i64) 3 w' w.heap.size (fun k_=>((P0_3_ k_ ∨ P1_1_ k_) ∨ w.heap.size ≤ k_) ∧ some k_ ≠ (s_.2.1 : Value).ownBlock ∧ some k_ ≠ (s_.2.2 : Value).ownBlock ∧ k_ ≠ gb133 ∧ k_ ≠ gb134 ∧ k_ ≠ gb143) (.slice A1_1 l1_1.length c1_1) l1_1) ∧ (w'.heap[gb133]? = some (.cells #[.int .i64 a0_0,.int .i64 a0_1,.int .i64 a0_2,.slice A0_3 l0_3.length c0_3] 24 (0,0))) ∧ (w'.heap[gb134]? = some (.cells #[.int .i64 a1_0,.slice A1_1 l1_1.length c1_1] 27 (0,0))) ∧ (w'.heap[gb143]? = some (.cells #[.int .i64 a0_0,.int .i64 a0_1,.int .i64 a0_2,.slice A0_3 l0_3.length c0_3] 24 (0,0))) ∧ (Below w.heap.size w w')) ?_ ?_
        rotate_left
        ·intro hCont
         refine two_ (i:=0) (j:=5) (Ni:=some 67) (Nj:=some 72) #[true,true,true,false,true,false,false,false,false] #[false,true,true,false,true,true,false,false,false] rfl rfl rfl rfl (two_of HT_.out (by kernel_rfl)) (by decide) (by decide) (fun K hK=>?_) (fun K hK=>?_)
         ·skip
          refine Kd.N_lit_step k27 _ 27 ?hg (N':=67) ?hd (xs:=([] : List (S27))) (inner:=[]) (ok:=(fun k_=>((P0_3_ k_ ∨ P1_1_ k_) ∨ w.heap.size ≤ k_) ∧ k_ ≠ gb133 ∧ k_ ≠ gb134 ∧ k_ ≠ gb143)) (okp:=(fun k_=>((P0_3_ k_ ∨ P1_1_ k_) ∨ w.heap.size ≤ k_) ∧ k_ ≠ gb133 ∧ k_ ≠ gb134 ∧ k_ ≠ gb143)) ?hr ?hp (fun _ hk=>hk) ((show ∀ k_,w43.heap.size ≤ k_ → (fun k_=>((P0_3_ k_ ∨ P1_1_ k_) ∨ w.heap.size ≤ k_) ∧ k_ ≠ gb133 ∧ k_ ≠ gb134 ∧ k_ ≠ gb143) k_ from fun k_ hk=>⟨(.inr (Nat.le_trans (below_size (by repeat (first|(with_reducible first|exact HB.out|apply below_alloc|apply pw_below_drewN|apply below_drew1|refine below_set ?_ GE133.out|refine below_set ?_ GE134.out|refine below_set ?_ GE143.out)|exact HB.out))) hk)),Kd.freshB (g:=gb133) (o:=.cells #[.int .i64 a0_0,.int .i64 a0_1,.int .i64 a0_2,.slice A0_3 l0_3.length c0_3] 24 (0,0)) (by (with_reducible repeat (first|refine blk_drewN ?_ _|refine blk_drew ?_|refine blk_alloc ?_ _));exact BK133.out) k_ hk,Kd.freshB (g:=gb134) (o:=.cells #[.int .i64 a1_0,.slice A1_1 l1_1.length c1_1] 27 (0,0)) (by (with_reducible repeat (first|refine blk_drewN ?_ _|refine blk_drew ?_|refine blk_alloc ?_ _));exact BK134.out) k_ hk,Kd.freshB (g:=gb143) (o:=.cells #[.int .i64 a0_0,.int .i64 a0_1,.int .i64 a0_2,.slice A0_3 l0_3.length c0_3] 24 (0,0)) (by (with_reducible repeat (first|refine blk_drewN ?_ _|refine blk_drew ?_|refine blk_alloc ?_ _));exact BK143.out) k_ hk⟩) _ (Nat.le_refl _)) (Below.refl _ _) (Nat.le_refl _) (by simp) ?_;(case hd=>rfl);(case hg=>rfl);(case hr=>first|(go_simp;done)|(go_simp;rfl));(case hp=>first|exact (Reps.none _ _)|exact (Reps.none _ _))
          intro v145 w44 ho45 hb hg_ hnew_
          clear hg_ hnew_
          (first|rw [← Ny144.out] at ho45|(simp only [Int.reduceToNat] at ho45;rw [← Ny144.out] at ho45))
          have n0_:=Aside0.mk (Kd.V_elder' (by (with_reducible repeat (first|apply Kd.V_alloc|apply Kd.V_drewN|apply Kd.V_drew));exact HO_134003.out) (Kd.N_base ho45) hb)
          have n1_:=Aside0.mk (Kd.V_elder' (by (with_reducible repeat (first|apply Kd.V_alloc|apply Kd.V_drewN|apply Kd.V_drew));exact HO_135001.out) (Kd.N_base ho45) hb)
          have n2_:=Aside0.mk (Kd.N_lower ho45 (below_size (by repeat (first|(with_reducible first|exact HB.out|apply below_alloc|apply pw_below_drewN|apply below_drew1|refine below_set ?_ GE133.out|refine below_set ?_ GE134.out|refine below_set ?_ GE143.out)|exact HB.out))))
          have n3_:=Aside0.mk (blk_below (g:=gb133) (o:=.cells #[.int .i64 a0_0,.int .i64 a0_1,.int .i64 a0_2,.slice A0_3 l0_3.length c0_3] 24 (0,0)) (by (with_reducible repeat (first|refine blk_drewN ?_ _|refine blk_drew ?_|refine blk_alloc ?_ _));exact BK133.out) hb)
          have n4_:=Aside0.mk (blk_below (g:=gb134) (o:=.cells #[.int .i64 a1_0,.slice A1_1 l1_1.length c1_1] 27 (0,0)) (by (with_reducible repeat (first|refine blk_drewN ?_ _|refine blk_drew ?_|refine blk_alloc ?_ _));exact BK134.out) hb)
          have n5_:=Aside0.mk (blk_below (g:=gb143) (o:=.cells #[.int .i64 a0_0,.int .i64 a0_1,.int .i64 a0_2,.slice A0_3 l0_3.length c0_3] 24 (0,0)) (by (with_reducible repeat (first|refine blk_drewN ?_ _|refine blk_drew ?_|refine blk_alloc ?_ _));exact BK143.out) hb)
          have n6_:=Aside0.mk (below_step (by repeat (first|(with_reducible first|exact HB.out|apply below_alloc|apply pw_below_drewN|apply below_drew1|refine below_set ?_ GE133.out|refine below_set ?_ GE134.out|refine below_set ?_ GE143.out)|exact HB.out)) hb)
          clear HO_134003
          clear HO_135001
          clear BK133
          clear BK134
          clear BK143
          clear HB
          have HO_134003:=n0_
          have HO_135001:=n1_
          have HO146:=n2_
          have BK133:=n3_
          have BK134:=n4_
          have BK143:=n5_
          have HB:=n6_
          clear n0_ n1_ n2_ n3_ n4_ n5_ n6_
          clear hb ho45
          refine hK.out _ _ ⟨(blk_cell BK133.out 0).trans rfl,(blk_cell BK133.out 1).trans rfl,(blk_cell BK133.out 2).trans rfl,(blk_cell BK133.out 3).trans rfl,(blk_cell BK134.out 0).trans rfl,(blk_cell BK134.out 1).trans rfl⟩ (fun hHeld=>?_)
          clear hK K
          refine norm_ (a':=?_) ?_ ?_
          rotate_left
          ·show Act.put _ (some 67) _ = _
           simp only [Act.put,List.setIfInBounds_toArray,List.set_cons_zero,List.set_cons_succ,i64_w,i32_w]
           rfl
          refine two_ (i:=3) (j:=5) (Ni:=some 70) (Nj:=some 72) #[true,true,true,true,true,false,false,false,false] #[true,true,true,false,true,true,false,false,false] rfl rfl rfl rfl (two_of HT_.out (by kernel_rfl)) (by decide) (by decide) (fun K hK=>?_) (fun K hK=>?_)
          ·skip
           refine Kd.N_append_rows_step k27 (w0:=w) w.heap.size (by rfl) (.tmp 67) (.tmp 69) 22 27 (.agg #[(.int .i64 0),(.slice none 0 0)]) 32 rfl Try.underlying22 info27 rfl (by decide) (by omega) v145 y144 l0_3 _ _ _ (fun k_=>((P0_3_ k_ ∨ P1_1_ k_) ∨ w.heap.size ≤ k_) ∧ k_ ≠ gb133 ∧ k_ ≠ gb134 ∧ k_ ≠ gb143) (fun k_=>((fun k_=>((P0_3_ k_ ∨ P1_1_ k_) ∨ w.heap.size ≤ k_) ∧ k_ ≠ gb133 ∧ k_ ≠ gb134 ∧ k_ ≠ gb143)) k_ ∧ some k_ ≠ (v145 : Value).ownBlock) rfl rfl ?aO ?aR (fun _ hk=>hk) ?aF ?aB ?aS ?aL ?_
           (case aR=>exact (by skip;exact Kd.V_F (Kd.V_mono (ok':=(fun k_=>((fun k_=>((P0_3_ k_ ∨ P1_1_ k_) ∨ w.heap.size ≤ k_) ∧ k_ ≠ gb133 ∧ k_ ≠ gb134 ∧ k_ ≠ gb143)) k_ ∧ some k_ ≠ (v145 : Value).ownBlock)) (HO_134003.out) (fun k_ hk=>⟨⟨hk.1.1,⟨hk.1.2.1,⟨hk.1.2.2.1,hk.1.2.2.2⟩⟩⟩,hk.2⟩))))
           (case aB=>exact (by repeat (first|(with_reducible first|exact HB.out|apply below_alloc|apply pw_below_drewN|apply below_drew1|refine below_set ?_ GE133.out|refine below_set ?_ GE134.out|refine below_set ?_ GE143.out)|exact HB.out)))
           (case aF=>exact (fun k_ hk=>⟨(.inr (Nat.le_trans (below_size (by repeat (first|(with_reducible first|exact HB.out|apply below_alloc|apply pw_below_drewN|apply below_drew1|refine below_set ?_ GE133.out|refine below_set ?_ GE134.out|refine below_set ?_ GE143.out)|exact HB.out))) hk)),Kd.freshB (g:=gb133) (o:=.cells #[.int .i64 a0_0,.int .i64 a0_1,.int .i64 a0_2,.slice A0_3 l0_3.length c0_3] 24 (0,0)) (by (with_reducible repeat (first|refine blk_drewN ?_ _|refine blk_drew ?_|refine blk_alloc ?_ _));exact BK133.out) k_ hk,Kd.freshB (g:=gb134) (o:=.cells #[.int .i64 a1_0,.slice A1_1 l1_1.length c1_1] 27 (0,0)) (by (with_reducible repeat (first|refine blk_drewN ?_ _|refine blk_drew ?_|refine blk_alloc ?_ _));exact BK134.out) k_ hk,Kd.freshB (g:=gb143) (o:=.cells #[.int .i64 a0_0,.int .i64 a0_1,.int .i64 a0_2,.slice A0_3 l0_3.length c0_3] 24 (0,0)) (by (with_reducible repeat (first|refine blk_drewN ?_ _|refine blk_drew ?_|refine blk_alloc ?_ _));exact BK143.out) k_ hk⟩))
           (case aO=>exact (by (with_reducible repeat (first|apply Kd.N_alloc|apply Kd.N_drewN|apply Kd.N_drew));exact HO146.out))
           (case aS=>exact (below_size (by repeat (first|(with_reducible first|exact HB.out|apply below_alloc|apply pw_below_drewN|apply below_drew1|refine below_set ?_ GE133.out|refine below_set ?_ GE134.out|refine below_set ?_ GE143.out)|exact HB.out))))
           (case aL=>have:=LMc28.out;omega)
           intro v148 w46 ho hb hg hat
           rw [← Ny147.out] at ho
           have n0_:=Aside0.mk (Kd.V_afterv (ok:=(fun k_=>((P0_3_ k_ ∨ P1_1_ k_) ∨ w.heap.size ≤ k_) ∧ k_ ≠ gb133 ∧ k_ ≠ gb134 ∧ k_ ≠ gb143)) (by (with_reducible repeat (first|apply Kd.V_alloc|apply Kd.V_drewN|apply Kd.V_drew));exact HO_134003.out) hg hat)
           have n1_:=Aside0.mk (Kd.V_afterv (ok:=(fun k_=>((P0_3_ k_ ∨ P1_1_ k_) ∨ w.heap.size ≤ k_) ∧ k_ ≠ gb133 ∧ k_ ≠ gb134 ∧ k_ ≠ gb143)) (by (with_reducible repeat (first|apply Kd.V_alloc|apply Kd.V_drewN|apply Kd.V_drew));exact HO_135001.out) hg hat)
           have n2_:=Aside0.mk (blk_grown (g:=gb133) (o:=.cells #[.int .i64 a0_0,.int .i64 a0_1,.int .i64 a0_2,.slice A0_3 l0_3.length c0_3] 24 (0,0)) (by (with_reducible repeat (first|refine blk_drewN ?_ _|refine blk_drew ?_|refine blk_alloc ?_ _));exact BK133.out) hg (Kd.N_ne HO146.out BK133.out (by decide)))
           have n3_:=Aside0.mk (blk_grown (g:=gb134) (o:=.cells #[.int .i64 a1_0,.slice A1_1 l1_1.length c1_1] 27 (0,0)) (by (with_reducible repeat (first|refine blk_drewN ?_ _|refine blk_drew ?_|refine blk_alloc ?_ _));exact BK134.out) hg (Kd.N_away HO146.out (fun _ hk=>hk.2.2.1)))
           have n4_:=Aside0.mk (blk_grown (g:=gb143) (o:=.cells #[.int .i64 a0_0,.int .i64 a0_1,.int .i64 a0_2,.slice A0_3 l0_3.length c0_3] 24 (0,0)) (by (with_reducible repeat (first|refine blk_drewN ?_ _|refine blk_drew ?_|refine blk_alloc ?_ _));exact BK143.out) hg (Kd.N_ne HO146.out BK143.out (by decide)))
           have n5_:=Aside0.mk (hb)
           have n6_:=Aside0.mk (ho)
           clear HO_134003
           clear HO_135001
           clear BK133
           clear BK134
           clear BK143
           clear HB
           clear HO146
           have HO_134003:=n0_
           have HO_135001:=n1_
           have BK133:=n2_
           have BK134:=n3_
           have BK143:=n4_
           have HB:=n5_
           have HO149:=n6_
           clear n0_ n1_ n2_ n3_ n4_ n5_ n6_
           clear ho hb hg hat
           refine hK.out _ _ ⟨(blk_cell BK133.out 0).trans rfl,(blk_cell BK133.out 1).trans rfl,(blk_cell BK133.out 2).trans rfl,(blk_cell BK133.out 3).trans rfl,(blk_cell BK134.out 0).trans rfl,(blk_cell BK134.out 1).trans rfl⟩ (fun hHeld=>?_)
           clear hK K
           refine norm_ (a':=?_) ?_ ?_
           rotate_left
           ·show Act.put _ (some 70) _ = _
            simp only [Act.put,List.setIfInBounds_toArray,List.set_cons_zero,List.set_cons_succ,i64_w,i32_w]
            rfl
           refine one_ (i:=5) (N:=some 72) #[true,true,true,true,true,true,false,false,false] rfl rfl (one_of HT_.out (by kernel_rfl)) (by decide) (fun K hK=>?_)
           refine Kd.N_lit_step k27 _ 27 ?hg (N':=72) ?hd (xs:=([(⟨a1_0,l1_1⟩ : S27)] : List (S27))) (inner:=[.int .i64 a1_0,.slice A1_1 l1_1.length c1_1]) (ok:=(fun k_=>((P0_3_ k_ ∨ P1_1_ k_) ∨ w.heap.size ≤ k_) ∧ some k_ ≠ (v148 : Value).ownBlock ∧ k_ ≠ gb133 ∧ k_ ≠ gb134 ∧ k_ ≠ gb143)) (okp:=(fun k_=>((P0_3_ k_ ∨ P1_1_ k_) ∨ w.heap.size ≤ k_) ∧ some k_ ≠ (v148 : Value).ownBlock ∧ k_ ≠ gb133 ∧ k_ ≠ gb134 ∧ k_ ≠ gb143)) ?hr ?hp (fun _ hk=>hk) ((show ∀ k_,w46.heap.size ≤ k_ → (fun k_=>((P0_3_ k_ ∨ P1_1_ k_) ∨ w.heap.size ≤ k_) ∧ some k_ ≠ (v148 : Value).ownBlock ∧ k_ ≠ gb133 ∧ k_ ≠ gb134 ∧ k_ ≠ gb143) k_ from fun k_ hk=>⟨(.inr (Nat.le_trans (below_size (by repeat (first|(with_reducible first|exact HB.out|apply below_alloc|apply pw_below_drewN|apply below_drew1|refine below_set ?_ GE133.out|refine below_set ?_ GE134.out|refine below_set ?_ GE143.out)|exact HB.out))) hk)),Kd.fresh' (Kd.N_lt (by (with_reducible repeat (first|apply Kd.N_alloc|apply Kd.N_drewN|apply Kd.N_drew));exact HO149.out)) k_ hk,Kd.freshB (g:=gb133) (o:=.cells #[.int .i64 a0_0,.int .i64 a0_1,.int .i64 a0_2,.slice A0_3 l0_3.length c0_3] 24 (0,0)) (by (with_reducible repeat (first|refine blk_drewN ?_ _|refine blk_drew ?_|refine blk_alloc ?_ _));exact BK133.out) k_ hk,Kd.freshB (g:=gb134) (o:=.cells #[.int .i64 a1_0,.slice A1_1 l1_1.length c1_1] 27 (0,0)) (by (with_reducible repeat (first|refine blk_drewN ?_ _|refine blk_drew ?_|refine blk_alloc ?_ _));exact BK134.out) k_ hk,Kd.freshB (g:=gb143) (o:=.cells #[.int .i64 a0_0,.int .i64 a0_1,.int .i64 a0_2,.slice A0_3 l0_3.length c0_3] 24 (0,0)) (by (with_reducible repeat (first|refine blk_drewN ?_ _|refine blk_drew ?_|refine blk_alloc ?_ _));exact BK143.out) k_ hk⟩) _ (Nat.le_refl _)) (Below.refl _ _) (Nat.le_refl _) (by simp) ?_;(case hd=>rfl);(case hg=>rfl);(case hr=>first|(go_simp;done)|(go_simp;rfl));(case hp=>first|exact (Reps.c2 (show Kd.FK k27 _ _ (⟨a1_0,l1_1⟩ : S27) [.int .i64 a1_0,.slice A1_1 l1_1.length c1_1] from (k27_mkF _ _ (⟨a1_0,l1_1⟩ : S27) (Kd.V_reads' (Kd.V_mono (ok':=(fun k_=>((P0_3_ k_ ∨ P1_1_ k_) ∨ w.heap.size ≤ k_) ∧ some k_ ≠ (v148 : Value).ownBlock ∧ k_ ≠ gb133 ∧ k_ ≠ gb134 ∧ k_ ≠ gb143)) (HO_135001.out) (fun k_ hk=>⟨hk.1.1,⟨hk.2,⟨hk.1.2.1,⟨hk.1.2.2.1,hk.1.2.2.2⟩⟩⟩⟩))).2.1 (Kd.V_F (Kd.V_mono (ok':=(fun k_=>((P0_3_ k_ ∨ P1_1_ k_) ∨ w.heap.size ≤ k_) ∧ some k_ ≠ (v148 : Value).ownBlock ∧ k_ ≠ gb133 ∧ k_ ≠ gb134 ∧ k_ ≠ gb143)) (HO_135001.out) (fun k_ hk=>⟨hk.1.1,⟨hk.2,⟨hk.1.2.1,⟨hk.1.2.2.1,hk.1.2.2.2⟩⟩⟩⟩))))) (Reps.none _ _))|exact (Reps.c2 (show Kd.FK k27 _ _ (⟨a1_0,l1_1⟩ : S27) [.int .i64 a1_0,.slice A1_1 l1_1.length c1_1] from (k27_mkF _ _ (⟨a1_0,l1_1⟩ : S27) (Kd.V_reads' (Kd.V_mono (ok':=(fun k_=>((P0_3_ k_ ∨ P1_1_ k_) ∨ w.heap.size ≤ k_) ∧ some k_ ≠ (v148 : Value).ownBlock ∧ k_ ≠ gb133 ∧ k_ ≠ gb134 ∧ k_ ≠ gb143)) (HO_135001.out) (fun k_ hk=>⟨hk.1.1,⟨hk.2,⟨hk.1.2.1,⟨hk.1.2.2.1,hk.1.2.2.2⟩⟩⟩⟩))).2.1 (Kd.V_F (Kd.V_mono (ok':=(fun k_=>((P0_3_ k_ ∨ P1_1_ k_) ∨ w.heap.size ≤ k_) ∧ some k_ ≠ (v148 : Value).ownBlock ∧ k_ ≠ gb133 ∧ k_ ≠ gb134 ∧ k_ ≠ gb143)) (Kd.V_drewN HO_135001.out _) (fun k_ hk=>⟨hk.1.1,⟨hk.2,⟨hk.1.2.1,⟨hk.1.2.2.1,hk.1.2.2.2⟩⟩⟩⟩))))) (Reps.none _ _)))
           intro v151 w47 ho48 hb hg_ hnew_
           clear hg_ hnew_
           (first|rw [← Ny150.out] at ho48|(simp only [Int.reduceToNat] at ho48;rw [← Ny150.out] at ho48))
           have n0_:=Aside0.mk (Kd.V_elder' (by (with_reducible repeat (first|apply Kd.V_alloc|apply Kd.V_drewN|apply Kd.V_drew));exact HO_134003.out) (Kd.N_base ho48) hb)
           have n1_:=Aside0.mk (Kd.V_elder' (by (with_reducible repeat (first|apply Kd.V_alloc|apply Kd.V_drewN|apply Kd.V_drew));exact HO_135001.out) (Kd.N_base ho48) hb)
           have n2_:=Aside0.mk (Kd.N_elder' (by (with_reducible repeat (first|apply Kd.N_alloc|apply Kd.N_drewN|apply Kd.N_drew));exact HO149.out) (Kd.N_base ho48) hb)
           have n3_:=Aside0.mk (Kd.N_lower ho48 (below_size (by repeat (first|(with_reducible first|exact HB.out|apply below_alloc|apply pw_below_drewN|apply below_drew1|refine below_set ?_ GE133.out|refine below_set ?_ GE134.out|refine below_set ?_ GE143.out)|exact HB.out))))
           have n4_:=Aside0.mk (blk_below (g:=gb133) (o:=.cells #[.int .i64 a0_0,.int .i64 a0_1,.int .i64 a0_2,.slice A0_3 l0_3.length c0_3] 24 (0,0)) (by (with_reducible repeat (first|refine blk_drewN ?_ _|refine blk_drew ?_|refine blk_alloc ?_ _));exact BK133.out) hb)
           have n5_:=Aside0.mk (blk_below (g:=gb134) (o:=.cells #[.int .i64 a1_0,.slice A1_1 l1_1.length c1_1] 27 (0,0)) (by (with_reducible repeat (first|refine blk_drewN ?_ _|refine blk_drew ?_|refine blk_alloc ?_ _));exact BK134.out) hb)
           have n6_:=Aside0.mk (blk_below (g:=gb143) (o:=.cells #[.int .i64 a0_0,.int .i64 a0_1,.int .i64 a0_2,.slice A0_3 l0_3.length c0_3] 24 (0,0)) (by (with_reducible repeat (first|refine blk_drewN ?_ _|refine blk_drew ?_|refine blk_alloc ?_ _));exact BK143.out) hb)
           have n7_:=Aside0.mk (below_step (by repeat (first|(with_reducible first|exact HB.out|apply below_alloc|apply pw_below_drewN|apply below_drew1|refine below_set ?_ GE133.out|refine below_set ?_ GE134.out|refine below_set ?_ GE143.out)|exact HB.out)) hb)
           clear HO_134003
           clear HO_135001
           clear HO149
           clear BK133
           clear BK134
           clear BK143
           clear HB
           have HO_134003:=n0_
           have HO_135001:=n1_
           have HO149:=n2_
           have HO152:=n3_
           have BK133:=n4_
           have BK134:=n5_
           have BK143:=n6_
           have HB:=n7_
           clear n0_ n1_ n2_ n3_ n4_ n5_ n6_ n7_
           clear hb ho48
           refine hK.out _ _ ⟨(blk_cell BK133.out 0).trans rfl,(blk_cell BK133.out 1).trans rfl,(blk_cell BK133.out 2).trans rfl,(blk_cell BK133.out 3).trans rfl,(blk_cell BK134.out 0).trans rfl,(blk_cell BK134.out 1).trans rfl⟩ (fun hHeld=>?_)
           clear hK K
           refine norm_ (a':=?_) ?_ ?_
           rotate_left
           ·show Act.put _ (some 72) _ = _
            simp only [Act.put,List.setIfInBounds_toArray,List.set_cons_zero,List.set_cons_succ,i64_w,i32_w]
            rfl
           exact norm_ (by simp only [putAll,Act.put,List.setIfInBounds_toArray,List.set_cons_zero,List.set_cons_succ]) (hCont (v145,v148,v151) _ ⟨hHeld,(by (with_reducible repeat (first|apply Kd.N_alloc|apply Kd.N_drewN|apply Kd.N_drew));exact Kd.N_mono HO149.out (fun _ hk=>⟨hk.1.1,⟨hk.2,⟨hk.1.2.1,⟨hk.1.2.2.1,hk.1.2.2.2⟩⟩⟩⟩)),(by (with_reducible repeat (first|apply Kd.N_alloc|apply Kd.N_drewN|apply Kd.N_drew));exact HO152.out),(by (with_reducible repeat (first|apply Kd.V_alloc|apply Kd.V_drewN|apply Kd.V_drew));exact Kd.V_mono HO_134003.out (fun _ hk=>⟨hk.1.1.1,⟨hk.1.2,⟨hk.2,⟨hk.1.1.2.1,⟨hk.1.1.2.2.1,hk.1.1.2.2.2⟩⟩⟩⟩⟩)),(by (with_reducible repeat (first|apply Kd.V_alloc|apply Kd.V_drewN|apply Kd.V_drew));exact Kd.V_mono HO_135001.out (fun _ hk=>⟨hk.1.1.1,⟨hk.1.2,⟨hk.2,⟨hk.1.1.2.1,⟨hk.1.1.2.2.1,hk.1.1.2.2.2⟩⟩⟩⟩⟩)),(by (with_reducible repeat (first|refine blk_drewN ?_ _|refine blk_drew ?_|refine blk_alloc ?_ _));exact BK133.out),(by (with_reducible repeat (first|refine blk_drewN ?_ _|refine blk_drew ?_|refine blk_alloc ?_ _));exact BK134.out),(by (with_reducible repeat (first|refine blk_drewN ?_ _|refine blk_drew ?_|refine blk_alloc ?_ _));exact BK143.out),(by repeat (first|(with_reducible first|exact HB.out|apply below_alloc|apply pw_below_drewN|apply below_drew1|refine below_set ?_ GE133.out|refine below_set ?_ GE134.out|refine below_set ?_ GE143.out)|exact HB.out))⟩)
          ·skip
           refine Kd.N_lit_step k27 _ 27 ?hg (N':=72) ?hd (xs:=([(⟨a1_0,l1_1⟩ : S27)] : List (S27))) (inner:=[.int .i64 a1_0,.slice A1_1 l1_1.length c1_1]) (ok:=(fun k_=>((P0_3_ k_ ∨ P1_1_ k_) ∨ w.heap.size ≤ k_) ∧ some k_ ≠ (v145 : Value).ownBlock ∧ k_ ≠ gb133 ∧ k_ ≠ gb134 ∧ k_ ≠ gb143)) (okp:=(fun k_=>((P0_3_ k_ ∨ P1_1_ k_) ∨ w.heap.size ≤ k_) ∧ some k_ ≠ (v145 : Value).ownBlock ∧ k_ ≠ gb133 ∧ k_ ≠ gb134 ∧ k_ ≠ gb143)) ?hr ?hp (fun _ hk=>hk) ((show ∀ k_,w44.heap.size ≤ k_ → (fun k_=>((P0_3_ k_ ∨ P1_1_ k_) ∨ w.heap.size ≤ k_) ∧ some k_ ≠ (v145 : Value).ownBlock ∧ k_ ≠ gb133 ∧ k_ ≠ gb134 ∧ k_ ≠ gb143) k_ from fun k_ hk=>⟨(.inr (Nat.le_trans (below_size (by repeat (first|(with_reducible first|exact HB.out|apply below_alloc|apply pw_below_drewN|apply below_drew1|refine below_set ?_ GE133.out|refine below_set ?_ GE134.out|refine below_set ?_ GE143.out)|exact HB.out))) hk)),Kd.fresh' (Kd.N_lt (by (with_reducible repeat (first|apply Kd.N_alloc|apply Kd.N_drewN|apply Kd.N_drew));exact HO146.out)) k_ hk,Kd.freshB (g:=gb133) (o:=.cells #[.int .i64 a0_0,.int .i64 a0_1,.int .i64 a0_2,.slice A0_3 l0_3.length c0_3] 24 (0,0)) (by (with_reducible repeat (first|refine blk_drewN ?_ _|refine blk_drew ?_|refine blk_alloc ?_ _));exact BK133.out) k_ hk,Kd.freshB (g:=gb134) (o:=.cells #[.int .i64 a1_0,.slice A1_1 l1_1.length c1_1] 27 (0,0)) (by (with_reducible repeat (first|refine blk_drewN ?_ _|refine blk_drew ?_|refine blk_alloc ?_ _));exact BK134.out) k_ hk,Kd.freshB (g:=gb143) (o:=.cells #[.int .i64 a0_0,.int .i64 a0_1,.int .i64 a0_2,.slice A0_3 l0_3.length c0_3] 24 (0,0)) (by (with_reducible repeat (first|refine blk_drewN ?_ _|refine blk_drew ?_|refine blk_alloc ?_ _));exact BK143.out) k_ hk⟩) _ (Nat.le_refl _)) (Below.refl _ _) (Nat.le_refl _) (by simp) ?_;(case hd=>rfl);(case hg=>rfl);(case hr=>first|(go_simp;done)|(go_simp;rfl));(case hp=>first|exact (Reps.c2 (show Kd.FK k27 _ _ (⟨a1_0,l1_1⟩ : S27) [.int .i64 a1_0,.slice A1_1 l1_1.length c1_1] from (k27_mkF _ _ (⟨a1_0,l1_1⟩ : S27) (Kd.V_reads' (Kd.V_mono (ok':=(fun k_=>((P0_3_ k_ ∨ P1_1_ k_) ∨ w.heap.size ≤ k_) ∧ some k_ ≠ (v145 : Value).ownBlock ∧ k_ ≠ gb133 ∧ k_ ≠ gb134 ∧ k_ ≠ gb143)) (HO_135001.out) (fun k_ hk=>⟨hk.1.1,⟨hk.2,⟨hk.1.2.1,⟨hk.1.2.2.1,hk.1.2.2.2⟩⟩⟩⟩))).2.1 (Kd.V_F (Kd.V_mono (ok':=(fun k_=>((P0_3_ k_ ∨ P1_1_ k_) ∨ w.heap.size ≤ k_) ∧ some k_ ≠ (v145 : Value).ownBlock ∧ k_ ≠ gb133 ∧ k_ ≠ gb134 ∧ k_ ≠ gb143)) (HO_135001.out) (fun k_ hk=>⟨hk.1.1,⟨hk.2,⟨hk.1.2.1,⟨hk.1.2.2.1,hk.1.2.2.2⟩⟩⟩⟩))))) (Reps.none _ _))|exact (Reps.c2 (show Kd.FK k27 _ _ (⟨a1_0,l1_1⟩ : S27) [.int .i64 a1_0,.slice A1_1 l1_1.length c1_1] from (k27_mkF _ _ (⟨a1_0,l1_1⟩ : S27) (Kd.V_reads' (Kd.V_mono (ok':=(fun k_=>((P0_3_ k_ ∨ P1_1_ k_) ∨ w.heap.size ≤ k_) ∧ some k_ ≠ (v145 : Value).ownBlock ∧ k_ ≠ gb133 ∧ k_ ≠ gb134 ∧ k_ ≠ gb143)) (HO_135001.out) (fun k_ hk=>⟨hk.1.1,⟨hk.2,⟨hk.1.2.1,⟨hk.1.2.2.1,hk.1.2.2.2⟩⟩⟩⟩))).2.1 (Kd.V_F (Kd.V_mono (ok':=(fun k_=>((P0_3_ k_ ∨ P1_1_ k_) ∨ w.heap.size ≤ k_) ∧ some k_ ≠ (v145 : Value).ownBlock ∧ k_ ≠ gb133 ∧ k_ ≠ gb134 ∧ k_ ≠ gb143)) (Kd.V_drewN HO_135001.out _) (fun k_ hk=>⟨hk.1.1,⟨hk.2,⟨hk.1.2.1,⟨hk.1.2.2.1,hk.1.2.2.2⟩⟩⟩⟩))))) (Reps.none _ _)))
           intro v151 w46 ho47 hb hg_ hnew_
           clear hg_ hnew_
           (first|rw [← Ny150.out] at ho47|(simp only [Int.reduceToNat] at ho47;rw [← Ny150.out] at ho47))
           have n0_:=Aside0.mk (Kd.V_elder' (by (with_reducible repeat (first|apply Kd.V_alloc|apply Kd.V_drewN|apply Kd.V_drew));exact HO_134003.out) (Kd.N_base ho47) hb)
           have n1_:=Aside0.mk (Kd.V_elder' (by (with_reducible repeat (first|apply Kd.V_alloc|apply Kd.V_drewN|apply Kd.V_drew));exact HO_135001.out) (Kd.N_base ho47) hb)
           have n2_:=Aside0.mk (Kd.N_elder' (by (with_reducible repeat (first|apply Kd.N_alloc|apply Kd.N_drewN|apply Kd.N_drew));exact HO146.out) (Kd.N_base ho47) hb)
           have n3_:=Aside0.mk (Kd.N_lower ho47 (below_size (by repeat (first|(with_reducible first|exact HB.out|apply below_alloc|apply pw_below_drewN|apply below_drew1|refine below_set ?_ GE133.out|refine below_set ?_ GE134.out|refine below_set ?_ GE143.out)|exact HB.out))))
           have n4_:=Aside0.mk (blk_below (g:=gb133) (o:=.cells #[.int .i64 a0_0,.int .i64 a0_1,.int .i64 a0_2,.slice A0_3 l0_3.length c0_3] 24 (0,0)) (by (with_reducible repeat (first|refine blk_drewN ?_ _|refine blk_drew ?_|refine blk_alloc ?_ _));exact BK133.out) hb)
           have n5_:=Aside0.mk (blk_below (g:=gb134) (o:=.cells #[.int .i64 a1_0,.slice A1_1 l1_1.length c1_1] 27 (0,0)) (by (with_reducible repeat (first|refine blk_drewN ?_ _|refine blk_drew ?_|refine blk_alloc ?_ _));exact BK134.out) hb)
           have n6_:=Aside0.mk (blk_below (g:=gb143) (o:=.cells #[.int .i64 a0_0,.int .i64 a0_1,.int .i64 a0_2,.slice A0_3 l0_3.length c0_3] 24 (0,0)) (by (with_reducible repeat (first|refine blk_drewN ?_ _|refine blk_drew ?_|refine blk_alloc ?_ _));exact BK143.out) hb)
           have n7_:=Aside0.mk (below_step (by repeat (first|(with_reducible first|exact HB.out|apply below_alloc|apply pw_below_drewN|apply below_drew1|refine below_set ?_ GE133.out|refine below_set ?_ GE134.out|refine below_set ?_ GE143.out)|exact HB.out)) hb)
           clear HO_134003
           clear HO_135001
           clear HO146
           clear BK133
           clear BK134
           clear BK143
           clear HB
           have HO_134003:=n0_
           have HO_135001:=n1_
           have HO146:=n2_
           have HO152:=n3_
           have BK133:=n4_
           have BK134:=n5_
           have BK143:=n6_
           have HB:=n7_
           clear n0_ n1_ n2_ n3_ n4_ n5_ n6_ n7_
           clear hb ho47
           refine hK.out _ _ ⟨(blk_cell BK133.out 0).trans rfl,(blk_cell BK133.out 1).trans rfl,(blk_cell BK133.out 2).trans rfl,(blk_cell BK133.out 3).trans rfl,(blk_cell BK134.out 0).trans rfl,(blk_cell BK134.out 1).trans rfl⟩ (fun hHeld=>?_)
           clear hK K
           refine norm_ (a':=?_) ?_ ?_
           rotate_left
           ·show Act.put _ (some 72) _ = _
            simp only [Act.put,List.setIfInBounds_toArray,List.set_cons_zero,List.set_cons_succ,i64_w,i32_w]
            rfl
           refine one_ (i:=3) (N:=some 70) #[true,true,true,true,true,true,false,false,false] rfl rfl (one_of HT_.out (by kernel_rfl)) (by decide) (fun K hK=>?_)
           refine Kd.N_append_rows_step k27 (w0:=w) w.heap.size (by rfl) (.tmp 67) (.tmp 69) 22 27 (.agg #[(.int .i64 0),(.slice none 0 0)]) 32 rfl Try.underlying22 info27 rfl (by decide) (by omega) v145 y144 l0_3 _ _ _ (fun k_=>((P0_3_ k_ ∨ P1_1_ k_) ∨ w.heap.size ≤ k_) ∧ some k_ ≠ (v151 : Value).ownBlock ∧ k_ ≠ gb133 ∧ k_ ≠ gb134 ∧ k_ ≠ gb143) (fun k_=>((fun k_=>((P0_3_ k_ ∨ P1_1_ k_) ∨ w.heap.size ≤ k_) ∧ some k_ ≠ (v151 : Value).ownBlock ∧ k_ ≠ gb133 ∧ k_ ≠ gb134 ∧ k_ ≠ gb143)) k_ ∧ some k_ ≠ (v145 : Value).ownBlock) rfl rfl ?aO ?aR (fun _ hk=>hk) ?aF ?aB ?aS ?aL ?_
           (case aR=>exact (by skip;exact Kd.V_F (Kd.V_mono (ok':=(fun k_=>((fun k_=>((P0_3_ k_ ∨ P1_1_ k_) ∨ w.heap.size ≤ k_) ∧ some k_ ≠ (v151 : Value).ownBlock ∧ k_ ≠ gb133 ∧ k_ ≠ gb134 ∧ k_ ≠ gb143)) k_ ∧ some k_ ≠ (v145 : Value).ownBlock)) (HO_134003.out) (fun k_ hk=>⟨⟨hk.1.1.1,⟨hk.2,⟨hk.1.1.2.1,⟨hk.1.1.2.2.1,hk.1.1.2.2.2⟩⟩⟩⟩,hk.1.2⟩))))
           (case aB=>exact (by repeat (first|(with_reducible first|exact HB.out|apply below_alloc|apply pw_below_drewN|apply below_drew1|refine below_set ?_ GE133.out|refine below_set ?_ GE134.out|refine below_set ?_ GE143.out)|exact HB.out)))
           (case aF=>exact (fun k_ hk=>⟨(.inr (Nat.le_trans (below_size (by repeat (first|(with_reducible first|exact HB.out|apply below_alloc|apply pw_below_drewN|apply below_drew1|refine below_set ?_ GE133.out|refine below_set ?_ GE134.out|refine below_set ?_ GE143.out)|exact HB.out))) hk)),Kd.fresh' (Kd.N_lt (by (with_reducible repeat (first|apply Kd.N_alloc|apply Kd.N_drewN|apply Kd.N_drew));exact HO152.out)) k_ hk,Kd.freshB (g:=gb133) (o:=.cells #[.int .i64 a0_0,.int .i64 a0_1,.int .i64 a0_2,.slice A0_3 l0_3.length c0_3] 24 (0,0)) (by (with_reducible repeat (first|refine blk_drewN ?_ _|refine blk_drew ?_|refine blk_alloc ?_ _));exact BK133.out) k_ hk,Kd.freshB (g:=gb134) (o:=.cells #[.int .i64 a1_0,.slice A1_1 l1_1.length c1_1] 27 (0,0)) (by (with_reducible repeat (first|refine blk_drewN ?_ _|refine blk_drew ?_|refine blk_alloc ?_ _));exact BK134.out) k_ hk,Kd.freshB (g:=gb143) (o:=.cells #[.int .i64 a0_0,.int .i64 a0_1,.int .i64 a0_2,.slice A0_3 l0_3.length c0_3] 24 (0,0)) (by (with_reducible repeat (first|refine blk_drewN ?_ _|refine blk_drew ?_|refine blk_alloc ?_ _));exact BK143.out) k_ hk⟩))
           (case aO=>exact (by (with_reducible repeat (first|apply Kd.N_alloc|apply Kd.N_drewN|apply Kd.N_drew));exact Kd.N_mono HO146.out (fun _ hk=>⟨hk.1.1,⟨hk.2,⟨hk.1.2.1,⟨hk.1.2.2.1,hk.1.2.2.2⟩⟩⟩⟩)))
           (case aS=>exact (below_size (by repeat (first|(with_reducible first|exact HB.out|apply below_alloc|apply pw_below_drewN|apply below_drew1|refine below_set ?_ GE133.out|refine below_set ?_ GE134.out|refine below_set ?_ GE143.out)|exact HB.out))))
           (case aL=>have:=LMc28.out;omega)
           intro v148 w48 ho hb hg hat
           rw [← Ny147.out] at ho
           have n0_:=Aside0.mk (Kd.V_afterv (ok:=(fun k_=>((P0_3_ k_ ∨ P1_1_ k_) ∨ w.heap.size ≤ k_) ∧ some k_ ≠ (v151 : Value).ownBlock ∧ k_ ≠ gb133 ∧ k_ ≠ gb134 ∧ k_ ≠ gb143)) (by (with_reducible repeat (first|apply Kd.V_alloc|apply Kd.V_drewN|apply Kd.V_drew));exact Kd.V_mono HO_134003.out (fun _ hk=>⟨⟨hk.1.1.1,⟨hk.2,⟨hk.1.1.2.1,⟨hk.1.1.2.2.1,hk.1.1.2.2.2⟩⟩⟩⟩,hk.1.2⟩)) hg hat)
           have n1_:=Aside0.mk (Kd.V_afterv (ok:=(fun k_=>((P0_3_ k_ ∨ P1_1_ k_) ∨ w.heap.size ≤ k_) ∧ some k_ ≠ (v151 : Value).ownBlock ∧ k_ ≠ gb133 ∧ k_ ≠ gb134 ∧ k_ ≠ gb143)) (by (with_reducible repeat (first|apply Kd.V_alloc|apply Kd.V_drewN|apply Kd.V_drew));exact Kd.V_mono HO_135001.out (fun _ hk=>⟨⟨hk.1.1.1,⟨hk.2,⟨hk.1.1.2.1,⟨hk.1.1.2.2.1,hk.1.1.2.2.2⟩⟩⟩⟩,hk.1.2⟩)) hg hat)
           have n2_:=Aside0.mk (blk_grown (g:=gb133) (o:=.cells #[.int .i64 a0_0,.int .i64 a0_1,.int .i64 a0_2,.slice A0_3 l0_3.length c0_3] 24 (0,0)) (by (with_reducible repeat (first|refine blk_drewN ?_ _|refine blk_drew ?_|refine blk_alloc ?_ _));exact BK133.out) hg (Kd.N_ne HO146.out BK133.out (by decide)))
           have n3_:=Aside0.mk (blk_grown (g:=gb134) (o:=.cells #[.int .i64 a1_0,.slice A1_1 l1_1.length c1_1] 27 (0,0)) (by (with_reducible repeat (first|refine blk_drewN ?_ _|refine blk_drew ?_|refine blk_alloc ?_ _));exact BK134.out) hg (Kd.N_away HO146.out (fun _ hk=>hk.1.2.2.1)))
           have n4_:=Aside0.mk (blk_grown (g:=gb143) (o:=.cells #[.int .i64 a0_0,.int .i64 a0_1,.int .i64 a0_2,.slice A0_3 l0_3.length c0_3] 24 (0,0)) (by (with_reducible repeat (first|refine blk_drewN ?_ _|refine blk_drew ?_|refine blk_alloc ?_ _));exact BK143.out) hg (Kd.N_ne HO146.out BK143.out (by decide)))
           have n5_:=Aside0.mk (Kd.N_afterv (ok:=(fun k_=>((P0_3_ k_ ∨ P1_1_ k_) ∨ w.heap.size ≤ k_) ∧ k_ ≠ gb133 ∧ k_ ≠ gb134 ∧ k_ ≠ gb143)) (by (with_reducible repeat (first|apply Kd.N_alloc|apply Kd.N_drewN|apply Kd.N_drew));exact Kd.N_mono HO152.out (fun _ hk=>⟨⟨hk.1,⟨hk.2.2.1,⟨hk.2.2.2.1,hk.2.2.2.2⟩⟩⟩,hk.2.1⟩)) hg hat)
           have n6_:=Aside0.mk (hb)
           have n7_:=Aside0.mk (ho)
           clear HO_134003
           clear HO_135001
           clear BK133
           clear BK134
           clear BK143
           clear HO152
           clear HB
           clear HO146
           have HO_134003:=n0_
           have HO_135001:=n1_
           have BK133:=n2_
           have BK134:=n3_
           have BK143:=n4_
           have HO152:=n5_
           have HB:=n6_
           have HO149:=n7_
           clear n0_ n1_ n2_ n3_ n4_ n5_ n6_ n7_
           clear ho hb hg hat
           refine hK.out _ _ ⟨(blk_cell BK133.out 0).trans rfl,(blk_cell BK133.out 1).trans rfl,(blk_cell BK133.out 2).trans rfl,(blk_cell BK133.out 3).trans rfl,(blk_cell BK134.out 0).trans rfl,(blk_cell BK134.out 1).trans rfl⟩ (fun hHeld=>?_)
           clear hK K
           refine norm_ (a':=?_) ?_ ?_
           rotate_left
           ·show Act.put _ (some 70) _ = _
            simp only [Act.put,List.setIfInBounds_toArray,List.set_cons_zero,List.set_cons_succ,i64_w,i32_w]
            rfl
           exact norm_ (by simp only [putAll,Act.put,List.setIfInBounds_toArray,List.set_cons_zero,List.set_cons_succ]) (hCont (v145,v148,v151) _ ⟨hHeld,(by (with_reducible repeat (first|apply Kd.N_alloc|apply Kd.N_drewN|apply Kd.N_drew));exact HO149.out),(by (with_reducible repeat (first|apply Kd.N_alloc|apply Kd.N_drewN|apply Kd.N_drew));exact Kd.N_mono HO152.out (fun _ hk=>⟨hk.1.1,⟨hk.2,⟨hk.1.2.1,⟨hk.1.2.2.1,hk.1.2.2.2⟩⟩⟩⟩)),(by (with_reducible repeat (first|apply Kd.V_alloc|apply Kd.V_drewN|apply Kd.V_drew));exact Kd.V_mono HO_134003.out (fun _ hk=>⟨hk.1.1,⟨hk.2,⟨hk.1.2.1,⟨hk.1.2.2.1,⟨hk.1.2.2.2.1,hk.1.2.2.2.2⟩⟩⟩⟩⟩)),(by (with_reducible repeat (first|apply Kd.V_alloc|apply Kd.V_drewN|apply Kd.V_drew));exact Kd.V_mono HO_135001.out (fun _ hk=>⟨hk.1.1,⟨hk.2,⟨hk.1.2.1,⟨hk.1.2.2.1,⟨hk.1.2.2.2.1,hk.1.2.2.2.2⟩⟩⟩⟩⟩)),(by (with_reducible repeat (first|refine blk_drewN ?_ _|refine blk_drew ?_|refine blk_alloc ?_ _));exact BK133.out),(by (with_reducible repeat (first|refine blk_drewN ?_ _|refine blk_drew ?_|refine blk_alloc ?_ _));exact BK134.out),(by (with_reducible repeat (first|refine blk_drewN ?_ _|refine blk_drew ?_|refine blk_alloc ?_ _));exact BK143.out),(by repeat (first|(with_reducible first|exact HB.out|apply below_alloc|apply pw_below_drewN|apply below_drew1|refine below_set ?_ GE133.out|refine below_set ?_ GE134.out|refine below_set ?_ GE143.out)|exact HB.out))⟩)
         ·skip
          refine Kd.N_lit_step k27 _ 27 ?hg (N':=72) ?hd (xs:=([(⟨a1_0,l1_1⟩ : S27)] : List (S27))) (inner:=[.int .i64 a1_0,.slice A1_1 l1_1.length c1_1]) (ok:=(fun k_=>((P0_3_ k_ ∨ P1_1_ k_) ∨ w.heap.size ≤ k_) ∧ k_ ≠ gb133 ∧ k_ ≠ gb134 ∧ k_ ≠ gb143)) (okp:=(fun k_=>((P0_3_ k_ ∨ P1_1_ k_) ∨ w.heap.size ≤ k_) ∧ k_ ≠ gb133 ∧ k_ ≠ gb134 ∧ k_ ≠ gb143)) ?hr ?hp (fun _ hk=>hk) ((show ∀ k_,w43.heap.size ≤ k_ → (fun k_=>((P0_3_ k_ ∨ P1_1_ k_) ∨ w.heap.size ≤ k_) ∧ k_ ≠ gb133 ∧ k_ ≠ gb134 ∧ k_ ≠ gb143) k_ from fun k_ hk=>⟨(.inr (Nat.le_trans (below_size (by repeat (first|(with_reducible first|exact HB.out|apply below_alloc|apply pw_below_drewN|apply below_drew1|refine below_set ?_ GE133.out|refine below_set ?_ GE134.out|refine below_set ?_ GE143.out)|exact HB.out))) hk)),Kd.freshB (g:=gb133) (o:=.cells #[.int .i64 a0_0,.int .i64 a0_1,.int .i64 a0_2,.slice A0_3 l0_3.length c0_3] 24 (0,0)) (by (with_reducible repeat (first|refine blk_drewN ?_ _|refine blk_drew ?_|refine blk_alloc ?_ _));exact BK133.out) k_ hk,Kd.freshB (g:=gb134) (o:=.cells #[.int .i64 a1_0,.slice A1_1 l1_1.length c1_1] 27 (0,0)) (by (with_reducible repeat (first|refine blk_drewN ?_ _|refine blk_drew ?_|refine blk_alloc ?_ _));exact BK134.out) k_ hk,Kd.freshB (g:=gb143) (o:=.cells #[.int .i64 a0_0,.int .i64 a0_1,.int .i64 a0_2,.slice A0_3 l0_3.length c0_3] 24 (0,0)) (by (with_reducible repeat (first|refine blk_drewN ?_ _|refine blk_drew ?_|refine blk_alloc ?_ _));exact BK143.out) k_ hk⟩) _ (Nat.le_refl _)) (Below.refl _ _) (Nat.le_refl _) (by simp) ?_;(case hd=>rfl);(case hg=>rfl);(case hr=>first|(go_simp;done)|(go_simp;rfl));(case hp=>first|exact (Reps.c2 (show Kd.FK k27 _ _ (⟨a1_0,l1_1⟩ : S27) [.int .i64 a1_0,.slice A1_1 l1_1.length c1_1] from (k27_mkF _ _ (⟨a1_0,l1_1⟩ : S27) (Kd.V_reads' (Kd.V_mono (ok':=(fun k_=>((P0_3_ k_ ∨ P1_1_ k_) ∨ w.heap.size ≤ k_) ∧ k_ ≠ gb133 ∧ k_ ≠ gb134 ∧ k_ ≠ gb143)) (HO_135001.out) (fun k_ hk=>⟨hk.1,⟨hk.2.1,⟨hk.2.2.1,hk.2.2.2⟩⟩⟩))).2.1 (Kd.V_F (Kd.V_mono (ok':=(fun k_=>((P0_3_ k_ ∨ P1_1_ k_) ∨ w.heap.size ≤ k_) ∧ k_ ≠ gb133 ∧ k_ ≠ gb134 ∧ k_ ≠ gb143)) (HO_135001.out) (fun k_ hk=>⟨hk.1,⟨hk.2.1,⟨hk.2.2.1,hk.2.2.2⟩⟩⟩))))) (Reps.none _ _))|exact (Reps.c2 (show Kd.FK k27 _ _ (⟨a1_0,l1_1⟩ : S27) [.int .i64 a1_0,.slice A1_1 l1_1.length c1_1] from (k27_mkF _ _ (⟨a1_0,l1_1⟩ : S27) (Kd.V_reads' (Kd.V_mono (ok':=(fun k_=>((P0_3_ k_ ∨ P1_1_ k_) ∨ w.heap.size ≤ k_) ∧ k_ ≠ gb133 ∧ k_ ≠ gb134 ∧ k_ ≠ gb143)) (HO_135001.out) (fun k_ hk=>⟨hk.1,⟨hk.2.1,⟨hk.2.2.1,hk.2.2.2⟩⟩⟩))).2.1 (Kd.V_F (Kd.V_mono (ok':=(fun k_=>((P0_3_ k_ ∨ P1_1_ k_) ∨ w.heap.size ≤ k_) ∧ k_ ≠ gb133 ∧ k_ ≠ gb134 ∧ k_ ≠ gb143)) (Kd.V_drewN HO_135001.out _) (fun k_ hk=>⟨hk.1,⟨hk.2.1,⟨hk.2.2.1,hk.2.2.2⟩⟩⟩))))) (Reps.none _ _)))
          intro v151 w44 ho45 hb hg_ hnew_
          clear hg_ hnew_
          (first|rw [← Ny150.out] at ho45|(simp only [Int.reduceToNat] at ho45;rw [← Ny150.out] at ho45))
          have n0_:=Aside0.mk (Kd.V_elder' (by (with_reducible repeat (first|apply Kd.V_alloc|apply Kd.V_drewN|apply Kd.V_drew));exact HO_134003.out) (Kd.N_base ho45) hb)
          have n1_:=Aside0.mk (Kd.V_elder' (by (with_reducible repeat (first|apply Kd.V_alloc|apply Kd.V_drewN|apply Kd.V_drew));exact HO_135001.out) (Kd.N_base ho45) hb)
          have n2_:=Aside0.mk (Kd.N_lower ho45 (below_size (by repeat (first|(with_reducible first|exact HB.out|apply below_alloc|apply pw_below_drewN|apply below_drew1|refine below_set ?_ GE133.out|refine below_set ?_ GE134.out|refine below_set ?_ GE143.out)|exact HB.out))))
          have n3_:=Aside0.mk (blk_below (g:=gb133) (o:=.cells #[.int .i64 a0_0,.int .i64 a0_1,.int .i64 a0_2,.slice A0_3 l0_3.length c0_3] 24 (0,0)) (by (with_reducible repeat (first|refine blk_drewN ?_ _|refine blk_drew ?_|refine blk_alloc ?_ _));exact BK133.out) hb)
          have n4_:=Aside0.mk (blk_below (g:=gb134) (o:=.cells #[.int .i64 a1_0,.slice A1_1 l1_1.length c1_1] 27 (0,0)) (by (with_reducible repeat (first|refine blk_drewN ?_ _|refine blk_drew ?_|refine blk_alloc ?_ _));exact BK134.out) hb)
          have n5_:=Aside0.mk (blk_below (g:=gb143) (o:=.cells #[.int .i64 a0_0,.int .i64 a0_1,.int .i64 a0_2,.slice A0_3 l0_3.length c0_3] 24 (0,0)) (by (with_reducible repeat (first|refine blk_drewN ?_ _|refine blk_drew ?_|refine blk_alloc ?_ _));exact BK143.out) hb)
          have n6_:=Aside0.mk (below_step (by repeat (first|(with_reducible first|exact HB.out|apply below_alloc|apply pw_below_drewN|apply below_drew1|refine below_set ?_ GE133.out|refine below_set ?_ GE134.out|refine below_set ?_ GE143.out)|exact HB.out)) hb)
          clear HO_134003
          clear HO_135001
          clear BK133
          clear BK134
          clear BK143
          clear HB
          have HO_134003:=n0_
          have HO_135001:=n1_
          have HO152:=n2_
          have BK133:=n3_
          have BK134:=n4_
          have BK143:=n5_
          have HB:=n6_
          clear n0_ n1_ n2_ n3_ n4_ n5_ n6_
          clear hb ho45
          refine hK.out _ _ ⟨(blk_cell BK133.out 0).trans rfl,(blk_cell BK133.out 1).trans rfl,(blk_cell BK133.out 2).trans rfl,(blk_cell BK133.out 3).trans rfl,(blk_cell BK134.out 0).trans rfl,(blk_cell BK134.out 1).trans rfl⟩ (fun hHeld=>?_)
          clear hK K
          refine norm_ (a':=?_) ?_ ?_
          rotate_left
          ·show Act.put _ (some 72) _ = _
           simp only [Act.put,List.setIfInBounds_toArray,List.set_cons_zero,List.set_cons_succ,i64_w,i32_w]
           rfl
          refine one_ (i:=0) (N:=some 67) #[true,true,true,false,true,true,false,false,false] rfl rfl (one_of HT_.out (by kernel_rfl)) (by decide) (fun K hK=>?_)
          refine Kd.N_lit_step k27 _ 27 ?hg (N':=67) ?hd (xs:=([] : List (S27))) (inner:=[]) (ok:=(fun k_=>((P0_3_ k_ ∨ P1_1_ k_) ∨ w.heap.size ≤ k_) ∧ some k_ ≠ (v151 : Value).ownBlock ∧ k_ ≠ gb133 ∧ k_ ≠ gb134 ∧ k_ ≠ gb143)) (okp:=(fun k_=>((P0_3_ k_ ∨ P1_1_ k_) ∨ w.heap.size ≤ k_) ∧ some k_ ≠ (v151 : Value).ownBlock ∧ k_ ≠ gb133 ∧ k_ ≠ gb134 ∧ k_ ≠ gb143)) ?hr ?hp (fun _ hk=>hk) ((show ∀ k_,w44.heap.size ≤ k_ → (fun k_=>((P0_3_ k_ ∨ P1_1_ k_) ∨ w.heap.size ≤ k_) ∧ some k_ ≠ (v151 : Value).ownBlock ∧ k_ ≠ gb133 ∧ k_ ≠ gb134 ∧ k_ ≠ gb143) k_ from fun k_ hk=>⟨(.inr (Nat.le_trans (below_size (by repeat (first|(with_reducible first|exact HB.out|apply below_alloc|apply pw_below_drewN|apply below_drew1|refine below_set ?_ GE133.out|refine below_set ?_ GE134.out|refine below_set ?_ GE143.out)|exact HB.out))) hk)),Kd.fresh' (Kd.N_lt (by (with_reducible repeat (first|apply Kd.N_alloc|apply Kd.N_drewN|apply Kd.N_drew));exact HO152.out)) k_ hk,Kd.freshB (g:=gb133) (o:=.cells #[.int .i64 a0_0,.int .i64 a0_1,.int .i64 a0_2,.slice A0_3 l0_3.length c0_3] 24 (0,0)) (by (with_reducible repeat (first|refine blk_drewN ?_ _|refine blk_drew ?_|refine blk_alloc ?_ _));exact BK133.out) k_ hk,Kd.freshB (g:=gb134) (o:=.cells #[.int .i64 a1_0,.slice A1_1 l1_1.length c1_1] 27 (0,0)) (by (with_reducible repeat (first|refine blk_drewN ?_ _|refine blk_drew ?_|refine blk_alloc ?_ _));exact BK134.out) k_ hk,Kd.freshB (g:=gb143) (o:=.cells #[.int .i64 a0_0,.int .i64 a0_1,.int .i64 a0_2,.slice A0_3 l0_3.length c0_3] 24 (0,0)) (by (with_reducible repeat (first|refine blk_drewN ?_ _|refine blk_drew ?_|refine blk_alloc ?_ _));exact BK143.out) k_ hk⟩) _ (Nat.le_refl _)) (Below.refl _ _) (Nat.le_refl _) (by simp) ?_;(case hd=>rfl);(case hg=>rfl);(case hr=>first|(go_simp;done)|(go_simp;rfl));(case hp=>first|exact (Reps.none _ _)|exact (Reps.none _ _))
          intro v145 w46 ho47 hb hg_ hnew_
          clear hg_ hnew_
          (first|rw [← Ny144.out] at ho47|(simp only [Int.reduceToNat] at ho47;rw [← Ny144.out] at ho47))
          have n0_:=Aside0.mk (Kd.V_elder' (by (with_reducible repeat (first|apply Kd.V_alloc|apply Kd.V_drewN|apply Kd.V_drew));exact HO_134003.out) (Kd.N_base ho47) hb)
          have n1_:=Aside0.mk (Kd.V_elder' (by (with_reducible repeat (first|apply Kd.V_alloc|apply Kd.V_drewN|apply Kd.V_drew));exact HO_135001.out) (Kd.N_base ho47) hb)
          have n2_:=Aside0.mk (Kd.N_elder' (by (with_reducible repeat (first|apply Kd.N_alloc|apply Kd.N_drewN|apply Kd.N_drew));exact HO152.out) (Kd.N_base ho47) hb)
          have n3_:=Aside0.mk (Kd.N_lower ho47 (below_size (by repeat (first|(with_reducible first|exact HB.out|apply below_alloc|apply pw_below_drewN|apply below_drew1|refine below_set ?_ GE133.out|refine below_set ?_ GE134.out|refine below_set ?_ GE143.out)|exact HB.out))))
          have n4_:=Aside0.mk (blk_below (g:=gb133) (o:=.cells #[.int .i64 a0_0,.int .i64 a0_1,.int .i64 a0_2,.slice A0_3 l0_3.length c0_3] 24 (0,0)) (by (with_reducible repeat (first|refine blk_drewN ?_ _|refine blk_drew ?_|refine blk_alloc ?_ _));exact BK133.out) hb)
          have n5_:=Aside0.mk (blk_below (g:=gb134) (o:=.cells #[.int .i64 a1_0,.slice A1_1 l1_1.length c1_1] 27 (0,0)) (by (with_reducible repeat (first|refine blk_drewN ?_ _|refine blk_drew ?_|refine blk_alloc ?_ _));exact BK134.out) hb)
          have n6_:=Aside0.mk (blk_below (g:=gb143) (o:=.cells #[.int .i64 a0_0,.int .i64 a0_1,.int .i64 a0_2,.slice A0_3 l0_3.length c0_3] 24 (0,0)) (by (with_reducible repeat (first|refine blk_drewN ?_ _|refine blk_drew ?_|refine blk_alloc ?_ _));exact BK143.out) hb)
          have n7_:=Aside0.mk (below_step (by repeat (first|(with_reducible first|exact HB.out|apply below_alloc|apply pw_below_drewN|apply below_drew1|refine below_set ?_ GE133.out|refine below_set ?_ GE134.out|refine below_set ?_ GE143.out)|exact HB.out)) hb)
          clear HO_134003
          clear HO_135001
          clear HO152
          clear BK133
          clear BK134
          clear BK143
          clear HB
          have HO_134003:=n0_
          have HO_135001:=n1_
          have HO152:=n2_
          have HO146:=n3_
          have BK133:=n4_
          have BK134:=n5_
          have BK143:=n6_
          have HB:=n7_
          clear n0_ n1_ n2_ n3_ n4_ n5_ n6_ n7_
          clear hb ho47
          refine hK.out _ _ ⟨(blk_cell BK133.out 0).trans rfl,(blk_cell BK133.out 1).trans rfl,(blk_cell BK133.out 2).trans rfl,(blk_cell BK133.out 3).trans rfl,(blk_cell BK134.out 0).trans rfl,(blk_cell BK134.out 1).trans rfl⟩ (fun hHeld=>?_)
          clear hK K
          refine norm_ (a':=?_) ?_ ?_
          rotate_left
          ·show Act.put _ (some 67) _ = _
           simp only [Act.put,List.setIfInBounds_toArray,List.set_cons_zero,List.set_cons_succ,i64_w,i32_w]
           rfl
          refine one_ (i:=3) (N:=some 70) #[true,true,true,true,true,true,false,false,false] rfl rfl (one_of HT_.out (by kernel_rfl)) (by decide) (fun K hK=>?_)
          refine Kd.N_append_rows_step k27 (w0:=w) w.heap.size (by rfl) (.tmp 67) (.tmp 69) 22 27 (.agg #[(.int .i64 0),(.slice none 0 0)]) 32 rfl Try.underlying22 info27 rfl (by decide) (by omega) v145 y144 l0_3 _ _ _ (fun k_=>((P0_3_ k_ ∨ P1_1_ k_) ∨ w.heap.size ≤ k_) ∧ some k_ ≠ (v151 : Value).ownBlock ∧ k_ ≠ gb133 ∧ k_ ≠ gb134 ∧ k_ ≠ gb143) (fun k_=>((fun k_=>((P0_3_ k_ ∨ P1_1_ k_) ∨ w.heap.size ≤ k_) ∧ some k_ ≠ (v151 : Value).ownBlock ∧ k_ ≠ gb133 ∧ k_ ≠ gb134 ∧ k_ ≠ gb143)) k_ ∧ some k_ ≠ (v145 : Value).ownBlock) rfl rfl ?aO ?aR (fun _ hk=>hk) ?aF ?aB ?aS ?aL ?_
          (case aR=>exact (by skip;exact Kd.V_F (Kd.V_mono (ok':=(fun k_=>((fun k_=>((P0_3_ k_ ∨ P1_1_ k_) ∨ w.heap.size ≤ k_) ∧ some k_ ≠ (v151 : Value).ownBlock ∧ k_ ≠ gb133 ∧ k_ ≠ gb134 ∧ k_ ≠ gb143)) k_ ∧ some k_ ≠ (v145 : Value).ownBlock)) (HO_134003.out) (fun k_ hk=>⟨⟨hk.1.1.1,⟨hk.1.2,⟨hk.1.1.2.1,⟨hk.1.1.2.2.1,hk.1.1.2.2.2⟩⟩⟩⟩,hk.2⟩))))
          (case aB=>exact (by repeat (first|(with_reducible first|exact HB.out|apply below_alloc|apply pw_below_drewN|apply below_drew1|refine below_set ?_ GE133.out|refine below_set ?_ GE134.out|refine below_set ?_ GE143.out)|exact HB.out)))
          (case aF=>exact (fun k_ hk=>⟨(.inr (Nat.le_trans (below_size (by repeat (first|(with_reducible first|exact HB.out|apply below_alloc|apply pw_below_drewN|apply below_drew1|refine below_set ?_ GE133.out|refine below_set ?_ GE134.out|refine below_set ?_ GE143.out)|exact HB.out))) hk)),Kd.fresh' (Kd.N_lt (by (with_reducible repeat (first|apply Kd.N_alloc|apply Kd.N_drewN|apply Kd.N_drew));exact HO152.out)) k_ hk,Kd.freshB (g:=gb133) (o:=.cells #[.int .i64 a0_0,.int .i64 a0_1,.int .i64 a0_2,.slice A0_3 l0_3.length c0_3] 24 (0,0)) (by (with_reducible repeat (first|refine blk_drewN ?_ _|refine blk_drew ?_|refine blk_alloc ?_ _));exact BK133.out) k_ hk,Kd.freshB (g:=gb134) (o:=.cells #[.int .i64 a1_0,.slice A1_1 l1_1.length c1_1] 27 (0,0)) (by (with_reducible repeat (first|refine blk_drewN ?_ _|refine blk_drew ?_|refine blk_alloc ?_ _));exact BK134.out) k_ hk,Kd.freshB (g:=gb143) (o:=.cells #[.int .i64 a0_0,.int .i64 a0_1,.int .i64 a0_2,.slice A0_3 l0_3.length c0_3] 24 (0,0)) (by (with_reducible repeat (first|refine blk_drewN ?_ _|refine blk_drew ?_|refine blk_alloc ?_ _));exact BK143.out) k_ hk⟩))
          (case aO=>exact (by (with_reducible repeat (first|apply Kd.N_alloc|apply Kd.N_drewN|apply Kd.N_drew));exact HO146.out))
          (case aS=>exact (below_size (by repeat (first|(with_reducible first|exact HB.out|apply below_alloc|apply pw_below_drewN|apply below_drew1|refine below_set ?_ GE133.out|refine below_set ?_ GE134.out|refine below_set ?_ GE143.out)|exact HB.out))))
          (case aL=>have:=LMc28.out;omega)
          intro v148 w48 ho hb hg hat
          rw [← Ny147.out] at ho
          have n0_:=Aside0.mk (Kd.V_afterv (ok:=(fun k_=>((P0_3_ k_ ∨ P1_1_ k_) ∨ w.heap.size ≤ k_) ∧ some k_ ≠ (v151 : Value).ownBlock ∧ k_ ≠ gb133 ∧ k_ ≠ gb134 ∧ k_ ≠ gb143)) (by (with_reducible repeat (first|apply Kd.V_alloc|apply Kd.V_drewN|apply Kd.V_drew));exact Kd.V_mono HO_134003.out (fun _ hk=>⟨⟨hk.1.1.1,⟨hk.1.2,⟨hk.1.1.2.1,⟨hk.1.1.2.2.1,hk.1.1.2.2.2⟩⟩⟩⟩,hk.2⟩)) hg hat)
          have n1_:=Aside0.mk (Kd.V_afterv (ok:=(fun k_=>((P0_3_ k_ ∨ P1_1_ k_) ∨ w.heap.size ≤ k_) ∧ some k_ ≠ (v151 : Value).ownBlock ∧ k_ ≠ gb133 ∧ k_ ≠ gb134 ∧ k_ ≠ gb143)) (by (with_reducible repeat (first|apply Kd.V_alloc|apply Kd.V_drewN|apply Kd.V_drew));exact Kd.V_mono HO_135001.out (fun _ hk=>⟨⟨hk.1.1.1,⟨hk.1.2,⟨hk.1.1.2.1,⟨hk.1.1.2.2.1,hk.1.1.2.2.2⟩⟩⟩⟩,hk.2⟩)) hg hat)
          have n2_:=Aside0.mk (blk_grown (g:=gb133) (o:=.cells #[.int .i64 a0_0,.int .i64 a0_1,.int .i64 a0_2,.slice A0_3 l0_3.length c0_3] 24 (0,0)) (by (with_reducible repeat (first|refine blk_drewN ?_ _|refine blk_drew ?_|refine blk_alloc ?_ _));exact BK133.out) hg (Kd.N_ne HO146.out BK133.out (by decide)))
          have n3_:=Aside0.mk (blk_grown (g:=gb134) (o:=.cells #[.int .i64 a1_0,.slice A1_1 l1_1.length c1_1] 27 (0,0)) (by (with_reducible repeat (first|refine blk_drewN ?_ _|refine blk_drew ?_|refine blk_alloc ?_ _));exact BK134.out) hg (Kd.N_away HO146.out (fun _ hk=>hk.2.2.2.1)))
          have n4_:=Aside0.mk (blk_grown (g:=gb143) (o:=.cells #[.int .i64 a0_0,.int .i64 a0_1,.int .i64 a0_2,.slice A0_3 l0_3.length c0_3] 24 (0,0)) (by (with_reducible repeat (first|refine blk_drewN ?_ _|refine blk_drew ?_|refine blk_alloc ?_ _));exact BK143.out) hg (Kd.N_ne HO146.out BK143.out (by decide)))
          have n5_:=Aside0.mk (Kd.N_afterv (ok:=(fun k_=>((P0_3_ k_ ∨ P1_1_ k_) ∨ w.heap.size ≤ k_) ∧ k_ ≠ gb133 ∧ k_ ≠ gb134 ∧ k_ ≠ gb143)) (by (with_reducible repeat (first|apply Kd.N_alloc|apply Kd.N_drewN|apply Kd.N_drew));exact HO152.out) hg hat)
          have n6_:=Aside0.mk (hb)
          have n7_:=Aside0.mk (ho)
          clear HO_134003
          clear HO_135001
          clear BK133
          clear BK134
          clear BK143
          clear HO152
          clear HB
          clear HO146
          have HO_134003:=n0_
          have HO_135001:=n1_
          have BK133:=n2_
          have BK134:=n3_
          have BK143:=n4_
          have HO152:=n5_
          have HB:=n6_
          have HO149:=n7_
          clear n0_ n1_ n2_ n3_ n4_ n5_ n6_ n7_
          clear ho hb hg hat
          refine hK.out _ _ ⟨(blk_cell BK133.out 0).trans rfl,(blk_cell BK133.out 1).trans rfl,(blk_cell BK133.out 2).trans rfl,(blk_cell BK133.out 3).trans rfl,(blk_cell BK134.out 0).trans rfl,(blk_cell BK134.out 1).trans rfl⟩ (fun hHeld=>?_)
          clear hK K
          refine norm_ (a':=?_) ?_ ?_
          rotate_left
          ·show Act.put _ (some 70) _ = _
           simp only [Act.put,List.setIfInBounds_toArray,List.set_cons_zero,List.set_cons_succ,i64_w,i32_w]
           rfl
          exact norm_ (by simp only [putAll,Act.put,List.setIfInBounds_toArray,List.set_cons_zero,List.set_cons_succ]) (hCont (v145,v148,v151) _ ⟨hHeld,(by (with_reducible repeat (first|apply Kd.N_alloc|apply Kd.N_drewN|apply Kd.N_drew));exact HO149.out),(by (with_reducible repeat (first|apply Kd.N_alloc|apply Kd.N_drewN|apply Kd.N_drew));exact Kd.N_mono HO152.out (fun _ hk=>⟨hk.1.1,⟨hk.2,⟨hk.1.2.1,⟨hk.1.2.2.1,hk.1.2.2.2⟩⟩⟩⟩)),(by (with_reducible repeat (first|apply Kd.V_alloc|apply Kd.V_drewN|apply Kd.V_drew));exact Kd.V_mono HO_134003.out (fun _ hk=>⟨hk.1.1,⟨hk.2,⟨hk.1.2.1,⟨hk.1.2.2.1,⟨hk.1.2.2.2.1,hk.1.2.2.2.2⟩⟩⟩⟩⟩)),(by (with_reducible repeat (first|apply Kd.V_alloc|apply Kd.V_drewN|apply Kd.V_drew));exact Kd.V_mono HO_135001.out (fun _ hk=>⟨hk.1.1,⟨hk.2,⟨hk.1.2.1,⟨hk.1.2.2.1,⟨hk.1.2.2.2.1,hk.1.2.2.2.2⟩⟩⟩⟩⟩)),(by (with_reducible repeat (first|refine blk_drewN ?_ _|refine blk_drew ?_|refine blk_alloc ?_ _));exact BK133.out),(by (with_reducible repeat (first|refine blk_drewN ?_ _|refine blk_drew ?_|refine blk_alloc ?_ _));exact BK134.out),(by (with_reducible repeat (first|refine blk_drewN ?_ _|refine blk_drew ?_|refine blk_alloc ?_ _));exact BK143.out),(by repeat (first|(with_reducible first|exact HB.out|apply below_alloc|apply pw_below_drewN|apply below_drew1|refine below_set ?_ GE133.out|refine below_set ?_ GE134.out|refine below_set ?_ GE143.out)|exact HB.out))⟩)
        rintro ⟨v145,v148,v151⟩ w49 ⟨hS_,h0_,h1_,h2_,h3_,h4_,h5_,h6_,h7_⟩
        have n0_ : Aside0 (Kd.N k27 27 w49 w.heap.size (fun k_=>((P0_3_ k_ ∨ P1_1_ k_) ∨ w.heap.size ≤ k_) ∧ some k_ ≠ (v151 : Value).ownBlock ∧ k_ ≠ gb133 ∧ k_ ≠ gb134 ∧ k_ ≠ gb143) v148 y147):=⟨h0_⟩
        have n1_ : Aside0 (Kd.N k27 27 w49 w.heap.size (fun k_=>((P0_3_ k_ ∨ P1_1_ k_) ∨ w.heap.size ≤ k_) ∧ some k_ ≠ (v148 : Value).ownBlock ∧ k_ ≠ gb133 ∧ k_ ≠ gb134 ∧ k_ ≠ gb143) v151 y150):=⟨h1_⟩
        have n2_ : Aside0 (Kd.V k27 27 w49 w.heap.size (fun k_=>((P0_3_ k_ ∨ P1_1_ k_) ∨ w.heap.size ≤ k_) ∧ some k_ ≠ (v148 : Value).ownBlock ∧ some k_ ≠ (v151 : Value).ownBlock ∧ k_ ≠ gb133 ∧ k_ ≠ gb134 ∧ k_ ≠ gb143) (.slice A0_3 l0_3.length c0_3) l0_3):=⟨h2_⟩
        have n3_ : Aside0 (Kd.V (Kd.int .i64) 3 w49 w.heap.size (fun k_=>((P0_3_ k_ ∨ P1_1_ k_) ∨ w.heap.size ≤ k_) ∧ some k_ ≠ (v148 : Value).ownBlock ∧ some k_ ≠ (v151 : Value).ownBlock ∧ k_ ≠ gb133 ∧ k_ ≠ gb134 ∧ k_ ≠ gb143) (.slice A1_1 l1_1.length c1_1) l1_1):=⟨h3_⟩
        have n4_ : Aside0 (w49.heap[gb133]? = some (.cells #[.int .i64 a0_0,.int .i64 a0_1,.int .i64 a0_2,.slice A0_3 l0_3.length c0_3] 24 (0,0))):=⟨h4_⟩
        have n5_ : Aside0 (w49.heap[gb134]? = some (.cells #[.int .i64 a1_0,.slice A1_1 l1_1.length c1_1] 27 (0,0))):=⟨h5_⟩
        have n6_ : Aside0 (w49.heap[gb143]? = some (.cells #[.int .i64 a0_0,.int .i64 a0_1,.int .i64 a0_2,.slice A0_3 l0_3.length c0_3] 24 (0,0))):=⟨h6_⟩
        have n7_ : Aside0 (Below w.heap.size w w49):=⟨h7_⟩
        clear HO_134003
        clear HO_135001
        clear BK133
        clear BK134
        clear BK143
        clear HB
        clear h0_ h1_ h2_ h3_ h4_ h5_ h6_ h7_
        have HO149:=n0_
        have HO152:=n1_
        have HO_134003:=n2_
        have HO_135001:=n3_
        have BK133:=n4_
        have BK134:=n5_
        have BK143:=n6_
        have HB:=n7_
        clear n0_ n1_ n2_ n3_ n4_ n5_ n6_ n7_
        have hHeld : w49.cell? ⟨gb133,0,none⟩ = some (.int .i64 a0_0) ∧ w49.cell? ⟨gb133,1,none⟩ = some (.int .i64 a0_1) ∧ w49.cell? ⟨gb133,2,none⟩ = some (.int .i64 a0_2) ∧ w49.cell? ⟨gb133,3,none⟩ = some (.slice A0_3 l0_3.length c0_3) ∧ w49.cell? ⟨gb134,0,none⟩ = some (.int .i64 a1_0) ∧ w49.cell? ⟨gb134,1,none⟩ = some (.slice A1_1 l1_1.length c1_1):=hS_
        obtain ⟨Ao51,co51,eo51⟩:=Kd.N_slice HO152.out
        (first|subst eo51|(injection eo51 with f1_ f2_ f3_;have f4_:=f1_.symm;have f5_:=f3_.symm;clear f1_ f2_ f3_;subst f4_;subst f5_))
        refine norm_ (a':=?_) ?_ ?_
        rotate_left
        ·simp only [putAll,Act.put,List.setIfInBounds_toArray,List.set_cons_zero,List.set_cons_succ]
         rfl
        refine one_ (i:=6) (N:=some 73) #[true,true,true,true,true,true,true,false,false] rfl rfl (one_of HT_.out (by kernel_rfl)) (by decide) (fun K hK=>?_)
        refine Kd.N_append_rows_step k27 (w0:=w) w.heap.size (by rfl) (.tmp 70) (.tmp 72) 22 27 (.agg #[(.int .i64 0),(.slice none 0 0)]) 32 rfl Try.underlying22 info27 rfl (by decide) (by omega) v148 y147 y150 _ _ _ (fun k_=>((P0_3_ k_ ∨ P1_1_ k_) ∨ w.heap.size ≤ k_) ∧ k_ ≠ gb133 ∧ k_ ≠ gb134 ∧ k_ ≠ gb143) (fun k_=>((fun k_=>((P0_3_ k_ ∨ P1_1_ k_) ∨ w.heap.size ≤ k_) ∧ k_ ≠ gb133 ∧ k_ ≠ gb134 ∧ k_ ≠ gb143)) k_ ∧ some k_ ≠ (v148 : Value).ownBlock) rfl rfl ?aO ?aR (fun _ hk=>hk) ?aF ?aB ?aS ?aL ?_
        (case aR=>exact (by skip;exact Kd.N_F (Kd.N_mono (ok':=(fun k_=>((fun k_=>((P0_3_ k_ ∨ P1_1_ k_) ∨ w.heap.size ≤ k_) ∧ k_ ≠ gb133 ∧ k_ ≠ gb134 ∧ k_ ≠ gb143)) k_ ∧ some k_ ≠ (v148 : Value).ownBlock)) (HO152.out) (fun k_ hk=>⟨⟨hk.1,⟨hk.2.2.1,⟨hk.2.2.2.1,hk.2.2.2.2⟩⟩⟩,hk.2.1⟩))))
        (case aB=>exact (by repeat (first|(with_reducible first|exact HB.out|apply below_alloc|apply pw_below_drewN|apply below_drew1|refine below_set ?_ GE133.out|refine below_set ?_ GE134.out|refine below_set ?_ GE143.out)|exact HB.out)))
        (case aF=>exact (fun k_ hk=>⟨(.inr (Nat.le_trans (below_size (by repeat (first|(with_reducible first|exact HB.out|apply below_alloc|apply pw_below_drewN|apply below_drew1|refine below_set ?_ GE133.out|refine below_set ?_ GE134.out|refine below_set ?_ GE143.out)|exact HB.out))) hk)),Kd.freshB (g:=gb133) (o:=.cells #[.int .i64 a0_0,.int .i64 a0_1,.int .i64 a0_2,.slice A0_3 l0_3.length c0_3] 24 (0,0)) (by (with_reducible repeat (first|refine blk_drewN ?_ _|refine blk_drew ?_|refine blk_alloc ?_ _));exact BK133.out) k_ hk,Kd.freshB (g:=gb134) (o:=.cells #[.int .i64 a1_0,.slice A1_1 l1_1.length c1_1] 27 (0,0)) (by (with_reducible repeat (first|refine blk_drewN ?_ _|refine blk_drew ?_|refine blk_alloc ?_ _));exact BK134.out) k_ hk,Kd.freshB (g:=gb143) (o:=.cells #[.int .i64 a0_0,.int .i64 a0_1,.int .i64 a0_2,.slice A0_3 l0_3.length c0_3] 24 (0,0)) (by (with_reducible repeat (first|refine blk_drewN ?_ _|refine blk_drew ?_|refine blk_alloc ?_ _));exact BK143.out) k_ hk⟩))
        (case aO=>exact (by (with_reducible repeat (first|apply Kd.N_alloc|apply Kd.N_drewN|apply Kd.N_drew));exact Kd.N_mono HO149.out (fun _ hk=>⟨hk.1,⟨hk.2.2.1,⟨hk.2.2.2.1,hk.2.2.2.2⟩⟩⟩)))
        (case aS=>exact (below_size (by repeat (first|(with_reducible first|exact HB.out|apply below_alloc|apply pw_below_drewN|apply below_drew1|refine below_set ?_ GE133.out|refine below_set ?_ GE134.out|refine below_set ?_ GE143.out)|exact HB.out))))
        (case aL=>have:=LMc29.out;omega)
        intro v154 w50 ho hb hg hat
        rw [← Ny153.out] at ho
        have n0_:=Aside0.mk (Kd.V_afterv (ok:=(fun k_=>((P0_3_ k_ ∨ P1_1_ k_) ∨ w.heap.size ≤ k_) ∧ some k_ ≠ (.slice Ao51 y150.length co51 : Value).ownBlock ∧ k_ ≠ gb133 ∧ k_ ≠ gb134 ∧ k_ ≠ gb143)) (by (with_reducible repeat (first|apply Kd.V_alloc|apply Kd.V_drewN|apply Kd.V_drew));exact Kd.V_mono HO_134003.out (fun _ hk=>⟨⟨hk.1,⟨hk.2.2.1,⟨hk.2.2.2.1,⟨hk.2.2.2.2.1,hk.2.2.2.2.2⟩⟩⟩⟩,hk.2.1⟩)) hg hat)
        have n1_:=Aside0.mk (Kd.V_afterv (ok:=(fun k_=>((P0_3_ k_ ∨ P1_1_ k_) ∨ w.heap.size ≤ k_) ∧ some k_ ≠ (.slice Ao51 y150.length co51 : Value).ownBlock ∧ k_ ≠ gb133 ∧ k_ ≠ gb134 ∧ k_ ≠ gb143)) (by (with_reducible repeat (first|apply Kd.V_alloc|apply Kd.V_drewN|apply Kd.V_drew));exact Kd.V_mono HO_135001.out (fun _ hk=>⟨⟨hk.1,⟨hk.2.2.1,⟨hk.2.2.2.1,⟨hk.2.2.2.2.1,hk.2.2.2.2.2⟩⟩⟩⟩,hk.2.1⟩)) hg hat)
        have n2_:=Aside0.mk (blk_grown (g:=gb133) (o:=.cells #[.int .i64 a0_0,.int .i64 a0_1,.int .i64 a0_2,.slice A0_3 l0_3.length c0_3] 24 (0,0)) (by (with_reducible repeat (first|refine blk_drewN ?_ _|refine blk_drew ?_|refine blk_alloc ?_ _));exact BK133.out) hg (Kd.N_ne HO149.out BK133.out (by decide)))
        have n3_:=Aside0.mk (blk_grown (g:=gb134) (o:=.cells #[.int .i64 a1_0,.slice A1_1 l1_1.length c1_1] 27 (0,0)) (by (with_reducible repeat (first|refine blk_drewN ?_ _|refine blk_drew ?_|refine blk_alloc ?_ _));exact BK134.out) hg (Kd.N_away HO149.out (fun _ hk=>hk.2.2.2.1)))
        have n4_:=Aside0.mk (blk_grown (g:=gb143) (o:=.cells #[.int .i64 a0_0,.int .i64 a0_1,.int .i64 a0_2,.slice A0_3 l0_3.length c0_3] 24 (0,0)) (by (with_reducible repeat (first|refine blk_drewN ?_ _|refine blk_drew ?_|refine blk_alloc ?_ _));exact BK143.out) hg (Kd.N_ne HO149.out BK143.out (by decide)))
        have n5_:=Aside0.mk (Kd.N_afterv (ok:=(fun k_=>((P0_3_ k_ ∨ P1_1_ k_) ∨ w.heap.size ≤ k_) ∧ k_ ≠ gb133 ∧ k_ ≠ gb134 ∧ k_ ≠ gb143)) (by (with_reducible repeat (first|apply Kd.N_alloc|apply Kd.N_drewN|apply Kd.N_drew));exact Kd.N_mono HO152.out (fun _ hk=>⟨⟨hk.1,⟨hk.2.2.1,⟨hk.2.2.2.1,hk.2.2.2.2⟩⟩⟩,hk.2.1⟩)) hg hat)
        have n6_:=Aside0.mk (hb)
        have n7_:=Aside0.mk (ho)
        clear HO_134003
        clear HO_135001
        clear BK133
        clear BK134
        clear BK143
        clear HO152
        clear HB
        clear HO149
        have HO_134003:=n0_
        have HO_135001:=n1_
        have BK133:=n2_
        have BK134:=n3_
        have BK143:=n4_
        have HO152:=n5_
        have HB:=n6_
        have HO155:=n7_
        clear n0_ n1_ n2_ n3_ n4_ n5_ n6_ n7_
        clear ho hb hg hat
        obtain ⟨Ao52,co52,eo52⟩:=Kd.N_slice HO155.out
        (first|subst eo52|(injection eo52 with f1_ f2_ f3_;have f4_:=f1_.symm;have f5_:=f3_.symm;clear f1_ f2_ f3_;subst f4_;subst f5_))
        refine hK.out _ _ ⟨(blk_cell BK133.out 0).trans rfl,(blk_cell BK133.out 1).trans rfl,(blk_cell BK133.out 2).trans rfl,(blk_cell BK133.out 3).trans rfl,(blk_cell BK134.out 0).trans rfl,(blk_cell BK134.out 1).trans rfl⟩ (fun hHeld=>?_)
        clear hK K
        refine norm_ (a':=?_) ?_ ?_
        rotate_left
        ·show Act.put _ (some 73) _ = _
         simp only [Act.put,List.setIfInBounds_toArray,List.set_cons_zero,List.set_cons_succ,i64_w,i32_w]
         rfl
        refine pure_ (i:=7) (N:=some 74) (v:=?_) (a':=?_) #[true,true,true,true,true,true,true,true,false] rfl rfl (any_of HT_.out (by kernel_rfl)) (fun _ _ _ h=>h) (Or.inl ⟨by rfl,?_⟩) ?_ ?_
        rotate_left
        ·intro w'
         go_simp
         with_reducible rfl
        rotate_left
        ·simp only [Act.put,List.setIfInBounds_toArray,List.set_cons_zero,List.set_cons_succ,i64_w,i32_w]
         rfl
        refine one_ (i:=8) (N:=none) #[true,true,true,true,true,true,true,true,true] rfl rfl (one_of HT_.out (by kernel_rfl)) (by decide) (fun K hK=>?_)
        have hs53 : w50.cell? ⟨gb143,3,none⟩ = some (.slice A0_3 l0_3.length c0_3):=(blk_cell BK143.out 3).trans rfl
        have hfs53:=blk_frozen BK143.out 3
        have hns53_0:=NB133_143.out
        have hns53_1:=NB134_143.out
        have hms53_0:=NB143_133.out
        have hms53_1:=NB143_134.out
        refine skip_ (w1:=?_) (by rfl) rfl ?_ ?_
        rotate_left
        ·go_simp
         rfl
        refine hK.out _ _ ⟨((cell_far (p:=⟨gb143,_,none⟩) NB133_143.out _).trans (hHeld.1)),((cell_far (p:=⟨gb143,_,none⟩) NB133_143.out _).trans (hHeld.2.1)),((cell_far (p:=⟨gb143,_,none⟩) NB133_143.out _).trans (hHeld.2.2.1)),((cell_far (p:=⟨gb143,_,none⟩) NB133_143.out _).trans (hHeld.2.2.2.1)),((cell_far (p:=⟨gb143,_,none⟩) NB134_143.out _).trans (hHeld.2.2.2.2.1)),((cell_far (p:=⟨gb143,_,none⟩) NB134_143.out _).trans (hHeld.2.2.2.2.2))⟩ (fun hHeld=>?_)
        clear hK K
        refine done_ (done_of HT_.out (by kernel_rfl)) ?_
        have hcz54_0 : w50.cell? ⟨gb143,0,none⟩ = some (.int .i64 a0_0):=(blk_cell BK143.out 0).trans rfl
        have hcz54_1 : w50.cell? ⟨gb143,1,none⟩ = some (.int .i64 a0_1):=(blk_cell BK143.out 1).trans rfl
        have hcz54_2 : w50.cell? ⟨gb143,2,none⟩ = some (.int .i64 a0_2):=(blk_cell BK143.out 2).trans rfl
        have hcz54_3 : w50.cell? ⟨gb143,3,none⟩ = some (.slice A0_3 l0_3.length c0_3):=(blk_cell BK143.out 3).trans rfl
        have hfz54_0:=blk_frozen BK143.out 0
        have hfz54_1:=blk_frozen BK143.out 1
        have hfz54_2:=blk_frozen BK143.out 2
        have hfz54_3:=blk_frozen BK143.out 3
        go_upto_region 15 with (first|((with_reducible refine gate_callee (f:=15) rfl ?_);refine goesL_ (some 77) rfl rfl Try.func15 (by kernel_rfl) rfl #[.agg #[.int .i64 a0_0,.int .i64 a0_1,.int .i64 a0_2,.slice Ao52 y153.length co52]] rfl (by (try simp only [List.map_toArray,List.map_cons,List.map_nil]);first|done|rfl|(simp only [List.length_drop,List.length_take];rfl)) ?_;(with_reducible refine (grammar_Makes.calls kj7 a0_0 a0_1 a0_2 _ _ y153 t156 t157 _ ?side1 ?side2 A30.out).mono ?_);(case side1=>refine (Kd.N_reads' (e:=27) (base:=w.heap.size) (ok:=fun k_=>((((P0_3_ k_ ∨ P1_1_ k_) ∨ w.heap.size ≤ k_)) ∧ (k_ ≠ gb133 ∧ (k_ ≠ gb134 ∧ k_ ≠ gb143)))) (n:=y153.length) (c:=co52) ?_).2.2;exact (by (with_reducible repeat (first|apply Kd.N_alloc|apply Kd.N_drewN|apply Kd.N_drew));exact (Kd.N_mono (Kd.N_far (p:=⟨gb143,3,none⟩) (Kd.N_mono HO155.out (fun k_ hk=>(⟨hk,hk.2.2.2⟩ : _ ∧ k_ ≠ gb143))) (fun _ hk=>hk.2) (.slice Ao52 y153.length co52)) (fun _ h_=>h_.1))));(case side2=>exact (Kd.N_reads' HO155.out).2.1);rintro e w55 ⟨rfl,hb⟩;refine ⟨_,rfl,?_⟩;have n0_:=Aside0.mk (Kd.V_below (by (with_reducible repeat (first|apply Kd.V_alloc|apply Kd.V_drewN|apply Kd.V_drew));exact (Kd.V_mono (Kd.V_far (p:=⟨gb143,3,none⟩) (Kd.V_mono HO_134003.out (fun k_ hk=>(⟨hk,hk.1.2.2.2.2⟩ : _ ∧ k_ ≠ gb143))) (fun _ hk=>hk.2) (.slice Ao52 y153.length co52)) (fun _ h_=>h_.1))) hb);have n1_:=Aside0.mk (Kd.V_below (by (with_reducible repeat (first|apply Kd.V_alloc|apply Kd.V_drewN|apply Kd.V_drew));exact (Kd.V_mono (Kd.V_far (p:=⟨gb143,3,none⟩) (Kd.V_mono HO_135001.out (fun k_ hk=>(⟨hk,hk.1.2.2.2.2⟩ : _ ∧ k_ ≠ gb143))) (fun _ hk=>hk.2) (.slice Ao52 y153.length co52)) (fun _ h_=>h_.1))) hb);have n2_:=Aside0.mk (Kd.N_below (by (with_reducible repeat (first|apply Kd.N_alloc|apply Kd.N_drewN|apply Kd.N_drew));exact (Kd.N_mono (Kd.N_far (p:=⟨gb143,3,none⟩) (Kd.N_mono HO152.out (fun k_ hk=>(⟨hk,hk.1.2.2.2⟩ : _ ∧ k_ ≠ gb143))) (fun _ hk=>hk.2) (.slice Ao52 y153.length co52)) (fun _ h_=>h_.1))) hb);have n3_:=Aside0.mk (Kd.N_below (by (with_reducible repeat (first|apply Kd.N_alloc|apply Kd.N_drewN|apply Kd.N_drew));exact (Kd.N_mono (Kd.N_far (p:=⟨gb143,3,none⟩) (Kd.N_mono HO155.out (fun k_ hk=>(⟨hk,hk.2.2.2⟩ : _ ∧ k_ ≠ gb143))) (fun _ hk=>hk.2) (.slice Ao52 y153.length co52)) (fun _ h_=>h_.1))) hb);have n4_:=Aside0.mk (blk_below (g:=gb133) (o:=.cells #[.int .i64 a0_0,.int .i64 a0_1,.int .i64 a0_2,.slice A0_3 l0_3.length c0_3] 24 (0,0)) (by (with_reducible repeat (first|refine blk_drewN ?_ _|refine blk_drew ?_|refine blk_alloc ?_ _));refine blk_far ?_ NB133_143.out _;(with_reducible repeat (first|refine blk_drewN ?_ _|refine blk_drew ?_|refine blk_alloc ?_ _));exact BK133.out) hb);have n5_:=Aside0.mk (blk_below (g:=gb134) (o:=.cells #[.int .i64 a1_0,.slice A1_1 l1_1.length c1_1] 27 (0,0)) (by (with_reducible repeat (first|refine blk_drewN ?_ _|refine blk_drew ?_|refine blk_alloc ?_ _));refine blk_far ?_ NB134_143.out _;(with_reducible repeat (first|refine blk_drewN ?_ _|refine blk_drew ?_|refine blk_alloc ?_ _));exact BK134.out) hb);have n6_:=Aside0.mk (blk_below (g:=gb143) (o:=.cells #[.int .i64 a0_0,.int .i64 a0_1,.int .i64 a0_2,.slice Ao52 y153.length co52] 24 (0,0)) (by (with_reducible repeat (first|refine blk_drewN ?_ _|refine blk_drew ?_|refine blk_alloc ?_ _));refine blk_put (cs:=#[.int .i64 a0_0,.int .i64 a0_1,.int .i64 a0_2,.slice A0_3 l0_3.length c0_3]) ?_ 3 _ rfl;(with_reducible repeat (first|refine blk_drewN ?_ _|refine blk_drew ?_|refine blk_alloc ?_ _));exact BK143.out) hb);have n7_:=Aside0.mk (below_step (by repeat (first|(with_reducible first|exact HB.out|apply below_alloc|apply pw_below_drewN|apply below_drew1|refine below_set ?_ GE133.out|refine below_set ?_ GE134.out|refine below_set ?_ GE143.out)|exact HB.out)) hb);clear HO_134003;clear HO_135001;clear HO152;clear HO155;clear BK133;clear BK134;clear BK143;clear HB;have HO_134003:=n0_;have HO_135001:=n1_;have HO152:=n2_;have HO155:=n3_;have BK133:=n4_;have BK134:=n5_;have BK143:=n6_;have HB:=n7_;clear n0_ n1_ n2_ n3_ n4_ n5_ n6_ n7_;(try clear hb);(try clear hb2);(try clear hk);(try clear hi);have hcz56_0 : w55.cell? ⟨gb143,0,none⟩ = some (.int .i64 a0_0):=(blk_cell BK143.out 0).trans rfl;have hcz56_1 : w55.cell? ⟨gb143,1,none⟩ = some (.int .i64 a0_1):=(blk_cell BK143.out 1).trans rfl;have hcz56_2 : w55.cell? ⟨gb143,2,none⟩ = some (.int .i64 a0_2):=(blk_cell BK143.out 2).trans rfl;have hcz56_3 : w55.cell? ⟨gb143,3,none⟩ = some (.slice Ao52 y153.length co52):=(blk_cell BK143.out 3).trans rfl;have hfz56_0:=blk_frozen BK143.out 0;have hfz56_1:=blk_frozen BK143.out 1;have hfz56_2:=blk_frozen BK143.out 2;have hfz56_3:=blk_frozen BK143.out 3)|((with_reducible refine gate_callee (f:=16) rfl ?_);refine goesL_ (some 82) rfl rfl Try.func16 (by kernel_rfl) rfl #[.agg #[.int .i64 a0_0,.int .i64 a0_1,.int .i64 a0_2,.slice Ao52 y153.length co52]] rfl (by (try simp only [List.map_toArray,List.map_cons,List.map_nil]);first|done|rfl|(simp only [List.length_drop,List.length_take];rfl)) ?_;(with_reducible refine (grammar_Void.calls kj7 a0_0 a0_1 a0_2 _ _ y153 t158 t159 _ ?side1 ?side2 A31.out).mono ?_);(case side1=>repeat (first|exact (Kd.N_reads' HO155.out).2.2|(with_reducible refine Kd.C_alloc ?_ _)|(with_reducible refine Kd.C_drewN ?_ _)|(with_reducible refine Kd.C_drew ?_)));(case side2=>exact (Kd.N_reads' HO155.out).2.1);rintro e w57 ⟨rfl,hb⟩;refine ⟨_,rfl,?_⟩;have n0_:=Aside0.mk (Kd.V_below (by (with_reducible repeat (first|apply Kd.V_alloc|apply Kd.V_drewN|apply Kd.V_drew));exact HO_134003.out) hb);have n1_:=Aside0.mk (Kd.V_below (by (with_reducible repeat (first|apply Kd.V_alloc|apply Kd.V_drewN|apply Kd.V_drew));exact HO_135001.out) hb);have n2_:=Aside0.mk (Kd.N_below (by (with_reducible repeat (first|apply Kd.N_alloc|apply Kd.N_drewN|apply Kd.N_drew));exact HO152.out) hb);have n3_:=Aside0.mk (Kd.N_below (by (with_reducible repeat (first|apply Kd.N_alloc|apply Kd.N_drewN|apply Kd.N_drew));exact HO155.out) hb);have n4_:=Aside0.mk (blk_below (g:=gb133) (o:=.cells #[.int .i64 a0_0,.int .i64 a0_1,.int .i64 a0_2,.slice A0_3 l0_3.length c0_3] 24 (0,0)) (by (with_reducible repeat (first|refine blk_drewN ?_ _|refine blk_drew ?_|refine blk_alloc ?_ _));exact BK133.out) hb);have n5_:=Aside0.mk (blk_below (g:=gb134) (o:=.cells #[.int .i64 a1_0,.slice A1_1 l1_1.length c1_1] 27 (0,0)) (by (with_reducible repeat (first|refine blk_drewN ?_ _|refine blk_drew ?_|refine blk_alloc ?_ _));exact BK134.out) hb);have n6_:=Aside0.mk (blk_below (g:=gb143) (o:=.cells #[.int .i64 a0_0,.int .i64 a0_1,.int .i64 a0_2,.slice Ao52 y153.length co52] 24 (0,0)) (by (with_reducible repeat (first|refine blk_drewN ?_ _|refine blk_drew ?_|refine blk_alloc ?_ _));exact BK143.out) hb);have n7_:=Aside0.mk (below_step (by repeat (first|(with_reducible first|exact HB.out|apply below_alloc|apply pw_below_drewN|apply below_drew1|refine below_set ?_ GE133.out|refine below_set ?_ GE134.out|refine below_set ?_ GE143.out)|exact HB.out)) hb);clear HO_134003;clear HO_135001;clear HO152;clear HO155;clear BK133;clear BK134;clear BK143;clear HB;have HO_134003:=n0_;have HO_135001:=n1_;have HO152:=n2_;have HO155:=n3_;have BK133:=n4_;have BK134:=n5_;have BK143:=n6_;have HB:=n7_;clear n0_ n1_ n2_ n3_ n4_ n5_ n6_ n7_;(try clear hb);(try clear hb2);(try clear hk);(try clear hi);have hcz58_0 : w57.cell? ⟨gb143,0,none⟩ = some (.int .i64 a0_0):=(blk_cell BK143.out 0).trans rfl;have hcz58_1 : w57.cell? ⟨gb143,1,none⟩ = some (.int .i64 a0_1):=(blk_cell BK143.out 1).trans rfl;have hcz58_2 : w57.cell? ⟨gb143,2,none⟩ = some (.int .i64 a0_2):=(blk_cell BK143.out 2).trans rfl;have hcz58_3 : w57.cell? ⟨gb143,3,none⟩ = some (.slice Ao52 y153.length co52):=(blk_cell BK143.out 3).trans rfl;have hfz58_0:=blk_frozen BK143.out 0;have hfz58_1:=blk_frozen BK143.out 1;have hfz58_2:=blk_frozen BK143.out 2;have hfz58_3:=blk_frozen BK143.out 3)|((with_reducible refine gate_callee (f:=17) rfl ?_);refine goesL_ (some 87) rfl rfl Try.func17 (by kernel_rfl) rfl #[.agg #[.int .i64 a0_0,.int .i64 a0_1,.int .i64 a0_2,.slice Ao52 y153.length co52]] rfl (by (try simp only [List.map_toArray,List.map_cons,List.map_nil]);first|done|rfl|(simp only [List.length_drop,List.length_take];rfl)) ?_;(with_reducible refine (grammar_Comes.calls kj7 a0_0 a0_1 a0_2 _ _ y153 t160 t161 _ ?side1 ?side2 A32.out).mono ?_);(case side1=>repeat (first|exact (Kd.N_reads' HO155.out).2.2|(with_reducible refine Kd.C_alloc ?_ _)|(with_reducible refine Kd.C_drewN ?_ _)|(with_reducible refine Kd.C_drew ?_)));(case side2=>exact (Kd.N_reads' HO155.out).2.1);rintro e w59 ⟨rfl,hb⟩;refine ⟨_,rfl,?_⟩;have n0_:=Aside0.mk (Kd.V_below (by (with_reducible repeat (first|apply Kd.V_alloc|apply Kd.V_drewN|apply Kd.V_drew));exact HO_134003.out) hb);have n1_:=Aside0.mk (Kd.V_below (by (with_reducible repeat (first|apply Kd.V_alloc|apply Kd.V_drewN|apply Kd.V_drew));exact HO_135001.out) hb);have n2_:=Aside0.mk (Kd.N_below (by (with_reducible repeat (first|apply Kd.N_alloc|apply Kd.N_drewN|apply Kd.N_drew));exact HO152.out) hb);have n3_:=Aside0.mk (Kd.N_below (by (with_reducible repeat (first|apply Kd.N_alloc|apply Kd.N_drewN|apply Kd.N_drew));exact HO155.out) hb);have n4_:=Aside0.mk (blk_below (g:=gb133) (o:=.cells #[.int .i64 a0_0,.int .i64 a0_1,.int .i64 a0_2,.slice A0_3 l0_3.length c0_3] 24 (0,0)) (by (with_reducible repeat (first|refine blk_drewN ?_ _|refine blk_drew ?_|refine blk_alloc ?_ _));exact BK133.out) hb);have n5_:=Aside0.mk (blk_below (g:=gb134) (o:=.cells #[.int .i64 a1_0,.slice A1_1 l1_1.length c1_1] 27 (0,0)) (by (with_reducible repeat (first|refine blk_drewN ?_ _|refine blk_drew ?_|refine blk_alloc ?_ _));exact BK134.out) hb);have n6_:=Aside0.mk (blk_below (g:=gb143) (o:=.cells #[.int .i64 a0_0,.int .i64 a0_1,.int .i64 a0_2,.slice Ao52 y153.length co52] 24 (0,0)) (by (with_reducible repeat (first|refine blk_drewN ?_ _|refine blk_drew ?_|refine blk_alloc ?_ _));exact BK143.out) hb);have n7_:=Aside0.mk (below_step (by repeat (first|(with_reducible first|exact HB.out|apply below_alloc|apply pw_below_drewN|apply below_drew1|refine below_set ?_ GE133.out|refine below_set ?_ GE134.out|refine below_set ?_ GE143.out)|exact HB.out)) hb);clear HO_134003;clear HO_135001;clear HO152;clear HO155;clear BK133;clear BK134;clear BK143;clear HB;have HO_134003:=n0_;have HO_135001:=n1_;have HO152:=n2_;have HO155:=n3_;have BK133:=n4_;have BK134:=n5_;have BK143:=n6_;have HB:=n7_;clear n0_ n1_ n2_ n3_ n4_ n5_ n6_ n7_;(try clear hb);(try clear hb2);(try clear hk);(try clear hi);have hcz60_0 : w59.cell? ⟨gb143,0,none⟩ = some (.int .i64 a0_0):=(blk_cell BK143.out 0).trans rfl;have hcz60_1 : w59.cell? ⟨gb143,1,none⟩ = some (.int .i64 a0_1):=(blk_cell BK143.out 1).trans rfl;have hcz60_2 : w59.cell? ⟨gb143,2,none⟩ = some (.int .i64 a0_2):=(blk_cell BK143.out 2).trans rfl;have hcz60_3 : w59.cell? ⟨gb143,3,none⟩ = some (.slice Ao52 y153.length co52):=(blk_cell BK143.out 3).trans rfl;have hfz60_0:=blk_frozen BK143.out 0;have hfz60_1:=blk_frozen BK143.out 1;have hfz60_2:=blk_frozen BK143.out 2;have hfz60_3:=blk_frozen BK143.out 3)|((with_reducible refine gate_callee (f:=18) rfl ?_);refine goesL_ (some 91) rfl rfl Try.func18 (by kernel_rfl) rfl #[.agg #[.int .i64 a0_0,.int .i64 a0_1,.int .i64 a0_2,.slice Ao52 y153.length co52]] rfl (by (try simp only [List.map_toArray,List.map_cons,List.map_nil]);first|done|rfl|(simp only [List.length_drop,List.length_take];rfl)) ?_;(with_reducible refine (coppicerref_GrammarCheck.calls kj7 a0_0 a0_1 a0_2 _ _ y153 t162 _ ?side1 ?side2 A33.out).mono ?_);(case side1=>repeat (first|exact (Kd.N_reads' HO155.out).2.2|(with_reducible refine Kd.C_alloc ?_ _)|(with_reducible refine Kd.C_drewN ?_ _)|(with_reducible refine Kd.C_drew ?_)));(case side2=>exact (Kd.N_reads' HO155.out).2.1);rintro e w61 ⟨rfl,hb⟩;refine ⟨_,rfl,?_⟩;have n0_:=Aside0.mk (Kd.V_below (by (with_reducible repeat (first|apply Kd.V_alloc|apply Kd.V_drewN|apply Kd.V_drew));exact HO_134003.out) hb);have n1_:=Aside0.mk (Kd.V_below (by (with_reducible repeat (first|apply Kd.V_alloc|apply Kd.V_drewN|apply Kd.V_drew));exact HO_135001.out) hb);have n2_:=Aside0.mk (Kd.N_below (by (with_reducible repeat (first|apply Kd.N_alloc|apply Kd.N_drewN|apply Kd.N_drew));exact HO152.out) hb);have n3_:=Aside0.mk (Kd.N_below (by (with_reducible repeat (first|apply Kd.N_alloc|apply Kd.N_drewN|apply Kd.N_drew));exact HO155.out) hb);have n4_:=Aside0.mk (blk_below (g:=gb133) (o:=.cells #[.int .i64 a0_0,.int .i64 a0_1,.int .i64 a0_2,.slice A0_3 l0_3.length c0_3] 24 (0,0)) (by (with_reducible repeat (first|refine blk_drewN ?_ _|refine blk_drew ?_|refine blk_alloc ?_ _));exact BK133.out) hb);have n5_:=Aside0.mk (blk_below (g:=gb134) (o:=.cells #[.int .i64 a1_0,.slice A1_1 l1_1.length c1_1] 27 (0,0)) (by (with_reducible repeat (first|refine blk_drewN ?_ _|refine blk_drew ?_|refine blk_alloc ?_ _));exact BK134.out) hb);have n6_:=Aside0.mk (blk_below (g:=gb143) (o:=.cells #[.int .i64 a0_0,.int .i64 a0_1,.int .i64 a0_2,.slice Ao52 y153.length co52] 24 (0,0)) (by (with_reducible repeat (first|refine blk_drewN ?_ _|refine blk_drew ?_|refine blk_alloc ?_ _));exact BK143.out) hb);have n7_:=Aside0.mk (below_step (by repeat (first|(with_reducible first|exact HB.out|apply below_alloc|apply pw_below_drewN|apply below_drew1|refine below_set ?_ GE133.out|refine below_set ?_ GE134.out|refine below_set ?_ GE143.out)|exact HB.out)) hb);clear HO_134003;clear HO_135001;clear HO152;clear HO155;clear BK133;clear BK134;clear BK143;clear HB;have HO_134003:=n0_;have HO_135001:=n1_;have HO152:=n2_;have HO155:=n3_;have BK133:=n4_;have BK134:=n5_;have BK143:=n6_;have HB:=n7_;clear n0_ n1_ n2_ n3_ n4_ n5_ n6_ n7_;(try clear hb);(try clear hb2);(try clear hk);(try clear hi)))
        (try simp only [Act.put,List.setIfInBounds_toArray,List.set_cons_zero,List.set_cons_succ])
        go_cut [4] (fun v4 wc=>∃ (kq : Nat) (x4_34 : Bool),v4 = .bool x4_34 ∧ Aside0 (coppicerkeep_GrammarSets.j3 kq x4_34 = some r) ∧ Aside0 (kq ≤ kj7) ∧ Aside0 (Kd.V k27 27 wc w.heap.size (fun k_=>((P0_3_ k_ ∨ P1_1_ k_) ∨ w.heap.size ≤ k_) ∧ some k_ ≠ ((.slice Ao52 y153.length co52) : Value).ownBlock ∧ k_ ≠ gb133 ∧ k_ ≠ gb134 ∧ k_ ≠ gb143) (.slice A0_3 l0_3.length c0_3) l0_3) ∧ Aside0 (Kd.V (Kd.int .i64) 3 wc w.heap.size (fun k_=>((P0_3_ k_ ∨ P1_1_ k_) ∨ w.heap.size ≤ k_) ∧ some k_ ≠ ((.slice Ao52 y153.length co52) : Value).ownBlock ∧ k_ ≠ gb133 ∧ k_ ≠ gb134 ∧ k_ ≠ gb143) (.slice A1_1 l1_1.length c1_1) l1_1) ∧ Aside0 (Kd.N k27 27 wc w.heap.size (fun k_=>((P0_3_ k_ ∨ P1_1_ k_) ∨ w.heap.size ≤ k_) ∧ k_ ≠ gb133 ∧ k_ ≠ gb134 ∧ k_ ≠ gb143) (.slice Ao52 y153.length co52) y153) ∧ Aside0 (wc.heap[gb133]? = some (.cells #[.int .i64 a0_0,.int .i64 a0_1,.int .i64 a0_2,(.slice A0_3 l0_3.length c0_3)] 24 (0,0))) ∧ Aside0 (wc.heap[gb134]? = some (.cells #[.int .i64 a1_0,(.slice A1_1 l1_1.length c1_1)] 27 (0,0))) ∧ Aside0 (wc.heap[gb143]? = some (.cells #[.int .i64 a0_0,.int .i64 a0_1,.int .i64 a0_2,(.slice Ao52 y153.length co52)] 24 (0,0))) ∧ Aside0 (Below w.heap.size w wc))
        case first =>
         have H:=HC35.out
         clear HC35
         by_cases c62 : t157 = 0
         ·rw [if_pos c62] at H
          have c62b0 : (t157 == 0) = true:=beq_iff_eq.mpr c62
          have c62b1 : (t157 != 0) = false:=bne_eq_false_iff_eq.mpr c62
          clear c62
          (first|rw [c62b0]|(simp only [i64_w,i32_w];rw [c62b0])|skip)
          by_cases c63 : t159 = 0
          ·rw [if_pos c63] at H
           have c63b0 : (t159 == 0) = true:=beq_iff_eq.mpr c63
           have c63b1 : (t159 != 0) = false:=bne_eq_false_iff_eq.mpr c63
           clear c63
           by_cases c64 : t161 = 0
           ·rw [if_pos c64] at H
            have c64b0 : (t161 == 0) = true:=beq_iff_eq.mpr c64
            have c64b1 : (t161 != 0) = false:=bne_eq_false_iff_eq.mpr c64
            clear c64
            by_cases c65 : (Go.bits .andNot .u32 t135 t156) = 0
            ·rw [if_pos c65] at H
             have c65b0 : ((Go.bits .andNot .u32 t135 t156) == 0) = true:=beq_iff_eq.mpr c65
             have c65b1 : ((Go.bits .andNot .u32 t135 t156) != 0) = false:=bne_eq_false_iff_eq.mpr c65
             clear c65
             by_cases c66 : (Go.bits .andNot .u32 t137 t158) = 0
             ·rw [if_pos c66] at H
              have c66b0 : ((Go.bits .andNot .u32 t137 t158) == 0) = true:=beq_iff_eq.mpr c66
              have c66b1 : ((Go.bits .andNot .u32 t137 t158) != 0) = false:=bne_eq_false_iff_eq.mpr c66
              clear c66
              have H':=Aside0.mk H
              clear H
              go_wp2
              go_meet
              case rel=>exact ⟨_,(((Go.bits .andNot .u32 t139 t160) == 0)),(by first|rfl|(simp;done)|(simp [*];done)),H',⟨by have:=HJ7.out;first|omega|exact Nat.le_refl _⟩,⟨by (with_reducible repeat (first|apply Kd.V_alloc|apply Kd.V_drewN|apply Kd.V_drew));exact Kd.V_mono HO_134003.out (fun _ hk=>⟨hk.1.1,⟨hk.2,⟨hk.1.2.2.1,⟨hk.1.2.2.2.1,hk.1.2.2.2.2⟩⟩⟩⟩)⟩,⟨by (with_reducible repeat (first|apply Kd.V_alloc|apply Kd.V_drewN|apply Kd.V_drew));exact Kd.V_mono HO_135001.out (fun _ hk=>⟨hk.1.1,⟨hk.2,⟨hk.1.2.2.1,⟨hk.1.2.2.2.1,hk.1.2.2.2.2⟩⟩⟩⟩)⟩,⟨by (with_reducible repeat (first|apply Kd.N_alloc|apply Kd.N_drewN|apply Kd.N_drew));exact HO155.out⟩,⟨by (with_reducible repeat (first|refine blk_drewN ?_ _|refine blk_drew ?_|refine blk_alloc ?_ _));exact BK133.out⟩,⟨by (with_reducible repeat (first|refine blk_drewN ?_ _|refine blk_drew ?_|refine blk_alloc ?_ _));exact BK134.out⟩,⟨by (with_reducible repeat (first|refine blk_drewN ?_ _|refine blk_drew ?_|refine blk_alloc ?_ _));exact BK143.out⟩,⟨by repeat (first|(with_reducible first|exact HB.out|apply below_alloc|apply pw_below_drewN|apply below_drew1|refine below_set ?_ GE133.out|refine below_set ?_ GE134.out|refine below_set ?_ GE143.out)|exact HB.out)⟩⟩
             ·rw [if_neg c66] at H
              have c66b0 : ((Go.bits .andNot .u32 t137 t158) == 0) = false:=beq_eq_false_iff_ne.mpr c66
              have c66b1 : ((Go.bits .andNot .u32 t137 t158) != 0) = true:=bne_iff_ne.mpr c66
              have H':=Aside0.mk H
              clear H
              go_wp2
              go_meet
              case rel=>exact ⟨_,(false),(by first|rfl|(simp;done)|(simp [*];done)),H',⟨by have:=HJ7.out;first|omega|exact Nat.le_refl _⟩,⟨by (with_reducible repeat (first|apply Kd.V_alloc|apply Kd.V_drewN|apply Kd.V_drew));exact Kd.V_mono HO_134003.out (fun _ hk=>⟨hk.1.1,⟨hk.2,⟨hk.1.2.2.1,⟨hk.1.2.2.2.1,hk.1.2.2.2.2⟩⟩⟩⟩)⟩,⟨by (with_reducible repeat (first|apply Kd.V_alloc|apply Kd.V_drewN|apply Kd.V_drew));exact Kd.V_mono HO_135001.out (fun _ hk=>⟨hk.1.1,⟨hk.2,⟨hk.1.2.2.1,⟨hk.1.2.2.2.1,hk.1.2.2.2.2⟩⟩⟩⟩)⟩,⟨by (with_reducible repeat (first|apply Kd.N_alloc|apply Kd.N_drewN|apply Kd.N_drew));exact HO155.out⟩,⟨by (with_reducible repeat (first|refine blk_drewN ?_ _|refine blk_drew ?_|refine blk_alloc ?_ _));exact BK133.out⟩,⟨by (with_reducible repeat (first|refine blk_drewN ?_ _|refine blk_drew ?_|refine blk_alloc ?_ _));exact BK134.out⟩,⟨by (with_reducible repeat (first|refine blk_drewN ?_ _|refine blk_drew ?_|refine blk_alloc ?_ _));exact BK143.out⟩,⟨by repeat (first|(with_reducible first|exact HB.out|apply below_alloc|apply pw_below_drewN|apply below_drew1|refine below_set ?_ GE133.out|refine below_set ?_ GE134.out|refine below_set ?_ GE143.out)|exact HB.out)⟩⟩
            ·rw [if_neg c65] at H
             have c65b0 : ((Go.bits .andNot .u32 t135 t156) == 0) = false:=beq_eq_false_iff_ne.mpr c65
             have c65b1 : ((Go.bits .andNot .u32 t135 t156) != 0) = true:=bne_iff_ne.mpr c65
             have H':=Aside0.mk H
             clear H
             go_wp2
             go_meet
             case rel=>exact ⟨_,(false),(by first|rfl|(simp;done)|(simp [*];done)),H',⟨by have:=HJ7.out;first|omega|exact Nat.le_refl _⟩,⟨by (with_reducible repeat (first|apply Kd.V_alloc|apply Kd.V_drewN|apply Kd.V_drew));exact Kd.V_mono HO_134003.out (fun _ hk=>⟨hk.1.1,⟨hk.2,⟨hk.1.2.2.1,⟨hk.1.2.2.2.1,hk.1.2.2.2.2⟩⟩⟩⟩)⟩,⟨by (with_reducible repeat (first|apply Kd.V_alloc|apply Kd.V_drewN|apply Kd.V_drew));exact Kd.V_mono HO_135001.out (fun _ hk=>⟨hk.1.1,⟨hk.2,⟨hk.1.2.2.1,⟨hk.1.2.2.2.1,hk.1.2.2.2.2⟩⟩⟩⟩)⟩,⟨by (with_reducible repeat (first|apply Kd.N_alloc|apply Kd.N_drewN|apply Kd.N_drew));exact HO155.out⟩,⟨by (with_reducible repeat (first|refine blk_drewN ?_ _|refine blk_drew ?_|refine blk_alloc ?_ _));exact BK133.out⟩,⟨by (with_reducible repeat (first|refine blk_drewN ?_ _|refine blk_drew ?_|refine blk_alloc ?_ _));exact BK134.out⟩,⟨by (with_reducible repeat (first|refine blk_drewN ?_ _|refine blk_drew ?_|refine blk_alloc ?_ _));exact BK143.out⟩,⟨by repeat (first|(with_reducible first|exact HB.out|apply below_alloc|apply pw_below_drewN|apply below_drew1|refine below_set ?_ GE133.out|refine below_set ?_ GE134.out|refine below_set ?_ GE143.out)|exact HB.out)⟩⟩
           ·rw [if_neg c64] at H
            have c64b0 : (t161 == 0) = false:=beq_eq_false_iff_ne.mpr c64
            have c64b1 : (t161 != 0) = true:=bne_iff_ne.mpr c64
            have H':=Aside0.mk H
            clear H
            go_wp2
            go_meet
            case rel=>exact ⟨_,(false),(by first|rfl|(simp;done)|(simp [*];done)),H',⟨by have:=HJ7.out;first|omega|exact Nat.le_refl _⟩,⟨by (with_reducible repeat (first|apply Kd.V_alloc|apply Kd.V_drewN|apply Kd.V_drew));exact Kd.V_mono HO_134003.out (fun _ hk=>⟨hk.1.1,⟨hk.2,⟨hk.1.2.2.1,⟨hk.1.2.2.2.1,hk.1.2.2.2.2⟩⟩⟩⟩)⟩,⟨by (with_reducible repeat (first|apply Kd.V_alloc|apply Kd.V_drewN|apply Kd.V_drew));exact Kd.V_mono HO_135001.out (fun _ hk=>⟨hk.1.1,⟨hk.2,⟨hk.1.2.2.1,⟨hk.1.2.2.2.1,hk.1.2.2.2.2⟩⟩⟩⟩)⟩,⟨by (with_reducible repeat (first|apply Kd.N_alloc|apply Kd.N_drewN|apply Kd.N_drew));exact HO155.out⟩,⟨by (with_reducible repeat (first|refine blk_drewN ?_ _|refine blk_drew ?_|refine blk_alloc ?_ _));exact BK133.out⟩,⟨by (with_reducible repeat (first|refine blk_drewN ?_ _|refine blk_drew ?_|refine blk_alloc ?_ _));exact BK134.out⟩,⟨by (with_reducible repeat (first|refine blk_drewN ?_ _|refine blk_drew ?_|refine blk_alloc ?_ _));exact BK143.out⟩,⟨by repeat (first|(with_reducible first|exact HB.out|apply below_alloc|apply pw_below_drewN|apply below_drew1|refine below_set ?_ GE133.out|refine below_set ?_ GE134.out|refine below_set ?_ GE143.out)|exact HB.out)⟩⟩
          ·rw [if_neg c63] at H
           have c63b0 : (t159 == 0) = false:=beq_eq_false_iff_ne.mpr c63
           have c63b1 : (t159 != 0) = true:=bne_iff_ne.mpr c63
           have H':=Aside0.mk H
           clear H
           go_wp2
           go_meet
           case rel=>exact ⟨_,(false),(by first|rfl|(simp;done)|(simp [*];done)),H',⟨by have:=HJ7.out;first|omega|exact Nat.le_refl _⟩,⟨by (with_reducible repeat (first|apply Kd.V_alloc|apply Kd.V_drewN|apply Kd.V_drew));exact Kd.V_mono HO_134003.out (fun _ hk=>⟨hk.1.1,⟨hk.2,⟨hk.1.2.2.1,⟨hk.1.2.2.2.1,hk.1.2.2.2.2⟩⟩⟩⟩)⟩,⟨by (with_reducible repeat (first|apply Kd.V_alloc|apply Kd.V_drewN|apply Kd.V_drew));exact Kd.V_mono HO_135001.out (fun _ hk=>⟨hk.1.1,⟨hk.2,⟨hk.1.2.2.1,⟨hk.1.2.2.2.1,hk.1.2.2.2.2⟩⟩⟩⟩)⟩,⟨by (with_reducible repeat (first|apply Kd.N_alloc|apply Kd.N_drewN|apply Kd.N_drew));exact HO155.out⟩,⟨by (with_reducible repeat (first|refine blk_drewN ?_ _|refine blk_drew ?_|refine blk_alloc ?_ _));exact BK133.out⟩,⟨by (with_reducible repeat (first|refine blk_drewN ?_ _|refine blk_drew ?_|refine blk_alloc ?_ _));exact BK134.out⟩,⟨by (with_reducible repeat (first|refine blk_drewN ?_ _|refine blk_drew ?_|refine blk_alloc ?_ _));exact BK143.out⟩,⟨by repeat (first|(with_reducible first|exact HB.out|apply below_alloc|apply pw_below_drewN|apply below_drew1|refine below_set ?_ GE133.out|refine below_set ?_ GE134.out|refine below_set ?_ GE143.out)|exact HB.out)⟩⟩
         ·rw [if_neg c62] at H
          have c62b0 : (t157 == 0) = false:=beq_eq_false_iff_ne.mpr c62
          have c62b1 : (t157 != 0) = true:=bne_iff_ne.mpr c62
          (first|rw [c62b0]|(simp only [i64_w,i32_w];rw [c62b0])|skip)
          have H':=Aside0.mk H
          clear H
          go_wp2
          go_meet
          case rel=>exact ⟨_,(false),(by first|rfl|(simp;done)|(simp [*];done)),H',⟨by have:=HJ7.out;first|omega|exact Nat.le_refl _⟩,⟨by (with_reducible repeat (first|apply Kd.V_alloc|apply Kd.V_drewN|apply Kd.V_drew));exact Kd.V_mono HO_134003.out (fun _ hk=>⟨hk.1.1,⟨hk.2,⟨hk.1.2.2.1,⟨hk.1.2.2.2.1,hk.1.2.2.2.2⟩⟩⟩⟩)⟩,⟨by (with_reducible repeat (first|apply Kd.V_alloc|apply Kd.V_drewN|apply Kd.V_drew));exact Kd.V_mono HO_135001.out (fun _ hk=>⟨hk.1.1,⟨hk.2,⟨hk.1.2.2.1,⟨hk.1.2.2.2.1,hk.1.2.2.2.2⟩⟩⟩⟩)⟩,⟨by (with_reducible repeat (first|apply Kd.N_alloc|apply Kd.N_drewN|apply Kd.N_drew));exact HO155.out⟩,⟨by (with_reducible repeat (first|refine blk_drewN ?_ _|refine blk_drew ?_|refine blk_alloc ?_ _));exact BK133.out⟩,⟨by (with_reducible repeat (first|refine blk_drewN ?_ _|refine blk_drew ?_|refine blk_alloc ?_ _));exact BK134.out⟩,⟨by (with_reducible repeat (first|refine blk_drewN ?_ _|refine blk_drew ?_|refine blk_alloc ?_ _));exact BK143.out⟩,⟨by repeat (first|(with_reducible first|exact HB.out|apply below_alloc|apply pw_below_drewN|apply below_drew1|refine below_set ?_ GE133.out|refine below_set ?_ GE134.out|refine below_set ?_ GE143.out)|exact HB.out)⟩⟩
        case rest =>
         clear HC35
         try clear c1
         try clear c2
         try clear p2
         try clear c3
         try clear c4
         try clear c6
         try clear c15
         try clear c16
         try clear c17
         try clear c18
         try clear c28
         try clear c29
         try clear c34
         try clear c34b0
         try clear c34b1
         try clear c36
         try clear c39
         try clear c40
         try clear c62
         try clear c62b0
         try clear c62b1
         try clear c63
         try clear c63b0
         try clear c63b1
         try clear c64
         try clear c64b0
         try clear c64b1
         try clear c65
         try clear c65b0
         try clear c65b1
         try clear c66
         try clear c66b0
         try clear c66b1
         try clear hcz37_0
         try clear hcz37_1
         try clear hcz37_2
         try clear hcz37_3
         try clear hcz41_0
         try clear hcz41_1
         try clear hcz41_2
         try clear hcz41_3
         try clear hcz54_0
         try clear hcz54_1
         try clear hcz54_2
         try clear hcz54_3
         try clear hcz56_0
         try clear hcz56_1
         try clear hcz56_2
         try clear hcz56_3
         try clear hcz58_0
         try clear hcz58_1
         try clear hcz58_2
         try clear hcz58_3
         try clear hcz60_0
         try clear hcz60_1
         try clear hcz60_2
         try clear hcz60_3
         try clear hfz37_0
         try clear hfz37_1
         try clear hfz37_2
         try clear hfz37_3
         try clear hfz41_0
         try clear hfz41_1
         try clear hfz41_2
         try clear hfz41_3
         try clear hfz54_0
         try clear hfz54_1
         try clear hfz54_2
         try clear hfz54_3
         try clear hfz56_0
         try clear hfz56_1
         try clear hfz56_2
         try clear hfz56_3
         try clear hfz58_0
         try clear hfz58_1
         try clear hfz58_2
         try clear hfz58_3
         try clear hfz60_0
         try clear hfz60_1
         try clear hfz60_2
         try clear hfz60_3
         obtain ⟨kq,x4_34,rfl,HA,HJ34,HO_134003,HO_135001,HO_144003,BK133,BK134,BK143,HB⟩:=hcut
         cases kq with
         | zero=>exact absurd HA.out (by simp [coppicerkeep_GrammarSets.j3])
         | succ kj34 =>
          have H:=HA.out
          clear HA
          simp only [coppicerkeep_GrammarSets.j3] at H
          obtain rfl:=Option.some.inj H
          go_wp2
          go_ret
          exact ⟨by first|rfl|(simp [errW_none,errW_some] <;> rfl)|(simp [*,errW_none,errW_some] <;> rfl),by repeat (first|(with_reducible first|exact HB.out|apply below_alloc|apply pw_below_drewN|apply below_drew1|refine below_set ?_ GE133.out|refine below_set ?_ GE134.out|refine below_set ?_ GE143.out)|exact HB.out)⟩
       ·rw [if_neg c34] at H
        have c34b0 : (t162 == 0) = false:=beq_eq_false_iff_ne.mpr c34
        have c34b1 : (t162 != 0) = true:=bne_iff_ne.mpr c34
        have HC67:=Aside0.mk H
        clear H
        have hnb68:=NB133_134.out
        have hnc68:=NB134_133.out
        have hcz69_0 : wc.cell? ⟨gb133,0,none⟩ = some (.int .i64 a0_0):=(blk_cell BK133.out 0).trans rfl
        have hcz69_1 : wc.cell? ⟨gb133,1,none⟩ = some (.int .i64 a0_1):=(blk_cell BK133.out 1).trans rfl
        have hcz69_2 : wc.cell? ⟨gb133,2,none⟩ = some (.int .i64 a0_2):=(blk_cell BK133.out 2).trans rfl
        have hcz69_3 : wc.cell? ⟨gb133,3,none⟩ = some (.slice A0_3 l0_3.length c0_3):=(blk_cell BK133.out 3).trans rfl
        have hfz69_0:=blk_frozen BK133.out 0
        have hfz69_1:=blk_frozen BK133.out 1
        have hfz69_2:=blk_frozen BK133.out 2
        have hfz69_3:=blk_frozen BK133.out 3
        try go_wp2_with (first|((with_reducible refine gate_dst (N:=11) rfl ?_);refine box_event ?hg (N:=11) ?hd (cs:=#[.int .i64 0,.int .i64 0,.int .i64 0,.slice none 0 0]) (t:=24) ?hr ?_;(case hd=>rfl);(case hg=>rfl);(case hr=>first|(go_simp;done)|(go_simp;rfl));intro gb143 hg w70 hbox hb;have n0_:=Aside0.mk (Kd.V_below (Kd.V_elderB (by (with_reducible repeat (first|apply Kd.V_alloc|apply Kd.V_drewN|apply Kd.V_drew));exact HO_134003.out) gb143 (Nat.le_of_eq hg.symm)) hb);have n1_:=Aside0.mk (Kd.V_below (Kd.V_elderB (by (with_reducible repeat (first|apply Kd.V_alloc|apply Kd.V_drewN|apply Kd.V_drew));exact HO_135001.out) gb143 (Nat.le_of_eq hg.symm)) hb);have n2_:=Aside0.mk (blk_below (g:=gb133) (o:=.cells #[.int .i64 a0_0,.int .i64 a0_1,.int .i64 a0_2,.slice A0_3 l0_3.length c0_3] 24 (0,0)) (by (with_reducible repeat (first|refine blk_drewN ?_ _|refine blk_drew ?_|refine blk_alloc ?_ _));exact BK133.out) hb);have n3_:=Aside0.mk (blk_below (g:=gb134) (o:=.cells #[.int .i64 a1_0,.slice A1_1 l1_1.length c1_1] 27 (0,0)) (by (with_reducible repeat (first|refine blk_drewN ?_ _|refine blk_drew ?_|refine blk_alloc ?_ _));exact BK134.out) hb);have n4_:=Aside0.mk (below_step (by repeat (first|(with_reducible first|exact HB.out|apply below_alloc|apply pw_below_drewN|apply below_drew1|refine below_set ?_ GE133.out|refine below_set ?_ GE134.out)|exact HB.out)) hb);have n5_:=Aside0.mk (hbox);have n6_:=Aside0.mk ((by rw [hg];exact (below_size (by repeat (first|(with_reducible first|exact HB.out|apply below_alloc|apply pw_below_drewN|apply below_drew1|refine below_set ?_ GE133.out|refine below_set ?_ GE134.out)|exact HB.out))) : w.heap.size ≤ gb143));have n7_:=Aside0.mk ((by rw [hg];exact (below_size (by repeat (first|(with_reducible first|exact HB.out|apply below_alloc|apply pw_below_drewN|apply below_drew1|refine below_set ?_ GE133.out|refine below_set ?_ GE134.out)|exact HB.out))) : w.heap.size ≤ gb143));have n8_:=Aside0.mk ((by rw [hg];exact Nat.ne_of_lt (blk_lt (g:=gb133) (o:=.cells #[.int .i64 a0_0,.int .i64 a0_1,.int .i64 a0_2,.slice A0_3 l0_3.length c0_3] 24 (0,0)) (by (with_reducible repeat (first|refine blk_drewN ?_ _|refine blk_drew ?_|refine blk_alloc ?_ _));exact BK133.out)) : gb133 ≠ gb143));have n9_:=Aside0.mk ((by rw [hg];exact Nat.ne_of_gt (blk_lt (g:=gb133) (o:=.cells #[.int .i64 a0_0,.int .i64 a0_1,.int .i64 a0_2,.slice A0_3 l0_3.length c0_3] 24 (0,0)) (by (with_reducible repeat (first|refine blk_drewN ?_ _|refine blk_drew ?_|refine blk_alloc ?_ _));exact BK133.out)) : gb143 ≠ gb133));have n10_:=Aside0.mk ((by rw [hg];exact Nat.ne_of_lt (blk_lt (g:=gb134) (o:=.cells #[.int .i64 a1_0,.slice A1_1 l1_1.length c1_1] 27 (0,0)) (by (with_reducible repeat (first|refine blk_drewN ?_ _|refine blk_drew ?_|refine blk_alloc ?_ _));exact BK134.out)) : gb134 ≠ gb143));have n11_:=Aside0.mk ((by rw [hg];exact Nat.ne_of_gt (blk_lt (g:=gb134) (o:=.cells #[.int .i64 a1_0,.slice A1_1 l1_1.length c1_1] 27 (0,0)) (by (with_reducible repeat (first|refine blk_drewN ?_ _|refine blk_drew ?_|refine blk_alloc ?_ _));exact BK134.out)) : gb143 ≠ gb134));clear HO_134003;clear HO_135001;clear BK133;clear BK134;clear HB;have HO_134003:=n0_;have HO_135001:=n1_;have BK133:=n2_;have BK134:=n3_;have HB:=n4_;have BK143:=n5_;have GW143:=n6_;have GE143:=n7_;have NB133_143:=n8_;have NB143_133:=n9_;have NB134_143:=n10_;have NB143_134:=n11_;clear n0_ n1_ n2_ n3_ n4_ n5_ n6_ n7_ n8_ n9_ n10_ n11_;clear hb hbox hg;have hnb71:=NB143_133.out;have hnc71:=NB133_143.out;have hnb72:=NB143_134.out;have hnc72:=NB134_143.out;have hcz73_0 : w70.cell? ⟨gb143,0,none⟩ = some (.int .i64 0):=(blk_cell BK143.out 0).trans rfl;have hcz73_1 : w70.cell? ⟨gb143,1,none⟩ = some (.int .i64 0):=(blk_cell BK143.out 1).trans rfl;have hcz73_2 : w70.cell? ⟨gb143,2,none⟩ = some (.int .i64 0):=(blk_cell BK143.out 2).trans rfl;have hcz73_3 : w70.cell? ⟨gb143,3,none⟩ = some (.slice none 0 0):=(blk_cell BK143.out 3).trans rfl;have hfz73_0:=blk_frozen BK143.out 0;have hfz73_1:=blk_frozen BK143.out 1;have hfz73_2:=blk_frozen BK143.out 2;have hfz73_3:=blk_frozen BK143.out 3))
        have n0_ : Aside0 (Kd.V k27 27 ((((w70.setCell ⟨gb143,0,none⟩ (.int .i64 a0_0)).setCell ⟨gb143,1,none⟩ (.int .i64 a0_1)).setCell ⟨gb143,2,none⟩ (.int .i64 a0_2)).setCell ⟨gb143,3,none⟩ (.slice A0_3 l0_3.length c0_3)) w.heap.size (fun k_=>((P0_3_ k_ ∨ P1_1_ k_) ∨ w.heap.size ≤ k_) ∧ k_ ≠ gb133 ∧ k_ ≠ gb134 ∧ k_ ≠ gb143) (.slice A0_3 l0_3.length c0_3) l0_3):=⟨by (with_reducible repeat (first|apply Kd.V_alloc|apply Kd.V_drewN|apply Kd.V_drew));exact Kd.V_mono (Kd.V_far (p:=⟨gb143,3,none⟩) (Kd.V_far (p:=⟨gb143,2,none⟩) (Kd.V_far (p:=⟨gb143,1,none⟩) (Kd.V_far (p:=⟨gb143,0,none⟩) (Kd.V_mono HO_134003.out (fun k_ hk=>(⟨hk,hk.2⟩ : _ ∧ k_ ≠ gb143))) (fun _ hk=>hk.2) (.int .i64 a0_0)) (fun _ hk=>hk.2) (.int .i64 a0_1)) (fun _ hk=>hk.2) (.int .i64 a0_2)) (fun _ hk=>hk.2) (.slice A0_3 l0_3.length c0_3)) (fun _ hk=>⟨hk.1.1.1,⟨hk.1.1.2.1,⟨hk.1.1.2.2,hk.1.2⟩⟩⟩)⟩
        have n1_ : Aside0 (Kd.V (Kd.int .i64) 3 ((((w70.setCell ⟨gb143,0,none⟩ (.int .i64 a0_0)).setCell ⟨gb143,1,none⟩ (.int .i64 a0_1)).setCell ⟨gb143,2,none⟩ (.int .i64 a0_2)).setCell ⟨gb143,3,none⟩ (.slice A0_3 l0_3.length c0_3)) w.heap.size (fun k_=>((P0_3_ k_ ∨ P1_1_ k_) ∨ w.heap.size ≤ k_) ∧ k_ ≠ gb133 ∧ k_ ≠ gb134 ∧ k_ ≠ gb143) (.slice A1_1 l1_1.length c1_1) l1_1):=⟨by (with_reducible repeat (first|apply Kd.V_alloc|apply Kd.V_drewN|apply Kd.V_drew));exact Kd.V_mono (Kd.V_far (p:=⟨gb143,3,none⟩) (Kd.V_far (p:=⟨gb143,2,none⟩) (Kd.V_far (p:=⟨gb143,1,none⟩) (Kd.V_far (p:=⟨gb143,0,none⟩) (Kd.V_mono HO_135001.out (fun k_ hk=>(⟨hk,hk.2⟩ : _ ∧ k_ ≠ gb143))) (fun _ hk=>hk.2) (.int .i64 a0_0)) (fun _ hk=>hk.2) (.int .i64 a0_1)) (fun _ hk=>hk.2) (.int .i64 a0_2)) (fun _ hk=>hk.2) (.slice A0_3 l0_3.length c0_3)) (fun _ hk=>⟨hk.1.1.1,⟨hk.1.1.2.1,⟨hk.1.1.2.2,hk.1.2⟩⟩⟩)⟩
        have n2_ : Aside0 (((((w70.setCell ⟨gb143,0,none⟩ (.int .i64 a0_0)).setCell ⟨gb143,1,none⟩ (.int .i64 a0_1)).setCell ⟨gb143,2,none⟩ (.int .i64 a0_2)).setCell ⟨gb143,3,none⟩ (.slice A0_3 l0_3.length c0_3)).heap[gb133]? = some (.cells #[.int .i64 a0_0,.int .i64 a0_1,.int .i64 a0_2,.slice A0_3 l0_3.length c0_3] 24 (0,0))):=⟨by (with_reducible repeat (first|refine blk_drewN ?_ _|refine blk_drew ?_|refine blk_alloc ?_ _));refine blk_far ?_ NB133_143.out _;(with_reducible repeat (first|refine blk_drewN ?_ _|refine blk_drew ?_|refine blk_alloc ?_ _));refine blk_far ?_ NB133_143.out _;(with_reducible repeat (first|refine blk_drewN ?_ _|refine blk_drew ?_|refine blk_alloc ?_ _));refine blk_far ?_ NB133_143.out _;(with_reducible repeat (first|refine blk_drewN ?_ _|refine blk_drew ?_|refine blk_alloc ?_ _));refine blk_far ?_ NB133_143.out _;(with_reducible repeat (first|refine blk_drewN ?_ _|refine blk_drew ?_|refine blk_alloc ?_ _));exact BK133.out⟩
        have n3_ : Aside0 (((((w70.setCell ⟨gb143,0,none⟩ (.int .i64 a0_0)).setCell ⟨gb143,1,none⟩ (.int .i64 a0_1)).setCell ⟨gb143,2,none⟩ (.int .i64 a0_2)).setCell ⟨gb143,3,none⟩ (.slice A0_3 l0_3.length c0_3)).heap[gb134]? = some (.cells #[.int .i64 a1_0,.slice A1_1 l1_1.length c1_1] 27 (0,0))):=⟨by (with_reducible repeat (first|refine blk_drewN ?_ _|refine blk_drew ?_|refine blk_alloc ?_ _));refine blk_far ?_ NB134_143.out _;(with_reducible repeat (first|refine blk_drewN ?_ _|refine blk_drew ?_|refine blk_alloc ?_ _));refine blk_far ?_ NB134_143.out _;(with_reducible repeat (first|refine blk_drewN ?_ _|refine blk_drew ?_|refine blk_alloc ?_ _));refine blk_far ?_ NB134_143.out _;(with_reducible repeat (first|refine blk_drewN ?_ _|refine blk_drew ?_|refine blk_alloc ?_ _));refine blk_far ?_ NB134_143.out _;(with_reducible repeat (first|refine blk_drewN ?_ _|refine blk_drew ?_|refine blk_alloc ?_ _));exact BK134.out⟩
        have n4_ : Aside0 (((((w70.setCell ⟨gb143,0,none⟩ (.int .i64 a0_0)).setCell ⟨gb143,1,none⟩ (.int .i64 a0_1)).setCell ⟨gb143,2,none⟩ (.int .i64 a0_2)).setCell ⟨gb143,3,none⟩ (.slice A0_3 l0_3.length c0_3)).heap[gb143]? = some (.cells #[.int .i64 a0_0,.int .i64 a0_1,.int .i64 a0_2,.slice A0_3 l0_3.length c0_3] 24 (0,0))):=⟨by (with_reducible repeat (first|refine blk_drewN ?_ _|refine blk_drew ?_|refine blk_alloc ?_ _));refine blk_put (cs:=#[.int .i64 a0_0,.int .i64 a0_1,.int .i64 a0_2,.slice none 0 0]) ?_ 3 _ rfl;(with_reducible repeat (first|refine blk_drewN ?_ _|refine blk_drew ?_|refine blk_alloc ?_ _));refine blk_put (cs:=#[.int .i64 a0_0,.int .i64 a0_1,.int .i64 0,.slice none 0 0]) ?_ 2 _ rfl;(with_reducible repeat (first|refine blk_drewN ?_ _|refine blk_drew ?_|refine blk_alloc ?_ _));refine blk_put (cs:=#[.int .i64 a0_0,.int .i64 0,.int .i64 0,.slice none 0 0]) ?_ 1 _ rfl;(with_reducible repeat (first|refine blk_drewN ?_ _|refine blk_drew ?_|refine blk_alloc ?_ _));refine blk_put (cs:=#[.int .i64 0,.int .i64 0,.int .i64 0,.slice none 0 0]) ?_ 0 _ rfl;(with_reducible repeat (first|refine blk_drewN ?_ _|refine blk_drew ?_|refine blk_alloc ?_ _));exact BK143.out⟩
        have n5_ : Aside0 (Below w.heap.size w ((((w70.setCell ⟨gb143,0,none⟩ (.int .i64 a0_0)).setCell ⟨gb143,1,none⟩ (.int .i64 a0_1)).setCell ⟨gb143,2,none⟩ (.int .i64 a0_2)).setCell ⟨gb143,3,none⟩ (.slice A0_3 l0_3.length c0_3))):=⟨by repeat (first|(with_reducible first|exact HB.out|apply below_alloc|apply pw_below_drewN|apply below_drew1|refine below_set ?_ GE133.out|refine below_set ?_ GE134.out|refine below_set ?_ GE143.out)|exact HB.out)⟩
        (try clear HO_134003)
        (try clear HO_135001)
        (try clear BK133)
        (try clear BK134)
        (try clear BK143)
        (try clear HB)
        generalize ((((w70.setCell ⟨gb143,0,none⟩ (.int .i64 a0_0)).setCell ⟨gb143,1,none⟩ (.int .i64 a0_1)).setCell ⟨gb143,2,none⟩ (.int .i64 a0_2)).setCell ⟨gb143,3,none⟩ (.slice A0_3 l0_3.length c0_3)) = w74 at n0_ n1_ n2_ n3_ n4_ n5_ ⊢
        have HO_134003:=n0_
        have HO_135001:=n1_
        have BK133:=n2_
        have BK134:=n3_
        have BK143:=n4_
        have HB:=n5_
        clear n0_ n1_ n2_ n3_ n4_ n5_
        have n0_:=Aside0.mk (Kd.V_drew HO_134003.out)
        have n1_:=Aside0.mk (Kd.V_drew HO_135001.out)
        have n2_:=Aside0.mk (blk_drew BK133.out)
        have n3_:=Aside0.mk (blk_drew BK134.out)
        have n4_:=Aside0.mk (blk_drew BK143.out)
        have n5_:=Aside0.mk (below_drew1 HB.out)
        clear HO_134003
        clear HO_135001
        clear BK133
        clear BK134
        clear BK143
        clear HB
        have HO_134003:=n0_
        have HO_135001:=n1_
        have BK133:=n2_
        have BK134:=n3_
        have BK143:=n4_
        have HB:=n5_
        clear n0_ n1_ n2_ n3_ n4_ n5_
        refine start_ (n:=9) (S:=fun w'=>w'.cell? ⟨gb133,0,none⟩ = some (.int .i64 a0_0) ∧ w'.cell? ⟨gb133,1,none⟩ = some (.int .i64 a0_1) ∧ w'.cell? ⟨gb133,2,none⟩ = some (.int .i64 a0_2) ∧ w'.cell? ⟨gb133,3,none⟩ = some (.slice A0_3 l0_3.length c0_3) ∧ w'.cell? ⟨gb134,0,none⟩ = some (.int .i64 a1_0) ∧ w'.cell? ⟨gb134,1,none⟩ = some (.slice A1_1 l1_1.length c1_1)) (ds:=[]) #[false,false,false,false,false,false,false,false,false] (by kernel_rfl) rfl rfl ⟨(blk_cell BK133.out 0).trans rfl,(blk_cell BK133.out 1).trans rfl,(blk_cell BK133.out 2).trans rfl,(blk_cell BK133.out 3).trans rfl,(blk_cell BK134.out 0).trans rfl,(blk_cell BK134.out 1).trans rfl⟩ (fun hHeld=>?_);refine with_tabW coppicerkeep_GrammarSets.tab9 coppicerkeep_GrammarSets.bits9 (fun HT_ HW_=>?_)
        generalize w74.drew = w75 at HO_134003 HO_135001 BK133 BK134 BK143 HB hHeld ⊢
        refine pure_ (i:=1) (N:=some 68) (v:=?_) (a':=?_) #[false,true,false,false,false,false,false,false,false] rfl rfl (any_of HT_.out (by kernel_rfl)) (fun _ _ _ h=>h) (Or.inl ⟨by rfl,?_⟩) ?_ ?_
        rotate_left
        ·intro w'
         go_simp
         with_reducible rfl
        rotate_left
        ·simp only [Act.put,List.setIfInBounds_toArray,List.set_cons_zero,List.set_cons_succ,i64_w,i32_w]
         rfl
        refine take_ (i:=2) (N:=some 69) (v:=?_) (a':=?_) #[false,true,true,false,false,false,false,false,false] rfl rfl (take_ofW HT_.out HW_.out (by kernel_rfl)) (fun _ _ _ h=>h) (Or.inl ⟨by rfl,?_⟩) hHeld ?_ ?_
        rotate_left
        ·rintro w' ⟨s0,s1,s2,s3,s4,s5⟩
         go_simp
         with_reducible rfl
        rotate_left
        ·simp only [Act.put,List.setIfInBounds_toArray,List.set_cons_zero,List.set_cons_succ,i64_w,i32_w]
         rfl
        refine take_ (i:=4) (N:=some 71) (v:=?_) (a':=?_) #[false,true,true,false,true,false,false,false,false] rfl rfl (take_ofW HT_.out HW_.out (by kernel_rfl)) (fun _ _ _ h=>h) (Or.inl ⟨by rfl,?_⟩) hHeld ?_ ?_
        rotate_left
        ·rintro w' ⟨s0,s1,s2,s3,s4,s5⟩
         go_simp
         with_reducible rfl
        rotate_left
        ·simp only [Act.put,List.setIfInBounds_toArray,List.set_cons_zero,List.set_cons_succ,i64_w,i32_w]
         rfl
        refine join_ (σ:=Value × Value × Value) 3 #[true,true,true,true,true,true,false,false,false] (fun s_=>[(67,s_.1),(70,s_.2.1),(72,s_.2.2)]) (fun s_ w'=>(w'.cell? ⟨gb133,0,none⟩ = some (.int .i64 a0_0) ∧ w'.cell? ⟨gb133,1,none⟩ = some (.int .i64 a0_1) ∧ w'.cell? ⟨gb133,2,none⟩ = some (.int .i64 a0_2) ∧ w'.cell? ⟨gb133,3,none⟩ = some (.slice A0_3 l0_3.length c0_3) ∧ w'.cell? ⟨gb134,0,none⟩ = some (.int .i64 a1_0) ∧ w'.cell? ⟨gb134,1,none⟩ = some (.slice A1_1 l1_1.length c1_1)) ∧ (Kd.N k27 27 w' w.heap.size (fun k_=>((P0_3_ k_ ∨ P1_1_ k_) ∨ w.heap.size ≤ k_) ∧ some k_ ≠ (s_.2.2 : Value).ownBlock ∧ k_ ≠ gb133 ∧ k_ ≠ gb134 ∧ k_ ≠ gb143) s_.2.1 y147) ∧ (Kd.N k27 27 w' w.heap.size (fun k_=>((P0_3_ k_ ∨ P1_1_ k_) ∨ w.heap.size ≤ k_) ∧ some k_ ≠ (s_.2.1 : Value).ownBlock ∧ k_ ≠ gb133 ∧ k_ ≠ gb134 ∧ k_ ≠ gb143) s_.2.2 y150) ∧ (Kd.V k27 27 w' w.heap.size (fun k_=>((P0_3_ k_ ∨ P1_1_ k_) ∨ w.heap.size ≤ k_) ∧ some k_ ≠ (s_.2.1 : Value).ownBlock ∧ some k_ ≠ (s_.2.2 : Value).ownBlock ∧ k_ ≠ gb133 ∧ k_ ≠ gb134 ∧ k_ ≠ gb143) (.slice A0_3 l0_3.length c0_3) l0_3) ∧ (Kd.V (Kd.int .i64) 3 w' w.heap.size (fun k_=>((P0_3_ k_ ∨ P1_1_ k_) ∨ w.heap.size ≤ k_) ∧ some k_ ≠ (s_.2.1 : Value).ownBlock ∧ some k_ ≠ (s_.2.2 : Value).ownBlock ∧ k_ ≠ gb133 ∧ k_ ≠ gb134 ∧ k_ ≠ gb143) (.slice A1_1 l1_1.length c1_1) l1_1) ∧ (w'.heap[gb133]? = some (.cells #[.int .i64 a0_0,.int .i64 a0_1,.int .i64 a0_2,.slice A0_3 l0_3.length c0_3] 24 (0,0))) ∧ (w'.heap[gb134]? = some (.cells #[.int .i64 a1_0,.slice A1_1 l1_1.length c1_1] 27 (0,0))) ∧ (w'.heap[gb143]? = some (.cells #[.int .i64 a0_0,.int .i64 a0_1,.int .i64 a0_2,.slice A0_3 l0_3.length c0_3] 24 (0,0))) ∧ (Below w.heap.size w w')) ?_ ?_
        rotate_left
        ·intro hCont
         refine two_ (i:=0) (j:=5) (Ni:=some 67) (Nj:=some 72) #[true,true,true,false,true,false,false,false,false] #[false,true,true,false,true,true,false,false,false] rfl rfl rfl rfl (two_of HT_.out (by kernel_rfl)) (by decide) (by decide) (fun K hK=>?_) (fun K hK=>?_)
         ·skip
          refine Kd.N_lit_step k27 _ 27 ?hg (N':=67) ?hd (xs:=([] : List (S27))) (inner:=[]) (ok:=(fun k_=>((P0_3_ k_ ∨ P1_1_ k_) ∨ w.heap.size ≤ k_) ∧ k_ ≠ gb133 ∧ k_ ≠ gb134 ∧ k_ ≠ gb143)) (okp:=(fun k_=>((P0_3_ k_ ∨ P1_1_ k_) ∨ w.heap.size ≤ k_) ∧ k_ ≠ gb133 ∧ k_ ≠ gb134 ∧ k_ ≠ gb143)) ?hr ?hp (fun _ hk=>hk) ((show ∀ k_,w75.heap.size ≤ k_ → (fun k_=>((P0_3_ k_ ∨ P1_1_ k_) ∨ w.heap.size ≤ k_) ∧ k_ ≠ gb133 ∧ k_ ≠ gb134 ∧ k_ ≠ gb143) k_ from fun k_ hk=>⟨(.inr (Nat.le_trans (below_size (by repeat (first|(with_reducible first|exact HB.out|apply below_alloc|apply pw_below_drewN|apply below_drew1|refine below_set ?_ GE133.out|refine below_set ?_ GE134.out|refine below_set ?_ GE143.out)|exact HB.out))) hk)),Kd.freshB (g:=gb133) (o:=.cells #[.int .i64 a0_0,.int .i64 a0_1,.int .i64 a0_2,.slice A0_3 l0_3.length c0_3] 24 (0,0)) (by (with_reducible repeat (first|refine blk_drewN ?_ _|refine blk_drew ?_|refine blk_alloc ?_ _));exact BK133.out) k_ hk,Kd.freshB (g:=gb134) (o:=.cells #[.int .i64 a1_0,.slice A1_1 l1_1.length c1_1] 27 (0,0)) (by (with_reducible repeat (first|refine blk_drewN ?_ _|refine blk_drew ?_|refine blk_alloc ?_ _));exact BK134.out) k_ hk,Kd.freshB (g:=gb143) (o:=.cells #[.int .i64 a0_0,.int .i64 a0_1,.int .i64 a0_2,.slice A0_3 l0_3.length c0_3] 24 (0,0)) (by (with_reducible repeat (first|refine blk_drewN ?_ _|refine blk_drew ?_|refine blk_alloc ?_ _));exact BK143.out) k_ hk⟩) _ (Nat.le_refl _)) (Below.refl _ _) (Nat.le_refl _) (by simp) ?_;(case hd=>rfl);(case hg=>rfl);(case hr=>first|(go_simp;done)|(go_simp;rfl));(case hp=>first|exact (Reps.none _ _)|exact (Reps.none _ _))
          intro v145 w76 ho77 hb hg_ hnew_
          clear hg_ hnew_
          (first|rw [← Ny144.out] at ho77|(simp only [Int.reduceToNat] at ho77;rw [← Ny144.out] at ho77))
          have n0_:=Aside0.mk (Kd.V_elder' (by (with_reducible repeat (first|apply Kd.V_alloc|apply Kd.V_drewN|apply Kd.V_drew));exact HO_134003.out) (Kd.N_base ho77) hb)
          have n1_:=Aside0.mk (Kd.V_elder' (by (with_reducible repeat (first|apply Kd.V_alloc|apply Kd.V_drewN|apply Kd.V_drew));exact HO_135001.out) (Kd.N_base ho77) hb)
          have n2_:=Aside0.mk (Kd.N_lower ho77 (below_size (by repeat (first|(with_reducible first|exact HB.out|apply below_alloc|apply pw_below_drewN|apply below_drew1|refine below_set ?_ GE133.out|refine below_set ?_ GE134.out|refine below_set ?_ GE143.out)|exact HB.out))))
          have n3_:=Aside0.mk (blk_below (g:=gb133) (o:=.cells #[.int .i64 a0_0,.int .i64 a0_1,.int .i64 a0_2,.slice A0_3 l0_3.length c0_3] 24 (0,0)) (by (with_reducible repeat (first|refine blk_drewN ?_ _|refine blk_drew ?_|refine blk_alloc ?_ _));exact BK133.out) hb)
          have n4_:=Aside0.mk (blk_below (g:=gb134) (o:=.cells #[.int .i64 a1_0,.slice A1_1 l1_1.length c1_1] 27 (0,0)) (by (with_reducible repeat (first|refine blk_drewN ?_ _|refine blk_drew ?_|refine blk_alloc ?_ _));exact BK134.out) hb)
          have n5_:=Aside0.mk (blk_below (g:=gb143) (o:=.cells #[.int .i64 a0_0,.int .i64 a0_1,.int .i64 a0_2,.slice A0_3 l0_3.length c0_3] 24 (0,0)) (by (with_reducible repeat (first|refine blk_drewN ?_ _|refine blk_drew ?_|refine blk_alloc ?_ _));exact BK143.out) hb)
          have n6_:=Aside0.mk (below_step (by repeat (first|(with_reducible first|exact HB.out|apply below_alloc|apply pw_below_drewN|apply below_drew1|refine below_set ?_ GE133.out|refine below_set ?_ GE134.out|refine below_set ?_ GE143.out)|exact HB.out)) hb)
          clear HO_134003
          clear HO_135001
          clear BK133
          clear BK134
          clear BK143
          clear HB
          have HO_134003:=n0_
          have HO_135001:=n1_
          have HO146:=n2_
          have BK133:=n3_
          have BK134:=n4_
          have BK143:=n5_
          have HB:=n6_
          clear n0_ n1_ n2_ n3_ n4_ n5_ n6_
          clear hb ho77
          refine hK.out _ _ ⟨(blk_cell BK133.out 0).trans rfl,(blk_cell BK133.out 1).trans rfl,(blk_cell BK133.out 2).trans rfl,(blk_cell BK133.out 3).trans rfl,(blk_cell BK134.out 0).trans rfl,(blk_cell BK134.out 1).trans rfl⟩ (fun hHeld=>?_)
          clear hK K
          refine norm_ (a':=?_) ?_ ?_
          rotate_left
          ·show Act.put _ (some 67) _ = _
           simp only [Act.put,List.setIfInBounds_toArray,List.set_cons_zero,List.set_cons_succ,i64_w,i32_w]
           rfl
          refine two_ (i:=3) (j:=5) (Ni:=some 70) (Nj:=some 72) #[true,true,true,true,true,false,false,false,false] #[true,true,true,false,true,true,false,false,false] rfl rfl rfl rfl (two_of HT_.out (by kernel_rfl)) (by decide) (by decide) (fun K hK=>?_) (fun K hK=>?_)
          ·skip
           refine Kd.N_append_rows_step k27 (w0:=w) w.heap.size (by rfl) (.tmp 67) (.tmp 69) 22 27 (.agg #[(.int .i64 0),(.slice none 0 0)]) 32 rfl Try.underlying22 info27 rfl (by decide) (by omega) v145 y144 l0_3 _ _ _ (fun k_=>((P0_3_ k_ ∨ P1_1_ k_) ∨ w.heap.size ≤ k_) ∧ k_ ≠ gb133 ∧ k_ ≠ gb134 ∧ k_ ≠ gb143) (fun k_=>((fun k_=>((P0_3_ k_ ∨ P1_1_ k_) ∨ w.heap.size ≤ k_) ∧ k_ ≠ gb133 ∧ k_ ≠ gb134 ∧ k_ ≠ gb143)) k_ ∧ some k_ ≠ (v145 : Value).ownBlock) rfl rfl ?aO ?aR (fun _ hk=>hk) ?aF ?aB ?aS ?aL ?_
           (case aR=>exact (by skip;exact Kd.V_F (Kd.V_mono (ok':=(fun k_=>((fun k_=>((P0_3_ k_ ∨ P1_1_ k_) ∨ w.heap.size ≤ k_) ∧ k_ ≠ gb133 ∧ k_ ≠ gb134 ∧ k_ ≠ gb143)) k_ ∧ some k_ ≠ (v145 : Value).ownBlock)) (HO_134003.out) (fun k_ hk=>⟨⟨hk.1.1,⟨hk.1.2.1,⟨hk.1.2.2.1,hk.1.2.2.2⟩⟩⟩,hk.2⟩))))
           (case aB=>exact (by repeat (first|(with_reducible first|exact HB.out|apply below_alloc|apply pw_below_drewN|apply below_drew1|refine below_set ?_ GE133.out|refine below_set ?_ GE134.out|refine below_set ?_ GE143.out)|exact HB.out)))
           (case aF=>exact (fun k_ hk=>⟨(.inr (Nat.le_trans (below_size (by repeat (first|(with_reducible first|exact HB.out|apply below_alloc|apply pw_below_drewN|apply below_drew1|refine below_set ?_ GE133.out|refine below_set ?_ GE134.out|refine below_set ?_ GE143.out)|exact HB.out))) hk)),Kd.freshB (g:=gb133) (o:=.cells #[.int .i64 a0_0,.int .i64 a0_1,.int .i64 a0_2,.slice A0_3 l0_3.length c0_3] 24 (0,0)) (by (with_reducible repeat (first|refine blk_drewN ?_ _|refine blk_drew ?_|refine blk_alloc ?_ _));exact BK133.out) k_ hk,Kd.freshB (g:=gb134) (o:=.cells #[.int .i64 a1_0,.slice A1_1 l1_1.length c1_1] 27 (0,0)) (by (with_reducible repeat (first|refine blk_drewN ?_ _|refine blk_drew ?_|refine blk_alloc ?_ _));exact BK134.out) k_ hk,Kd.freshB (g:=gb143) (o:=.cells #[.int .i64 a0_0,.int .i64 a0_1,.int .i64 a0_2,.slice A0_3 l0_3.length c0_3] 24 (0,0)) (by (with_reducible repeat (first|refine blk_drewN ?_ _|refine blk_drew ?_|refine blk_alloc ?_ _));exact BK143.out) k_ hk⟩))
           (case aO=>exact (by (with_reducible repeat (first|apply Kd.N_alloc|apply Kd.N_drewN|apply Kd.N_drew));exact HO146.out))
           (case aS=>exact (below_size (by repeat (first|(with_reducible first|exact HB.out|apply below_alloc|apply pw_below_drewN|apply below_drew1|refine below_set ?_ GE133.out|refine below_set ?_ GE134.out|refine below_set ?_ GE143.out)|exact HB.out))))
           (case aL=>have:=LMc28.out;omega)
           intro v148 w78 ho hb hg hat
           rw [← Ny147.out] at ho
           have n0_:=Aside0.mk (Kd.V_afterv (ok:=(fun k_=>((P0_3_ k_ ∨ P1_1_ k_) ∨ w.heap.size ≤ k_) ∧ k_ ≠ gb133 ∧ k_ ≠ gb134 ∧ k_ ≠ gb143)) (by (with_reducible repeat (first|apply Kd.V_alloc|apply Kd.V_drewN|apply Kd.V_drew));exact HO_134003.out) hg hat)
           have n1_:=Aside0.mk (Kd.V_afterv (ok:=(fun k_=>((P0_3_ k_ ∨ P1_1_ k_) ∨ w.heap.size ≤ k_) ∧ k_ ≠ gb133 ∧ k_ ≠ gb134 ∧ k_ ≠ gb143)) (by (with_reducible repeat (first|apply Kd.V_alloc|apply Kd.V_drewN|apply Kd.V_drew));exact HO_135001.out) hg hat)
           have n2_:=Aside0.mk (blk_grown (g:=gb133) (o:=.cells #[.int .i64 a0_0,.int .i64 a0_1,.int .i64 a0_2,.slice A0_3 l0_3.length c0_3] 24 (0,0)) (by (with_reducible repeat (first|refine blk_drewN ?_ _|refine blk_drew ?_|refine blk_alloc ?_ _));exact BK133.out) hg (Kd.N_ne HO146.out BK133.out (by decide)))
           have n3_:=Aside0.mk (blk_grown (g:=gb134) (o:=.cells #[.int .i64 a1_0,.slice A1_1 l1_1.length c1_1] 27 (0,0)) (by (with_reducible repeat (first|refine blk_drewN ?_ _|refine blk_drew ?_|refine blk_alloc ?_ _));exact BK134.out) hg (Kd.N_away HO146.out (fun _ hk=>hk.2.2.1)))
           have n4_:=Aside0.mk (blk_grown (g:=gb143) (o:=.cells #[.int .i64 a0_0,.int .i64 a0_1,.int .i64 a0_2,.slice A0_3 l0_3.length c0_3] 24 (0,0)) (by (with_reducible repeat (first|refine blk_drewN ?_ _|refine blk_drew ?_|refine blk_alloc ?_ _));exact BK143.out) hg (Kd.N_ne HO146.out BK143.out (by decide)))
           have n5_:=Aside0.mk (hb)
           have n6_:=Aside0.mk (ho)
           clear HO_134003
           clear HO_135001
           clear BK133
           clear BK134
           clear BK143
           clear HB
           clear HO146
           have HO_134003:=n0_
           have HO_135001:=n1_
           have BK133:=n2_
           have BK134:=n3_
           have BK143:=n4_
           have HB:=n5_
           have HO149:=n6_
           clear n0_ n1_ n2_ n3_ n4_ n5_ n6_
           clear ho hb hg hat
           refine hK.out _ _ ⟨(blk_cell BK133.out 0).trans rfl,(blk_cell BK133.out 1).trans rfl,(blk_cell BK133.out 2).trans rfl,(blk_cell BK133.out 3).trans rfl,(blk_cell BK134.out 0).trans rfl,(blk_cell BK134.out 1).trans rfl⟩ (fun hHeld=>?_)
           clear hK K
           refine norm_ (a':=?_) ?_ ?_
           rotate_left
           ·show Act.put _ (some 70) _ = _
            simp only [Act.put,List.setIfInBounds_toArray,List.set_cons_zero,List.set_cons_succ,i64_w,i32_w]
            rfl
           refine one_ (i:=5) (N:=some 72) #[true,true,true,true,true,true,false,false,false] rfl rfl (one_of HT_.out (by kernel_rfl)) (by decide) (fun K hK=>?_)
           refine Kd.N_lit_step k27 _ 27 ?hg (N':=72) ?hd (xs:=([(⟨a1_0,l1_1⟩ : S27)] : List (S27))) (inner:=[.int .i64 a1_0,.slice A1_1 l1_1.length c1_1]) (ok:=(fun k_=>((P0_3_ k_ ∨ P1_1_ k_) ∨ w.heap.size ≤ k_) ∧ some k_ ≠ (v148 : Value).ownBlock ∧ k_ ≠ gb133 ∧ k_ ≠ gb134 ∧ k_ ≠ gb143)) (okp:=(fun k_=>((P0_3_ k_ ∨ P1_1_ k_) ∨ w.heap.size ≤ k_) ∧ some k_ ≠ (v148 : Value).ownBlock ∧ k_ ≠ gb133 ∧ k_ ≠ gb134 ∧ k_ ≠ gb143)) ?hr ?hp (fun _ hk=>hk) ((show ∀ k_,w78.heap.size ≤ k_ → (fun k_=>((P0_3_ k_ ∨ P1_1_ k_) ∨ w.heap.size ≤ k_) ∧ some k_ ≠ (v148 : Value).ownBlock ∧ k_ ≠ gb133 ∧ k_ ≠ gb134 ∧ k_ ≠ gb143) k_ from fun k_ hk=>⟨(.inr (Nat.le_trans (below_size (by repeat (first|(with_reducible first|exact HB.out|apply below_alloc|apply pw_below_drewN|apply below_drew1|refine below_set ?_ GE133.out|refine below_set ?_ GE134.out|refine below_set ?_ GE143.out)|exact HB.out))) hk)),Kd.fresh' (Kd.N_lt (by (with_reducible repeat (first|apply Kd.N_alloc|apply Kd.N_drewN|apply Kd.N_drew));exact HO149.out)) k_ hk,Kd.freshB (g:=gb133) (o:=.cells #[.int .i64 a0_0,.int .i64 a0_1,.int .i64 a0_2,.slice A0_3 l0_3.length c0_3] 24 (0,0)) (by (with_reducible repeat (first|refine blk_drewN ?_ _|refine blk_drew ?_|refine blk_alloc ?_ _));exact BK133.out) k_ hk,Kd.freshB (g:=gb134) (o:=.cells #[.int .i64 a1_0,.slice A1_1 l1_1.length c1_1] 27 (0,0)) (by (with_reducible repeat (first|refine blk_drewN ?_ _|refine blk_drew ?_|refine blk_alloc ?_ _));exact BK134.out) k_ hk,Kd.freshB (g:=gb143) (o:=.cells #[.int .i64 a0_0,.int .i64 a0_1,.int .i64 a0_2,.slice A0_3 l0_3.length c0_3] 24 (0,0)) (by (with_reducible repeat (first|refine blk_drewN ?_ _|refine blk_drew ?_|refine blk_alloc ?_ _));exact BK143.out) k_ hk⟩) _ (Nat.le_refl _)) (Below.refl _ _) (Nat.le_refl _) (by simp) ?_;(case hd=>rfl);(case hg=>rfl);(case hr=>first|(go_simp;done)|(go_simp;rfl));(case hp=>first|exact (Reps.c2 (show Kd.FK k27 _ _ (⟨a1_0,l1_1⟩ : S27) [.int .i64 a1_0,.slice A1_1 l1_1.length c1_1] from (k27_mkF _ _ (⟨a1_0,l1_1⟩ : S27) (Kd.V_reads' (Kd.V_mono (ok':=(fun k_=>((P0_3_ k_ ∨ P1_1_ k_) ∨ w.heap.size ≤ k_) ∧ some k_ ≠ (v148 : Value).ownBlock ∧ k_ ≠ gb133 ∧ k_ ≠ gb134 ∧ k_ ≠ gb143)) (HO_135001.out) (fun k_ hk=>⟨hk.1.1,⟨hk.2,⟨hk.1.2.1,⟨hk.1.2.2.1,hk.1.2.2.2⟩⟩⟩⟩))).2.1 (Kd.V_F (Kd.V_mono (ok':=(fun k_=>((P0_3_ k_ ∨ P1_1_ k_) ∨ w.heap.size ≤ k_) ∧ some k_ ≠ (v148 : Value).ownBlock ∧ k_ ≠ gb133 ∧ k_ ≠ gb134 ∧ k_ ≠ gb143)) (HO_135001.out) (fun k_ hk=>⟨hk.1.1,⟨hk.2,⟨hk.1.2.1,⟨hk.1.2.2.1,hk.1.2.2.2⟩⟩⟩⟩))))) (Reps.none _ _))|exact (Reps.c2 (show Kd.FK k27 _ _ (⟨a1_0,l1_1⟩ : S27) [.int .i64 a1_0,.slice A1_1 l1_1.length c1_1] from (k27_mkF _ _ (⟨a1_0,l1_1⟩ : S27) (Kd.V_reads' (Kd.V_mono (ok':=(fun k_=>((P0_3_ k_ ∨ P1_1_ k_) ∨ w.heap.size ≤ k_) ∧ some k_ ≠ (v148 : Value).ownBlock ∧ k_ ≠ gb133 ∧ k_ ≠ gb134 ∧ k_ ≠ gb143)) (HO_135001.out) (fun k_ hk=>⟨hk.1.1,⟨hk.2,⟨hk.1.2.1,⟨hk.1.2.2.1,hk.1.2.2.2⟩⟩⟩⟩))).2.1 (Kd.V_F (Kd.V_mono (ok':=(fun k_=>((P0_3_ k_ ∨ P1_1_ k_) ∨ w.heap.size ≤ k_) ∧ some k_ ≠ (v148 : Value).ownBlock ∧ k_ ≠ gb133 ∧ k_ ≠ gb134 ∧ k_ ≠ gb143)) (Kd.V_drewN HO_135001.out _) (fun k_ hk=>⟨hk.1.1,⟨hk.2,⟨hk.1.2.1,⟨hk.1.2.2.1,hk.1.2.2.2⟩⟩⟩⟩))))) (Reps.none _ _)))
           intro v151 w79 ho80 hb hg_ hnew_
           clear hg_ hnew_
           (first|rw [← Ny150.out] at ho80|(simp only [Int.reduceToNat] at ho80;rw [← Ny150.out] at ho80))
           have n0_:=Aside0.mk (Kd.V_elder' (by (with_reducible repeat (first|apply Kd.V_alloc|apply Kd.V_drewN|apply Kd.V_drew));exact HO_134003.out) (Kd.N_base ho80) hb)
           have n1_:=Aside0.mk (Kd.V_elder' (by (with_reducible repeat (first|apply Kd.V_alloc|apply Kd.V_drewN|apply Kd.V_drew));exact HO_135001.out) (Kd.N_base ho80) hb)
           have n2_:=Aside0.mk (Kd.N_elder' (by (with_reducible repeat (first|apply Kd.N_alloc|apply Kd.N_drewN|apply Kd.N_drew));exact HO149.out) (Kd.N_base ho80) hb)
           have n3_:=Aside0.mk (Kd.N_lower ho80 (below_size (by repeat (first|(with_reducible first|exact HB.out|apply below_alloc|apply pw_below_drewN|apply below_drew1|refine below_set ?_ GE133.out|refine below_set ?_ GE134.out|refine below_set ?_ GE143.out)|exact HB.out))))
           have n4_:=Aside0.mk (blk_below (g:=gb133) (o:=.cells #[.int .i64 a0_0,.int .i64 a0_1,.int .i64 a0_2,.slice A0_3 l0_3.length c0_3] 24 (0,0)) (by (with_reducible repeat (first|refine blk_drewN ?_ _|refine blk_drew ?_|refine blk_alloc ?_ _));exact BK133.out) hb)
           have n5_:=Aside0.mk (blk_below (g:=gb134) (o:=.cells #[.int .i64 a1_0,.slice A1_1 l1_1.length c1_1] 27 (0,0)) (by (with_reducible repeat (first|refine blk_drewN ?_ _|refine blk_drew ?_|refine blk_alloc ?_ _));exact BK134.out) hb)
           have n6_:=Aside0.mk (blk_below (g:=gb143) (o:=.cells #[.int .i64 a0_0,.int .i64 a0_1,.int .i64 a0_2,.slice A0_3 l0_3.length c0_3] 24 (0,0)) (by (with_reducible repeat (first|refine blk_drewN ?_ _|refine blk_drew ?_|refine blk_alloc ?_ _));exact BK143.out) hb)
           have n7_:=Aside0.mk (below_step (by repeat (first|(with_reducible first|exact HB.out|apply below_alloc|apply pw_below_drewN|apply below_drew1|refine below_set ?_ GE133.out|refine below_set ?_ GE134.out|refine below_set ?_ GE143.out)|exact HB.out)) hb)
           clear HO_134003
           clear HO_135001
           clear HO149
           clear BK133
           clear BK134
           clear BK143
           clear HB
           have HO_134003:=n0_
           have HO_135001:=n1_
           have HO149:=n2_
           have HO152:=n3_
           have BK133:=n4_
           have BK134:=n5_
           have BK143:=n6_
           have HB:=n7_
           clear n0_ n1_ n2_ n3_ n4_ n5_ n6_ n7_
           clear hb ho80
           refine hK.out _ _ ⟨(blk_cell BK133.out 0).trans rfl,(blk_cell BK133.out 1).trans rfl,(blk_cell BK133.out 2).trans rfl,(blk_cell BK133.out 3).trans rfl,(blk_cell BK134.out 0).trans rfl,(blk_cell BK134.out 1).trans rfl⟩ (fun hHeld=>?_)
           clear hK K
           refine norm_ (a':=?_) ?_ ?_
           rotate_left
           ·show Act.put _ (some 72) _ = _
            simp only [Act.put,List.setIfInBounds_toArray,List.set_cons_zero,List.set_cons_succ,i64_w,i32_w]
            rfl
           exact norm_ (by simp only [putAll,Act.put,List.setIfInBounds_toArray,List.set_cons_zero,List.set_cons_succ]) (hCont (v145,v148,v151) _ ⟨hHeld,(by (with_reducible repeat (first|apply Kd.N_alloc|apply Kd.N_drewN|apply Kd.N_drew));exact Kd.N_mono HO149.out (fun _ hk=>⟨hk.1.1,⟨hk.2,⟨hk.1.2.1,⟨hk.1.2.2.1,hk.1.2.2.2⟩⟩⟩⟩)),(by (with_reducible repeat (first|apply Kd.N_alloc|apply Kd.N_drewN|apply Kd.N_drew));exact HO152.out),(by (with_reducible repeat (first|apply Kd.V_alloc|apply Kd.V_drewN|apply Kd.V_drew));exact Kd.V_mono HO_134003.out (fun _ hk=>⟨hk.1.1.1,⟨hk.1.2,⟨hk.2,⟨hk.1.1.2.1,⟨hk.1.1.2.2.1,hk.1.1.2.2.2⟩⟩⟩⟩⟩)),(by (with_reducible repeat (first|apply Kd.V_alloc|apply Kd.V_drewN|apply Kd.V_drew));exact Kd.V_mono HO_135001.out (fun _ hk=>⟨hk.1.1.1,⟨hk.1.2,⟨hk.2,⟨hk.1.1.2.1,⟨hk.1.1.2.2.1,hk.1.1.2.2.2⟩⟩⟩⟩⟩)),(by (with_reducible repeat (first|refine blk_drewN ?_ _|refine blk_drew ?_|refine blk_alloc ?_ _));exact BK133.out),(by (with_reducible repeat (first|refine blk_drewN ?_ _|refine blk_drew ?_|refine blk_alloc ?_ _));exact BK134.out),(by (with_reducible repeat (first|refine blk_drewN ?_ _|refine blk_drew ?_|refine blk_alloc ?_ _));exact BK143.out),(by repeat (first|(with_reducible first|exact HB.out|apply below_alloc|apply pw_below_drewN|apply below_drew1|refine below_set ?_ GE133.out|refine below_set ?_ GE134.out|refine below_set ?_ GE143.out)|exact HB.out))⟩)
          ·skip
           refine Kd.N_lit_step k27 _ 27 ?hg (N':=72) ?hd (xs:=([(⟨a1_0,l1_1⟩ : S27)] : List (S27))) (inner:=[.int .i64 a1_0,.slice A1_1 l1_1.length c1_1]) (ok:=(fun k_=>((P0_3_ k_ ∨ P1_1_ k_) ∨ w.heap.size ≤ k_) ∧ some k_ ≠ (v145 : Value).ownBlock ∧ k_ ≠ gb133 ∧ k_ ≠ gb134 ∧ k_ ≠ gb143)) (okp:=(fun k_=>((P0_3_ k_ ∨ P1_1_ k_) ∨ w.heap.size ≤ k_) ∧ some k_ ≠ (v145 : Value).ownBlock ∧ k_ ≠ gb133 ∧ k_ ≠ gb134 ∧ k_ ≠ gb143)) ?hr ?hp (fun _ hk=>hk) ((show ∀ k_,w76.heap.size ≤ k_ → (fun k_=>((P0_3_ k_ ∨ P1_1_ k_) ∨ w.heap.size ≤ k_) ∧ some k_ ≠ (v145 : Value).ownBlock ∧ k_ ≠ gb133 ∧ k_ ≠ gb134 ∧ k_ ≠ gb143) k_ from fun k_ hk=>⟨(.inr (Nat.le_trans (below_size (by repeat (first|(with_reducible first|exact HB.out|apply below_alloc|apply pw_below_drewN|apply below_drew1|refine below_set ?_ GE133.out|refine below_set ?_ GE134.out|refine below_set ?_ GE143.out)|exact HB.out))) hk)),Kd.fresh' (Kd.N_lt (by (with_reducible repeat (first|apply Kd.N_alloc|apply Kd.N_drewN|apply Kd.N_drew));exact HO146.out)) k_ hk,Kd.freshB (g:=gb133) (o:=.cells #[.int .i64 a0_0,.int .i64 a0_1,.int .i64 a0_2,.slice A0_3 l0_3.length c0_3] 24 (0,0)) (by (with_reducible repeat (first|refine blk_drewN ?_ _|refine blk_drew ?_|refine blk_alloc ?_ _));exact BK133.out) k_ hk,Kd.freshB (g:=gb134) (o:=.cells #[.int .i64 a1_0,.slice A1_1 l1_1.length c1_1] 27 (0,0)) (by (with_reducible repeat (first|refine blk_drewN ?_ _|refine blk_drew ?_|refine blk_alloc ?_ _));exact BK134.out) k_ hk,Kd.freshB (g:=gb143) (o:=.cells #[.int .i64 a0_0,.int .i64 a0_1,.int .i64 a0_2,.slice A0_3 l0_3.length c0_3] 24 (0,0)) (by (with_reducible repeat (first|refine blk_drewN ?_ _|refine blk_drew ?_|refine blk_alloc ?_ _));exact BK143.out) k_ hk⟩) _ (Nat.le_refl _)) (Below.refl _ _) (Nat.le_refl _) (by simp) ?_;(case hd=>rfl);(case hg=>rfl);(case hr=>first|(go_simp;done)|(go_simp;rfl));(case hp=>first|exact (Reps.c2 (show Kd.FK k27 _ _ (⟨a1_0,l1_1⟩ : S27) [.int .i64 a1_0,.slice A1_1 l1_1.length c1_1] from (k27_mkF _ _ (⟨a1_0,l1_1⟩ : S27) (Kd.V_reads' (Kd.V_mono (ok':=(fun k_=>((P0_3_ k_ ∨ P1_1_ k_) ∨ w.heap.size ≤ k_) ∧ some k_ ≠ (v145 : Value).ownBlock ∧ k_ ≠ gb133 ∧ k_ ≠ gb134 ∧ k_ ≠ gb143)) (HO_135001.out) (fun k_ hk=>⟨hk.1.1,⟨hk.2,⟨hk.1.2.1,⟨hk.1.2.2.1,hk.1.2.2.2⟩⟩⟩⟩))).2.1 (Kd.V_F (Kd.V_mono (ok':=(fun k_=>((P0_3_ k_ ∨ P1_1_ k_) ∨ w.heap.size ≤ k_) ∧ some k_ ≠ (v145 : Value).ownBlock ∧ k_ ≠ gb133 ∧ k_ ≠ gb134 ∧ k_ ≠ gb143)) (HO_135001.out) (fun k_ hk=>⟨hk.1.1,⟨hk.2,⟨hk.1.2.1,⟨hk.1.2.2.1,hk.1.2.2.2⟩⟩⟩⟩))))) (Reps.none _ _))|exact (Reps.c2 (show Kd.FK k27 _ _ (⟨a1_0,l1_1⟩ : S27) [.int .i64 a1_0,.slice A1_1 l1_1.length c1_1] from (k27_mkF _ _ (⟨a1_0,l1_1⟩ : S27) (Kd.V_reads' (Kd.V_mono (ok':=(fun k_=>((P0_3_ k_ ∨ P1_1_ k_) ∨ w.heap.size ≤ k_) ∧ some k_ ≠ (v145 : Value).ownBlock ∧ k_ ≠ gb133 ∧ k_ ≠ gb134 ∧ k_ ≠ gb143)) (HO_135001.out) (fun k_ hk=>⟨hk.1.1,⟨hk.2,⟨hk.1.2.1,⟨hk.1.2.2.1,hk.1.2.2.2⟩⟩⟩⟩))).2.1 (Kd.V_F (Kd.V_mono (ok':=(fun k_=>((P0_3_ k_ ∨ P1_1_ k_) ∨ w.heap.size ≤ k_) ∧ some k_ ≠ (v145 : Value).ownBlock ∧ k_ ≠ gb133 ∧ k_ ≠ gb134 ∧ k_ ≠ gb143)) (Kd.V_drewN HO_135001.out _) (fun k_ hk=>⟨hk.1.1,⟨hk.2,⟨hk.1.2.1,⟨hk.1.2.2.1,hk.1.2.2.2⟩⟩⟩⟩))))) (Reps.none _ _)))
           intro v151 w78 ho79 hb hg_ hnew_
           clear hg_ hnew_
           (first|rw [← Ny150.out] at ho79|(simp only [Int.reduceToNat] at ho79;rw [← Ny150.out] at ho79))
           have n0_:=Aside0.mk (Kd.V_elder' (by (with_reducible repeat (first|apply Kd.V_alloc|apply Kd.V_drewN|apply Kd.V_drew));exact HO_134003.out) (Kd.N_base ho79) hb)
           have n1_:=Aside0.mk (Kd.V_elder' (by (with_reducible repeat (first|apply Kd.V_alloc|apply Kd.V_drewN|apply Kd.V_drew));exact HO_135001.out) (Kd.N_base ho79) hb)
           have n2_:=Aside0.mk (Kd.N_elder' (by (with_reducible repeat (first|apply Kd.N_alloc|apply Kd.N_drewN|apply Kd.N_drew));exact HO146.out) (Kd.N_base ho79) hb)
           have n3_:=Aside0.mk (Kd.N_lower ho79 (below_size (by repeat (first|(with_reducible first|exact HB.out|apply below_alloc|apply pw_below_drewN|apply below_drew1|refine below_set ?_ GE133.out|refine below_set ?_ GE134.out|refine below_set ?_ GE143.out)|exact HB.out))))
           have n4_:=Aside0.mk (blk_below (g:=gb133) (o:=.cells #[.int .i64 a0_0,.int .i64 a0_1,.int .i64 a0_2,.slice A0_3 l0_3.length c0_3] 24 (0,0)) (by (with_reducible repeat (first|refine blk_drewN ?_ _|refine blk_drew ?_|refine blk_alloc ?_ _));exact BK133.out) hb)
           have n5_:=Aside0.mk (blk_below (g:=gb134) (o:=.cells #[.int .i64 a1_0,.slice A1_1 l1_1.length c1_1] 27 (0,0)) (by (with_reducible repeat (first|refine blk_drewN ?_ _|refine blk_drew ?_|refine blk_alloc ?_ _));exact BK134.out) hb)
           have n6_:=Aside0.mk (blk_below (g:=gb143) (o:=.cells #[.int .i64 a0_0,.int .i64 a0_1,.int .i64 a0_2,.slice A0_3 l0_3.length c0_3] 24 (0,0)) (by (with_reducible repeat (first|refine blk_drewN ?_ _|refine blk_drew ?_|refine blk_alloc ?_ _));exact BK143.out) hb)
           have n7_:=Aside0.mk (below_step (by repeat (first|(with_reducible first|exact HB.out|apply below_alloc|apply pw_below_drewN|apply below_drew1|refine below_set ?_ GE133.out|refine below_set ?_ GE134.out|refine below_set ?_ GE143.out)|exact HB.out)) hb)
           clear HO_134003
           clear HO_135001
           clear HO146
           clear BK133
           clear BK134
           clear BK143
           clear HB
           have HO_134003:=n0_
           have HO_135001:=n1_
           have HO146:=n2_
           have HO152:=n3_
           have BK133:=n4_
           have BK134:=n5_
           have BK143:=n6_
           have HB:=n7_
           clear n0_ n1_ n2_ n3_ n4_ n5_ n6_ n7_
           clear hb ho79
           refine hK.out _ _ ⟨(blk_cell BK133.out 0).trans rfl,(blk_cell BK133.out 1).trans rfl,(blk_cell BK133.out 2).trans rfl,(blk_cell BK133.out 3).trans rfl,(blk_cell BK134.out 0).trans rfl,(blk_cell BK134.out 1).trans rfl⟩ (fun hHeld=>?_)
           clear hK K
           refine norm_ (a':=?_) ?_ ?_
           rotate_left
           ·show Act.put _ (some 72) _ = _
            simp only [Act.put,List.setIfInBounds_toArray,List.set_cons_zero,List.set_cons_succ,i64_w,i32_w]
            rfl
           refine one_ (i:=3) (N:=some 70) #[true,true,true,true,true,true,false,false,false] rfl rfl (one_of HT_.out (by kernel_rfl)) (by decide) (fun K hK=>?_)
           refine Kd.N_append_rows_step k27 (w0:=w) w.heap.size (by rfl) (.tmp 67) (.tmp 69) 22 27 (.agg #[(.int .i64 0),(.slice none 0 0)]) 32 rfl Try.underlying22 info27 rfl (by decide) (by omega) v145 y144 l0_3 _ _ _ (fun k_=>((P0_3_ k_ ∨ P1_1_ k_) ∨ w.heap.size ≤ k_) ∧ some k_ ≠ (v151 : Value).ownBlock ∧ k_ ≠ gb133 ∧ k_ ≠ gb134 ∧ k_ ≠ gb143) (fun k_=>((fun k_=>((P0_3_ k_ ∨ P1_1_ k_) ∨ w.heap.size ≤ k_) ∧ some k_ ≠ (v151 : Value).ownBlock ∧ k_ ≠ gb133 ∧ k_ ≠ gb134 ∧ k_ ≠ gb143)) k_ ∧ some k_ ≠ (v145 : Value).ownBlock) rfl rfl ?aO ?aR (fun _ hk=>hk) ?aF ?aB ?aS ?aL ?_
           (case aR=>exact (by skip;exact Kd.V_F (Kd.V_mono (ok':=(fun k_=>((fun k_=>((P0_3_ k_ ∨ P1_1_ k_) ∨ w.heap.size ≤ k_) ∧ some k_ ≠ (v151 : Value).ownBlock ∧ k_ ≠ gb133 ∧ k_ ≠ gb134 ∧ k_ ≠ gb143)) k_ ∧ some k_ ≠ (v145 : Value).ownBlock)) (HO_134003.out) (fun k_ hk=>⟨⟨hk.1.1.1,⟨hk.2,⟨hk.1.1.2.1,⟨hk.1.1.2.2.1,hk.1.1.2.2.2⟩⟩⟩⟩,hk.1.2⟩))))
           (case aB=>exact (by repeat (first|(with_reducible first|exact HB.out|apply below_alloc|apply pw_below_drewN|apply below_drew1|refine below_set ?_ GE133.out|refine below_set ?_ GE134.out|refine below_set ?_ GE143.out)|exact HB.out)))
           (case aF=>exact (fun k_ hk=>⟨(.inr (Nat.le_trans (below_size (by repeat (first|(with_reducible first|exact HB.out|apply below_alloc|apply pw_below_drewN|apply below_drew1|refine below_set ?_ GE133.out|refine below_set ?_ GE134.out|refine below_set ?_ GE143.out)|exact HB.out))) hk)),Kd.fresh' (Kd.N_lt (by (with_reducible repeat (first|apply Kd.N_alloc|apply Kd.N_drewN|apply Kd.N_drew));exact HO152.out)) k_ hk,Kd.freshB (g:=gb133) (o:=.cells #[.int .i64 a0_0,.int .i64 a0_1,.int .i64 a0_2,.slice A0_3 l0_3.length c0_3] 24 (0,0)) (by (with_reducible repeat (first|refine blk_drewN ?_ _|refine blk_drew ?_|refine blk_alloc ?_ _));exact BK133.out) k_ hk,Kd.freshB (g:=gb134) (o:=.cells #[.int .i64 a1_0,.slice A1_1 l1_1.length c1_1] 27 (0,0)) (by (with_reducible repeat (first|refine blk_drewN ?_ _|refine blk_drew ?_|refine blk_alloc ?_ _));exact BK134.out) k_ hk,Kd.freshB (g:=gb143) (o:=.cells #[.int .i64 a0_0,.int .i64 a0_1,.int .i64 a0_2,.slice A0_3 l0_3.length c0_3] 24 (0,0)) (by (with_reducible repeat (first|refine blk_drewN ?_ _|refine blk_drew ?_|refine blk_alloc ?_ _));exact BK143.out) k_ hk⟩))
           (case aO=>exact (by (with_reducible repeat (first|apply Kd.N_alloc|apply Kd.N_drewN|apply Kd.N_drew));exact Kd.N_mono HO146.out (fun _ hk=>⟨hk.1.1,⟨hk.2,⟨hk.1.2.1,⟨hk.1.2.2.1,hk.1.2.2.2⟩⟩⟩⟩)))
           (case aS=>exact (below_size (by repeat (first|(with_reducible first|exact HB.out|apply below_alloc|apply pw_below_drewN|apply below_drew1|refine below_set ?_ GE133.out|refine below_set ?_ GE134.out|refine below_set ?_ GE143.out)|exact HB.out))))
           (case aL=>have:=LMc28.out;omega)
           intro v148 w80 ho hb hg hat
           rw [← Ny147.out] at ho
           have n0_:=Aside0.mk (Kd.V_afterv (ok:=(fun k_=>((P0_3_ k_ ∨ P1_1_ k_) ∨ w.heap.size ≤ k_) ∧ some k_ ≠ (v151 : Value).ownBlock ∧ k_ ≠ gb133 ∧ k_ ≠ gb134 ∧ k_ ≠ gb143)) (by (with_reducible repeat (first|apply Kd.V_alloc|apply Kd.V_drewN|apply Kd.V_drew));exact Kd.V_mono HO_134003.out (fun _ hk=>⟨⟨hk.1.1.1,⟨hk.2,⟨hk.1.1.2.1,⟨hk.1.1.2.2.1,hk.1.1.2.2.2⟩⟩⟩⟩,hk.1.2⟩)) hg hat)
           have n1_:=Aside0.mk (Kd.V_afterv (ok:=(fun k_=>((P0_3_ k_ ∨ P1_1_ k_) ∨ w.heap.size ≤ k_) ∧ some k_ ≠ (v151 : Value).ownBlock ∧ k_ ≠ gb133 ∧ k_ ≠ gb134 ∧ k_ ≠ gb143)) (by (with_reducible repeat (first|apply Kd.V_alloc|apply Kd.V_drewN|apply Kd.V_drew));exact Kd.V_mono HO_135001.out (fun _ hk=>⟨⟨hk.1.1.1,⟨hk.2,⟨hk.1.1.2.1,⟨hk.1.1.2.2.1,hk.1.1.2.2.2⟩⟩⟩⟩,hk.1.2⟩)) hg hat)
           have n2_:=Aside0.mk (blk_grown (g:=gb133) (o:=.cells #[.int .i64 a0_0,.int .i64 a0_1,.int .i64 a0_2,.slice A0_3 l0_3.length c0_3] 24 (0,0)) (by (with_reducible repeat (first|refine blk_drewN ?_ _|refine blk_drew ?_|refine blk_alloc ?_ _));exact BK133.out) hg (Kd.N_ne HO146.out BK133.out (by decide)))
           have n3_:=Aside0.mk (blk_grown (g:=gb134) (o:=.cells #[.int .i64 a1_0,.slice A1_1 l1_1.length c1_1] 27 (0,0)) (by (with_reducible repeat (first|refine blk_drewN ?_ _|refine blk_drew ?_|refine blk_alloc ?_ _));exact BK134.out) hg (Kd.N_away HO146.out (fun _ hk=>hk.1.2.2.1)))
           have n4_:=Aside0.mk (blk_grown (g:=gb143) (o:=.cells #[.int .i64 a0_0,.int .i64 a0_1,.int .i64 a0_2,.slice A0_3 l0_3.length c0_3] 24 (0,0)) (by (with_reducible repeat (first|refine blk_drewN ?_ _|refine blk_drew ?_|refine blk_alloc ?_ _));exact BK143.out) hg (Kd.N_ne HO146.out BK143.out (by decide)))
           have n5_:=Aside0.mk (Kd.N_afterv (ok:=(fun k_=>((P0_3_ k_ ∨ P1_1_ k_) ∨ w.heap.size ≤ k_) ∧ k_ ≠ gb133 ∧ k_ ≠ gb134 ∧ k_ ≠ gb143)) (by (with_reducible repeat (first|apply Kd.N_alloc|apply Kd.N_drewN|apply Kd.N_drew));exact Kd.N_mono HO152.out (fun _ hk=>⟨⟨hk.1,⟨hk.2.2.1,⟨hk.2.2.2.1,hk.2.2.2.2⟩⟩⟩,hk.2.1⟩)) hg hat)
           have n6_:=Aside0.mk (hb)
           have n7_:=Aside0.mk (ho)
           clear HO_134003
           clear HO_135001
           clear BK133
           clear BK134
           clear BK143
           clear HO152
           clear HB
           clear HO146
           have HO_134003:=n0_
           have HO_135001:=n1_
           have BK133:=n2_
           have BK134:=n3_
           have BK143:=n4_
           have HO152:=n5_
           have HB:=n6_
           have HO149:=n7_
           clear n0_ n1_ n2_ n3_ n4_ n5_ n6_ n7_
           clear ho hb hg hat
           refine hK.out _ _ ⟨(blk_cell BK133.out 0).trans rfl,(blk_cell BK133.out 1).trans rfl,(blk_cell BK133.out 2).trans rfl,(blk_cell BK133.out 3).trans rfl,(blk_cell BK134.out 0).trans rfl,(blk_cell BK134.out 1).trans rfl⟩ (fun hHeld=>?_)
           clear hK K
           refine norm_ (a':=?_) ?_ ?_
           rotate_left
           ·show Act.put _ (some 70) _ = _
            simp only [Act.put,List.setIfInBounds_toArray,List.set_cons_zero,List.set_cons_succ,i64_w,i32_w]
            rfl
           exact norm_ (by simp only [putAll,Act.put,List.setIfInBounds_toArray,List.set_cons_zero,List.set_cons_succ]) (hCont (v145,v148,v151) _ ⟨hHeld,(by (with_reducible repeat (first|apply Kd.N_alloc|apply Kd.N_drewN|apply Kd.N_drew));exact HO149.out),(by (with_reducible repeat (first|apply Kd.N_alloc|apply Kd.N_drewN|apply Kd.N_drew));exact Kd.N_mono HO152.out (fun _ hk=>⟨hk.1.1,⟨hk.2,⟨hk.1.2.1,⟨hk.1.2.2.1,hk.1.2.2.2⟩⟩⟩⟩)),(by (with_reducible repeat (first|apply Kd.V_alloc|apply Kd.V_drewN|apply Kd.V_drew));exact Kd.V_mono HO_134003.out (fun _ hk=>⟨hk.1.1,⟨hk.2,⟨hk.1.2.1,⟨hk.1.2.2.1,⟨hk.1.2.2.2.1,hk.1.2.2.2.2⟩⟩⟩⟩⟩)),(by (with_reducible repeat (first|apply Kd.V_alloc|apply Kd.V_drewN|apply Kd.V_drew));exact Kd.V_mono HO_135001.out (fun _ hk=>⟨hk.1.1,⟨hk.2,⟨hk.1.2.1,⟨hk.1.2.2.1,⟨hk.1.2.2.2.1,hk.1.2.2.2.2⟩⟩⟩⟩⟩)),(by (with_reducible repeat (first|refine blk_drewN ?_ _|refine blk_drew ?_|refine blk_alloc ?_ _));exact BK133.out),(by (with_reducible repeat (first|refine blk_drewN ?_ _|refine blk_drew ?_|refine blk_alloc ?_ _));exact BK134.out),(by (with_reducible repeat (first|refine blk_drewN ?_ _|refine blk_drew ?_|refine blk_alloc ?_ _));exact BK143.out),(by repeat (first|(with_reducible first|exact HB.out|apply below_alloc|apply pw_below_drewN|apply below_drew1|refine below_set ?_ GE133.out|refine below_set ?_ GE134.out|refine below_set ?_ GE143.out)|exact HB.out))⟩)
         ·skip
          refine Kd.N_lit_step k27 _ 27 ?hg (N':=72) ?hd (xs:=([(⟨a1_0,l1_1⟩ : S27)] : List (S27))) (inner:=[.int .i64 a1_0,.slice A1_1 l1_1.length c1_1]) (ok:=(fun k_=>((P0_3_ k_ ∨ P1_1_ k_) ∨ w.heap.size ≤ k_) ∧ k_ ≠ gb133 ∧ k_ ≠ gb134 ∧ k_ ≠ gb143)) (okp:=(fun k_=>((P0_3_ k_ ∨ P1_1_ k_) ∨ w.heap.size ≤ k_) ∧ k_ ≠ gb133 ∧ k_ ≠ gb134 ∧ k_ ≠ gb143)) ?hr ?hp (fun _ hk=>hk) ((show ∀ k_,w75.heap.size ≤ k_ → (fun k_=>((P0_3_ k_ ∨ P1_1_ k_) ∨ w.heap.size ≤ k_) ∧ k_ ≠ gb133 ∧ k_ ≠ gb134 ∧ k_ ≠ gb143) k_ from fun k_ hk=>⟨(.inr (Nat.le_trans (below_size (by repeat (first|(with_reducible first|exact HB.out|apply below_alloc|apply pw_below_drewN|apply below_drew1|refine below_set ?_ GE133.out|refine below_set ?_ GE134.out|refine below_set ?_ GE143.out)|exact HB.out))) hk)),Kd.freshB (g:=gb133) (o:=.cells #[.int .i64 a0_0,.int .i64 a0_1,.int .i64 a0_2,.slice A0_3 l0_3.length c0_3] 24 (0,0)) (by (with_reducible repeat (first|refine blk_drewN ?_ _|refine blk_drew ?_|refine blk_alloc ?_ _));exact BK133.out) k_ hk,Kd.freshB (g:=gb134) (o:=.cells #[.int .i64 a1_0,.slice A1_1 l1_1.length c1_1] 27 (0,0)) (by (with_reducible repeat (first|refine blk_drewN ?_ _|refine blk_drew ?_|refine blk_alloc ?_ _));exact BK134.out) k_ hk,Kd.freshB (g:=gb143) (o:=.cells #[.int .i64 a0_0,.int .i64 a0_1,.int .i64 a0_2,.slice A0_3 l0_3.length c0_3] 24 (0,0)) (by (with_reducible repeat (first|refine blk_drewN ?_ _|refine blk_drew ?_|refine blk_alloc ?_ _));exact BK143.out) k_ hk⟩) _ (Nat.le_refl _)) (Below.refl _ _) (Nat.le_refl _) (by simp) ?_;(case hd=>rfl);(case hg=>rfl);(case hr=>first|(go_simp;done)|(go_simp;rfl));(case hp=>first|exact (Reps.c2 (show Kd.FK k27 _ _ (⟨a1_0,l1_1⟩ : S27) [.int .i64 a1_0,.slice A1_1 l1_1.length c1_1] from (k27_mkF _ _ (⟨a1_0,l1_1⟩ : S27) (Kd.V_reads' (Kd.V_mono (ok':=(fun k_=>((P0_3_ k_ ∨ P1_1_ k_) ∨ w.heap.size ≤ k_) ∧ k_ ≠ gb133 ∧ k_ ≠ gb134 ∧ k_ ≠ gb143)) (HO_135001.out) (fun k_ hk=>⟨hk.1,⟨hk.2.1,⟨hk.2.2.1,hk.2.2.2⟩⟩⟩))).2.1 (Kd.V_F (Kd.V_mono (ok':=(fun k_=>((P0_3_ k_ ∨ P1_1_ k_) ∨ w.heap.size ≤ k_) ∧ k_ ≠ gb133 ∧ k_ ≠ gb134 ∧ k_ ≠ gb143)) (HO_135001.out) (fun k_ hk=>⟨hk.1,⟨hk.2.1,⟨hk.2.2.1,hk.2.2.2⟩⟩⟩))))) (Reps.none _ _))|exact (Reps.c2 (show Kd.FK k27 _ _ (⟨a1_0,l1_1⟩ : S27) [.int .i64 a1_0,.slice A1_1 l1_1.length c1_1] from (k27_mkF _ _ (⟨a1_0,l1_1⟩ : S27) (Kd.V_reads' (Kd.V_mono (ok':=(fun k_=>((P0_3_ k_ ∨ P1_1_ k_) ∨ w.heap.size ≤ k_) ∧ k_ ≠ gb133 ∧ k_ ≠ gb134 ∧ k_ ≠ gb143)) (HO_135001.out) (fun k_ hk=>⟨hk.1,⟨hk.2.1,⟨hk.2.2.1,hk.2.2.2⟩⟩⟩))).2.1 (Kd.V_F (Kd.V_mono (ok':=(fun k_=>((P0_3_ k_ ∨ P1_1_ k_) ∨ w.heap.size ≤ k_) ∧ k_ ≠ gb133 ∧ k_ ≠ gb134 ∧ k_ ≠ gb143)) (Kd.V_drewN HO_135001.out _) (fun k_ hk=>⟨hk.1,⟨hk.2.1,⟨hk.2.2.1,hk.2.2.2⟩⟩⟩))))) (Reps.none _ _)))
          intro v151 w76 ho77 hb hg_ hnew_
          clear hg_ hnew_
          (first|rw [← Ny150.out] at ho77|(simp only [Int.reduceToNat] at ho77;rw [← Ny150.out] at ho77))
          have n0_:=Aside0.mk (Kd.V_elder' (by (with_reducible repeat (first|apply Kd.V_alloc|apply Kd.V_drewN|apply Kd.V_drew));exact HO_134003.out) (Kd.N_base ho77) hb)
          have n1_:=Aside0.mk (Kd.V_elder' (by (with_reducible repeat (first|apply Kd.V_alloc|apply Kd.V_drewN|apply Kd.V_drew));exact HO_135001.out) (Kd.N_base ho77) hb)
          have n2_:=Aside0.mk (Kd.N_lower ho77 (below_size (by repeat (first|(with_reducible first|exact HB.out|apply below_alloc|apply pw_below_drewN|apply below_drew1|refine below_set ?_ GE133.out|refine below_set ?_ GE134.out|refine below_set ?_ GE143.out)|exact HB.out))))
          have n3_:=Aside0.mk (blk_below (g:=gb133) (o:=.cells #[.int .i64 a0_0,.int .i64 a0_1,.int .i64 a0_2,.slice A0_3 l0_3.length c0_3] 24 (0,0)) (by (with_reducible repeat (first|refine blk_drewN ?_ _|refine blk_drew ?_|refine blk_alloc ?_ _));exact BK133.out) hb)
          have n4_:=Aside0.mk (blk_below (g:=gb134) (o:=.cells #[.int .i64 a1_0,.slice A1_1 l1_1.length c1_1] 27 (0,0)) (by (with_reducible repeat (first|refine blk_drewN ?_ _|refine blk_drew ?_|refine blk_alloc ?_ _));exact BK134.out) hb)
          have n5_:=Aside0.mk (blk_below (g:=gb143) (o:=.cells #[.int .i64 a0_0,.int .i64 a0_1,.int .i64 a0_2,.slice A0_3 l0_3.length c0_3] 24 (0,0)) (by (with_reducible repeat (first|refine blk_drewN ?_ _|refine blk_drew ?_|refine blk_alloc ?_ _));exact BK143.out) hb)
          have n6_:=Aside0.mk (below_step (by repeat (first|(with_reducible first|exact HB.out|apply below_alloc|apply pw_below_drewN|apply below_drew1|refine below_set ?_ GE133.out|refine below_set ?_ GE134.out|refine below_set ?_ GE143.out)|exact HB.out)) hb)
          clear HO_134003
          clear HO_135001
          clear BK133
          clear BK134
          clear BK143
          clear HB
          have HO_134003:=n0_
          have HO_135001:=n1_
          have HO152:=n2_
          have BK133:=n3_
          have BK134:=n4_
          have BK143:=n5_
          have HB:=n6_
          clear n0_ n1_ n2_ n3_ n4_ n5_ n6_
          clear hb ho77
          refine hK.out _ _ ⟨(blk_cell BK133.out 0).trans rfl,(blk_cell BK133.out 1).trans rfl,(blk_cell BK133.out 2).trans rfl,(blk_cell BK133.out 3).trans rfl,(blk_cell BK134.out 0).trans rfl,(blk_cell BK134.out 1).trans rfl⟩ (fun hHeld=>?_)
          clear hK K
          refine norm_ (a':=?_) ?_ ?_
          rotate_left
          ·show Act.put _ (some 72) _ = _
           simp only [Act.put,List.setIfInBounds_toArray,List.set_cons_zero,List.set_cons_succ,i64_w,i32_w]
           rfl
          refine one_ (i:=0) (N:=some 67) #[true,true,true,false,true,true,false,false,false] rfl rfl (one_of HT_.out (by kernel_rfl)) (by decide) (fun K hK=>?_)
          refine Kd.N_lit_step k27 _ 27 ?hg (N':=67) ?hd (xs:=([] : List (S27))) (inner:=[]) (ok:=(fun k_=>((P0_3_ k_ ∨ P1_1_ k_) ∨ w.heap.size ≤ k_) ∧ some k_ ≠ (v151 : Value).ownBlock ∧ k_ ≠ gb133 ∧ k_ ≠ gb134 ∧ k_ ≠ gb143)) (okp:=(fun k_=>((P0_3_ k_ ∨ P1_1_ k_) ∨ w.heap.size ≤ k_) ∧ some k_ ≠ (v151 : Value).ownBlock ∧ k_ ≠ gb133 ∧ k_ ≠ gb134 ∧ k_ ≠ gb143)) ?hr ?hp (fun _ hk=>hk) ((show ∀ k_,w76.heap.size ≤ k_ → (fun k_=>((P0_3_ k_ ∨ P1_1_ k_) ∨ w.heap.size ≤ k_) ∧ some k_ ≠ (v151 : Value).ownBlock ∧ k_ ≠ gb133 ∧ k_ ≠ gb134 ∧ k_ ≠ gb143) k_ from fun k_ hk=>⟨(.inr (Nat.le_trans (below_size (by repeat (first|(with_reducible first|exact HB.out|apply below_alloc|apply pw_below_drewN|apply below_drew1|refine below_set ?_ GE133.out|refine below_set ?_ GE134.out|refine below_set ?_ GE143.out)|exact HB.out))) hk)),Kd.fresh' (Kd.N_lt (by (with_reducible repeat (first|apply Kd.N_alloc|apply Kd.N_drewN|apply Kd.N_drew));exact HO152.out)) k_ hk,Kd.freshB (g:=gb133) (o:=.cells #[.int .i64 a0_0,.int .i64 a0_1,.int .i64 a0_2,.slice A0_3 l0_3.length c0_3] 24 (0,0)) (by (with_reducible repeat (first|refine blk_drewN ?_ _|refine blk_drew ?_|refine blk_alloc ?_ _));exact BK133.out) k_ hk,Kd.freshB (g:=gb134) (o:=.cells #[.int .i64 a1_0,.slice A1_1 l1_1.length c1_1] 27 (0,0)) (by (with_reducible repeat (first|refine blk_drewN ?_ _|refine blk_drew ?_|refine blk_alloc ?_ _));exact BK134.out) k_ hk,Kd.freshB (g:=gb143) (o:=.cells #[.int .i64 a0_0,.int .i64 a0_1,.int .i64 a0_2,.slice A0_3 l0_3.length c0_3] 24 (0,0)) (by (with_reducible repeat (first|refine blk_drewN ?_ _|refine blk_drew ?_|refine blk_alloc ?_ _));exact BK143.out) k_ hk⟩) _ (Nat.le_refl _)) (Below.refl _ _) (Nat.le_refl _) (by simp) ?_;(case hd=>rfl);(case hg=>rfl);(case hr=>first|(go_simp;done)|(go_simp;rfl));(case hp=>first|exact (Reps.none _ _)|exact (Reps.none _ _))
          intro v145 w78 ho79 hb hg_ hnew_
          clear hg_ hnew_
          (first|rw [← Ny144.out] at ho79|(simp only [Int.reduceToNat] at ho79;rw [← Ny144.out] at ho79))
          have n0_:=Aside0.mk (Kd.V_elder' (by (with_reducible repeat (first|apply Kd.V_alloc|apply Kd.V_drewN|apply Kd.V_drew));exact HO_134003.out) (Kd.N_base ho79) hb)
          have n1_:=Aside0.mk (Kd.V_elder' (by (with_reducible repeat (first|apply Kd.V_alloc|apply Kd.V_drewN|apply Kd.V_drew));exact HO_135001.out) (Kd.N_base ho79) hb)
          have n2_:=Aside0.mk (Kd.N_elder' (by (with_reducible repeat (first|apply Kd.N_alloc|apply Kd.N_drewN|apply Kd.N_drew));exact HO152.out) (Kd.N_base ho79) hb)
          have n3_:=Aside0.mk (Kd.N_lower ho79 (below_size (by repeat (first|(with_reducible first|exact HB.out|apply below_alloc|apply pw_below_drewN|apply below_drew1|refine below_set ?_ GE133.out|refine below_set ?_ GE134.out|refine below_set ?_ GE143.out)|exact HB.out))))
          have n4_:=Aside0.mk (blk_below (g:=gb133) (o:=.cells #[.int .i64 a0_0,.int .i64 a0_1,.int .i64 a0_2,.slice A0_3 l0_3.length c0_3] 24 (0,0)) (by (with_reducible repeat (first|refine blk_drewN ?_ _|refine blk_drew ?_|refine blk_alloc ?_ _));exact BK133.out) hb)
          have n5_:=Aside0.mk (blk_below (g:=gb134) (o:=.cells #[.int .i64 a1_0,.slice A1_1 l1_1.length c1_1] 27 (0,0)) (by (with_reducible repeat (first|refine blk_drewN ?_ _|refine blk_drew ?_|refine blk_alloc ?_ _));exact BK134.out) hb)
          have n6_:=Aside0.mk (blk_below (g:=gb143) (o:=.cells #[.int .i64 a0_0,.int .i64 a0_1,.int .i64 a0_2,.slice A0_3 l0_3.length c0_3] 24 (0,0)) (by (with_reducible repeat (first|refine blk_drewN ?_ _|refine blk_drew ?_|refine blk_alloc ?_ _));exact BK143.out) hb)
          have n7_:=Aside0.mk (below_step (by repeat (first|(with_reducible first|exact HB.out|apply below_alloc|apply pw_below_drewN|apply below_drew1|refine below_set ?_ GE133.out|refine below_set ?_ GE134.out|refine below_set ?_ GE143.out)|exact HB.out)) hb)
          clear HO_134003
          clear HO_135001
          clear HO152
          clear BK133
          clear BK134
          clear BK143
          clear HB
          have HO_134003:=n0_
          have HO_135001:=n1_
          have HO152:=n2_
          have HO146:=n3_
          have BK133:=n4_
          have BK134:=n5_
          have BK143:=n6_
          have HB:=n7_
          clear n0_ n1_ n2_ n3_ n4_ n5_ n6_ n7_
          clear hb ho79
          refine hK.out _ _ ⟨(blk_cell BK133.out 0).trans rfl,(blk_cell BK133.out 1).trans rfl,(blk_cell BK133.out 2).trans rfl,(blk_cell BK133.out 3).trans rfl,(blk_cell BK134.out 0).trans rfl,(blk_cell BK134.out 1).trans rfl⟩ (fun hHeld=>?_)
          clear hK K
          refine norm_ (a':=?_) ?_ ?_
          rotate_left
          ·show Act.put _ (some 67) _ = _
           simp only [Act.put,List.setIfInBounds_toArray,List.set_cons_zero,List.set_cons_succ,i64_w,i32_w]
           rfl
          refine one_ (i:=3) (N:=some 70) #[true,true,true,true,true,true,false,false,false] rfl rfl (one_of HT_.out (by kernel_rfl)) (by decide) (fun K hK=>?_)
          refine Kd.N_append_rows_step k27 (w0:=w) w.heap.size (by rfl) (.tmp 67) (.tmp 69) 22 27 (.agg #[(.int .i64 0),(.slice none 0 0)]) 32 rfl Try.underlying22 info27 rfl (by decide) (by omega) v145 y144 l0_3 _ _ _ (fun k_=>((P0_3_ k_ ∨ P1_1_ k_) ∨ w.heap.size ≤ k_) ∧ some k_ ≠ (v151 : Value).ownBlock ∧ k_ ≠ gb133 ∧ k_ ≠ gb134 ∧ k_ ≠ gb143) (fun k_=>((fun k_=>((P0_3_ k_ ∨ P1_1_ k_) ∨ w.heap.size ≤ k_) ∧ some k_ ≠ (v151 : Value).ownBlock ∧ k_ ≠ gb133 ∧ k_ ≠ gb134 ∧ k_ ≠ gb143)) k_ ∧ some k_ ≠ (v145 : Value).ownBlock) rfl rfl ?aO ?aR (fun _ hk=>hk) ?aF ?aB ?aS ?aL ?_
          (case aR=>exact (by skip;exact Kd.V_F (Kd.V_mono (ok':=(fun k_=>((fun k_=>((P0_3_ k_ ∨ P1_1_ k_) ∨ w.heap.size ≤ k_) ∧ some k_ ≠ (v151 : Value).ownBlock ∧ k_ ≠ gb133 ∧ k_ ≠ gb134 ∧ k_ ≠ gb143)) k_ ∧ some k_ ≠ (v145 : Value).ownBlock)) (HO_134003.out) (fun k_ hk=>⟨⟨hk.1.1.1,⟨hk.1.2,⟨hk.1.1.2.1,⟨hk.1.1.2.2.1,hk.1.1.2.2.2⟩⟩⟩⟩,hk.2⟩))))
          (case aB=>exact (by repeat (first|(with_reducible first|exact HB.out|apply below_alloc|apply pw_below_drewN|apply below_drew1|refine below_set ?_ GE133.out|refine below_set ?_ GE134.out|refine below_set ?_ GE143.out)|exact HB.out)))
          (case aF=>exact (fun k_ hk=>⟨(.inr (Nat.le_trans (below_size (by repeat (first|(with_reducible first|exact HB.out|apply below_alloc|apply pw_below_drewN|apply below_drew1|refine below_set ?_ GE133.out|refine below_set ?_ GE134.out|refine below_set ?_ GE143.out)|exact HB.out))) hk)),Kd.fresh' (Kd.N_lt (by (with_reducible repeat (first|apply Kd.N_alloc|apply Kd.N_drewN|apply Kd.N_drew));exact HO152.out)) k_ hk,Kd.freshB (g:=gb133) (o:=.cells #[.int .i64 a0_0,.int .i64 a0_1,.int .i64 a0_2,.slice A0_3 l0_3.length c0_3] 24 (0,0)) (by (with_reducible repeat (first|refine blk_drewN ?_ _|refine blk_drew ?_|refine blk_alloc ?_ _));exact BK133.out) k_ hk,Kd.freshB (g:=gb134) (o:=.cells #[.int .i64 a1_0,.slice A1_1 l1_1.length c1_1] 27 (0,0)) (by (with_reducible repeat (first|refine blk_drewN ?_ _|refine blk_drew ?_|refine blk_alloc ?_ _));exact BK134.out) k_ hk,Kd.freshB (g:=gb143) (o:=.cells #[.int .i64 a0_0,.int .i64 a0_1,.int .i64 a0_2,.slice A0_3 l0_3.length c0_3] 24 (0,0)) (by (with_reducible repeat (first|refine blk_drewN ?_ _|refine blk_drew ?_|refine blk_alloc ?_ _));exact BK143.out) k_ hk⟩))
          (case aO=>exact (by (with_reducible repeat (first|apply Kd.N_alloc|apply Kd.N_drewN|apply Kd.N_drew));exact HO146.out))
          (case aS=>exact (below_size (by repeat (first|(with_reducible first|exact HB.out|apply below_alloc|apply pw_below_drewN|apply below_drew1|refine below_set ?_ GE133.out|refine below_set ?_ GE134.out|refine below_set ?_ GE143.out)|exact HB.out))))
          (case aL=>have:=LMc28.out;omega)
          intro v148 w80 ho hb hg hat
          rw [← Ny147.out] at ho
          have n0_:=Aside0.mk (Kd.V_afterv (ok:=(fun k_=>((P0_3_ k_ ∨ P1_1_ k_) ∨ w.heap.size ≤ k_) ∧ some k_ ≠ (v151 : Value).ownBlock ∧ k_ ≠ gb133 ∧ k_ ≠ gb134 ∧ k_ ≠ gb143)) (by (with_reducible repeat (first|apply Kd.V_alloc|apply Kd.V_drewN|apply Kd.V_drew));exact Kd.V_mono HO_134003.out (fun _ hk=>⟨⟨hk.1.1.1,⟨hk.1.2,⟨hk.1.1.2.1,⟨hk.1.1.2.2.1,hk.1.1.2.2.2⟩⟩⟩⟩,hk.2⟩)) hg hat)
          have n1_:=Aside0.mk (Kd.V_afterv (ok:=(fun k_=>((P0_3_ k_ ∨ P1_1_ k_) ∨ w.heap.size ≤ k_) ∧ some k_ ≠ (v151 : Value).ownBlock ∧ k_ ≠ gb133 ∧ k_ ≠ gb134 ∧ k_ ≠ gb143)) (by (with_reducible repeat (first|apply Kd.V_alloc|apply Kd.V_drewN|apply Kd.V_drew));exact Kd.V_mono HO_135001.out (fun _ hk=>⟨⟨hk.1.1.1,⟨hk.1.2,⟨hk.1.1.2.1,⟨hk.1.1.2.2.1,hk.1.1.2.2.2⟩⟩⟩⟩,hk.2⟩)) hg hat)
          have n2_:=Aside0.mk (blk_grown (g:=gb133) (o:=.cells #[.int .i64 a0_0,.int .i64 a0_1,.int .i64 a0_2,.slice A0_3 l0_3.length c0_3] 24 (0,0)) (by (with_reducible repeat (first|refine blk_drewN ?_ _|refine blk_drew ?_|refine blk_alloc ?_ _));exact BK133.out) hg (Kd.N_ne HO146.out BK133.out (by decide)))
          have n3_:=Aside0.mk (blk_grown (g:=gb134) (o:=.cells #[.int .i64 a1_0,.slice A1_1 l1_1.length c1_1] 27 (0,0)) (by (with_reducible repeat (first|refine blk_drewN ?_ _|refine blk_drew ?_|refine blk_alloc ?_ _));exact BK134.out) hg (Kd.N_away HO146.out (fun _ hk=>hk.2.2.2.1)))
          have n4_:=Aside0.mk (blk_grown (g:=gb143) (o:=.cells #[.int .i64 a0_0,.int .i64 a0_1,.int .i64 a0_2,.slice A0_3 l0_3.length c0_3] 24 (0,0)) (by (with_reducible repeat (first|refine blk_drewN ?_ _|refine blk_drew ?_|refine blk_alloc ?_ _));exact BK143.out) hg (Kd.N_ne HO146.out BK143.out (by decide)))
          have n5_:=Aside0.mk (Kd.N_afterv (ok:=(fun k_=>((P0_3_ k_ ∨ P1_1_ k_) ∨ w.heap.size ≤ k_) ∧ k_ ≠ gb133 ∧ k_ ≠ gb134 ∧ k_ ≠ gb143)) (by (with_reducible repeat (first|apply Kd.N_alloc|apply Kd.N_drewN|apply Kd.N_drew));exact HO152.out) hg hat)
          have n6_:=Aside0.mk (hb)
          have n7_:=Aside0.mk (ho)
          clear HO_134003
          clear HO_135001
          clear BK133
          clear BK134
          clear BK143
          clear HO152
          clear HB
          clear HO146
          have HO_134003:=n0_
          have HO_135001:=n1_
          have BK133:=n2_
          have BK134:=n3_
          have BK143:=n4_
          have HO152:=n5_
          have HB:=n6_
          have HO149:=n7_
          clear n0_ n1_ n2_ n3_ n4_ n5_ n6_ n7_
          clear ho hb hg hat
          refine hK.out _ _ ⟨(blk_cell BK133.out 0).trans rfl,(blk_cell BK133.out 1).trans rfl,(blk_cell BK133.out 2).trans rfl,(blk_cell BK133.out 3).trans rfl,(blk_cell BK134.out 0).trans rfl,(blk_cell BK134.out 1).trans rfl⟩ (fun hHeld=>?_)
          clear hK K
          refine norm_ (a':=?_) ?_ ?_
          rotate_left
          ·show Act.put _ (some 70) _ = _
           simp only [Act.put,List.setIfInBounds_toArray,List.set_cons_zero,List.set_cons_succ,i64_w,i32_w]
           rfl
          exact norm_ (by simp only [putAll,Act.put,List.setIfInBounds_toArray,List.set_cons_zero,List.set_cons_succ]) (hCont (v145,v148,v151) _ ⟨hHeld,(by (with_reducible repeat (first|apply Kd.N_alloc|apply Kd.N_drewN|apply Kd.N_drew));exact HO149.out),(by (with_reducible repeat (first|apply Kd.N_alloc|apply Kd.N_drewN|apply Kd.N_drew));exact Kd.N_mono HO152.out (fun _ hk=>⟨hk.1.1,⟨hk.2,⟨hk.1.2.1,⟨hk.1.2.2.1,hk.1.2.2.2⟩⟩⟩⟩)),(by (with_reducible repeat (first|apply Kd.V_alloc|apply Kd.V_drewN|apply Kd.V_drew));exact Kd.V_mono HO_134003.out (fun _ hk=>⟨hk.1.1,⟨hk.2,⟨hk.1.2.1,⟨hk.1.2.2.1,⟨hk.1.2.2.2.1,hk.1.2.2.2.2⟩⟩⟩⟩⟩)),(by (with_reducible repeat (first|apply Kd.V_alloc|apply Kd.V_drewN|apply Kd.V_drew));exact Kd.V_mono HO_135001.out (fun _ hk=>⟨hk.1.1,⟨hk.2,⟨hk.1.2.1,⟨hk.1.2.2.1,⟨hk.1.2.2.2.1,hk.1.2.2.2.2⟩⟩⟩⟩⟩)),(by (with_reducible repeat (first|refine blk_drewN ?_ _|refine blk_drew ?_|refine blk_alloc ?_ _));exact BK133.out),(by (with_reducible repeat (first|refine blk_drewN ?_ _|refine blk_drew ?_|refine blk_alloc ?_ _));exact BK134.out),(by (with_reducible repeat (first|refine blk_drewN ?_ _|refine blk_drew ?_|refine blk_alloc ?_ _));exact BK143.out),(by repeat (first|(with_reducible first|exact HB.out|apply below_alloc|apply pw_below_drewN|apply below_drew1|refine below_set ?_ GE133.out|refine below_set ?_ GE134.out|refine below_set ?_ GE143.out)|exact HB.out))⟩)
        rintro ⟨v145,v148,v151⟩ w81 ⟨hS_,h0_,h1_,h2_,h3_,h4_,h5_,h6_,h7_⟩
        have n0_ : Aside0 (Kd.N k27 27 w81 w.heap.size (fun k_=>((P0_3_ k_ ∨ P1_1_ k_) ∨ w.heap.size ≤ k_) ∧ some k_ ≠ (v151 : Value).ownBlock ∧ k_ ≠ gb133 ∧ k_ ≠ gb134 ∧ k_ ≠ gb143) v148 y147):=⟨h0_⟩
        have n1_ : Aside0 (Kd.N k27 27 w81 w.heap.size (fun k_=>((P0_3_ k_ ∨ P1_1_ k_) ∨ w.heap.size ≤ k_) ∧ some k_ ≠ (v148 : Value).ownBlock ∧ k_ ≠ gb133 ∧ k_ ≠ gb134 ∧ k_ ≠ gb143) v151 y150):=⟨h1_⟩
        have n2_ : Aside0 (Kd.V k27 27 w81 w.heap.size (fun k_=>((P0_3_ k_ ∨ P1_1_ k_) ∨ w.heap.size ≤ k_) ∧ some k_ ≠ (v148 : Value).ownBlock ∧ some k_ ≠ (v151 : Value).ownBlock ∧ k_ ≠ gb133 ∧ k_ ≠ gb134 ∧ k_ ≠ gb143) (.slice A0_3 l0_3.length c0_3) l0_3):=⟨h2_⟩
        have n3_ : Aside0 (Kd.V (Kd.int .i64) 3 w81 w.heap.size (fun k_=>((P0_3_ k_ ∨ P1_1_ k_) ∨ w.heap.size ≤ k_) ∧ some k_ ≠ (v148 : Value).ownBlock ∧ some k_ ≠ (v151 : Value).ownBlock ∧ k_ ≠ gb133 ∧ k_ ≠ gb134 ∧ k_ ≠ gb143) (.slice A1_1 l1_1.length c1_1) l1_1):=⟨h3_⟩
        have n4_ : Aside0 (w81.heap[gb133]? = some (.cells #[.int .i64 a0_0,.int .i64 a0_1,.int .i64 a0_2,.slice A0_3 l0_3.length c0_3] 24 (0,0))):=⟨h4_⟩
        have n5_ : Aside0 (w81.heap[gb134]? = some (.cells #[.int .i64 a1_0,.slice A1_1 l1_1.length c1_1] 27 (0,0))):=⟨h5_⟩
        have n6_ : Aside0 (w81.heap[gb143]? = some (.cells #[.int .i64 a0_0,.int .i64 a0_1,.int .i64 a0_2,.slice A0_3 l0_3.length c0_3] 24 (0,0))):=⟨h6_⟩
        have n7_ : Aside0 (Below w.heap.size w w81):=⟨h7_⟩
        clear HO_134003
        clear HO_135001
        clear BK133
        clear BK134
        clear BK143
        clear HB
        clear h0_ h1_ h2_ h3_ h4_ h5_ h6_ h7_
        have HO149:=n0_
        have HO152:=n1_
        have HO_134003:=n2_
        have HO_135001:=n3_
        have BK133:=n4_
        have BK134:=n5_
        have BK143:=n6_
        have HB:=n7_
        clear n0_ n1_ n2_ n3_ n4_ n5_ n6_ n7_
        have hHeld : w81.cell? ⟨gb133,0,none⟩ = some (.int .i64 a0_0) ∧ w81.cell? ⟨gb133,1,none⟩ = some (.int .i64 a0_1) ∧ w81.cell? ⟨gb133,2,none⟩ = some (.int .i64 a0_2) ∧ w81.cell? ⟨gb133,3,none⟩ = some (.slice A0_3 l0_3.length c0_3) ∧ w81.cell? ⟨gb134,0,none⟩ = some (.int .i64 a1_0) ∧ w81.cell? ⟨gb134,1,none⟩ = some (.slice A1_1 l1_1.length c1_1):=hS_
        obtain ⟨Ao83,co83,eo83⟩:=Kd.N_slice HO152.out
        (first|subst eo83|(injection eo83 with f1_ f2_ f3_;have f4_:=f1_.symm;have f5_:=f3_.symm;clear f1_ f2_ f3_;subst f4_;subst f5_))
        refine norm_ (a':=?_) ?_ ?_
        rotate_left
        ·simp only [putAll,Act.put,List.setIfInBounds_toArray,List.set_cons_zero,List.set_cons_succ]
         rfl
        refine one_ (i:=6) (N:=some 73) #[true,true,true,true,true,true,true,false,false] rfl rfl (one_of HT_.out (by kernel_rfl)) (by decide) (fun K hK=>?_)
        refine Kd.N_append_rows_step k27 (w0:=w) w.heap.size (by rfl) (.tmp 70) (.tmp 72) 22 27 (.agg #[(.int .i64 0),(.slice none 0 0)]) 32 rfl Try.underlying22 info27 rfl (by decide) (by omega) v148 y147 y150 _ _ _ (fun k_=>((P0_3_ k_ ∨ P1_1_ k_) ∨ w.heap.size ≤ k_) ∧ k_ ≠ gb133 ∧ k_ ≠ gb134 ∧ k_ ≠ gb143) (fun k_=>((fun k_=>((P0_3_ k_ ∨ P1_1_ k_) ∨ w.heap.size ≤ k_) ∧ k_ ≠ gb133 ∧ k_ ≠ gb134 ∧ k_ ≠ gb143)) k_ ∧ some k_ ≠ (v148 : Value).ownBlock) rfl rfl ?aO ?aR (fun _ hk=>hk) ?aF ?aB ?aS ?aL ?_
        (case aR=>exact (by skip;exact Kd.N_F (Kd.N_mono (ok':=(fun k_=>((fun k_=>((P0_3_ k_ ∨ P1_1_ k_) ∨ w.heap.size ≤ k_) ∧ k_ ≠ gb133 ∧ k_ ≠ gb134 ∧ k_ ≠ gb143)) k_ ∧ some k_ ≠ (v148 : Value).ownBlock)) (HO152.out) (fun k_ hk=>⟨⟨hk.1,⟨hk.2.2.1,⟨hk.2.2.2.1,hk.2.2.2.2⟩⟩⟩,hk.2.1⟩))))
        (case aB=>exact (by repeat (first|(with_reducible first|exact HB.out|apply below_alloc|apply pw_below_drewN|apply below_drew1|refine below_set ?_ GE133.out|refine below_set ?_ GE134.out|refine below_set ?_ GE143.out)|exact HB.out)))
        (case aF=>exact (fun k_ hk=>⟨(.inr (Nat.le_trans (below_size (by repeat (first|(with_reducible first|exact HB.out|apply below_alloc|apply pw_below_drewN|apply below_drew1|refine below_set ?_ GE133.out|refine below_set ?_ GE134.out|refine below_set ?_ GE143.out)|exact HB.out))) hk)),Kd.freshB (g:=gb133) (o:=.cells #[.int .i64 a0_0,.int .i64 a0_1,.int .i64 a0_2,.slice A0_3 l0_3.length c0_3] 24 (0,0)) (by (with_reducible repeat (first|refine blk_drewN ?_ _|refine blk_drew ?_|refine blk_alloc ?_ _));exact BK133.out) k_ hk,Kd.freshB (g:=gb134) (o:=.cells #[.int .i64 a1_0,.slice A1_1 l1_1.length c1_1] 27 (0,0)) (by (with_reducible repeat (first|refine blk_drewN ?_ _|refine blk_drew ?_|refine blk_alloc ?_ _));exact BK134.out) k_ hk,Kd.freshB (g:=gb143) (o:=.cells #[.int .i64 a0_0,.int .i64 a0_1,.int .i64 a0_2,.slice A0_3 l0_3.length c0_3] 24 (0,0)) (by (with_reducible repeat (first|refine blk_drewN ?_ _|refine blk_drew ?_|refine blk_alloc ?_ _));exact BK143.out) k_ hk⟩))
        (case aO=>exact (by (with_reducible repeat (first|apply Kd.N_alloc|apply Kd.N_drewN|apply Kd.N_drew));exact Kd.N_mono HO149.out (fun _ hk=>⟨hk.1,⟨hk.2.2.1,⟨hk.2.2.2.1,hk.2.2.2.2⟩⟩⟩)))
        (case aS=>exact (below_size (by repeat (first|(with_reducible first|exact HB.out|apply below_alloc|apply pw_below_drewN|apply below_drew1|refine below_set ?_ GE133.out|refine below_set ?_ GE134.out|refine below_set ?_ GE143.out)|exact HB.out))))
        (case aL=>have:=LMc29.out;omega)
        intro v154 w82 ho hb hg hat
        rw [← Ny153.out] at ho
        have n0_:=Aside0.mk (Kd.V_afterv (ok:=(fun k_=>((P0_3_ k_ ∨ P1_1_ k_) ∨ w.heap.size ≤ k_) ∧ some k_ ≠ (.slice Ao83 y150.length co83 : Value).ownBlock ∧ k_ ≠ gb133 ∧ k_ ≠ gb134 ∧ k_ ≠ gb143)) (by (with_reducible repeat (first|apply Kd.V_alloc|apply Kd.V_drewN|apply Kd.V_drew));exact Kd.V_mono HO_134003.out (fun _ hk=>⟨⟨hk.1,⟨hk.2.2.1,⟨hk.2.2.2.1,⟨hk.2.2.2.2.1,hk.2.2.2.2.2⟩⟩⟩⟩,hk.2.1⟩)) hg hat)
        have n1_:=Aside0.mk (Kd.V_afterv (ok:=(fun k_=>((P0_3_ k_ ∨ P1_1_ k_) ∨ w.heap.size ≤ k_) ∧ some k_ ≠ (.slice Ao83 y150.length co83 : Value).ownBlock ∧ k_ ≠ gb133 ∧ k_ ≠ gb134 ∧ k_ ≠ gb143)) (by (with_reducible repeat (first|apply Kd.V_alloc|apply Kd.V_drewN|apply Kd.V_drew));exact Kd.V_mono HO_135001.out (fun _ hk=>⟨⟨hk.1,⟨hk.2.2.1,⟨hk.2.2.2.1,⟨hk.2.2.2.2.1,hk.2.2.2.2.2⟩⟩⟩⟩,hk.2.1⟩)) hg hat)
        have n2_:=Aside0.mk (blk_grown (g:=gb133) (o:=.cells #[.int .i64 a0_0,.int .i64 a0_1,.int .i64 a0_2,.slice A0_3 l0_3.length c0_3] 24 (0,0)) (by (with_reducible repeat (first|refine blk_drewN ?_ _|refine blk_drew ?_|refine blk_alloc ?_ _));exact BK133.out) hg (Kd.N_ne HO149.out BK133.out (by decide)))
        have n3_:=Aside0.mk (blk_grown (g:=gb134) (o:=.cells #[.int .i64 a1_0,.slice A1_1 l1_1.length c1_1] 27 (0,0)) (by (with_reducible repeat (first|refine blk_drewN ?_ _|refine blk_drew ?_|refine blk_alloc ?_ _));exact BK134.out) hg (Kd.N_away HO149.out (fun _ hk=>hk.2.2.2.1)))
        have n4_:=Aside0.mk (blk_grown (g:=gb143) (o:=.cells #[.int .i64 a0_0,.int .i64 a0_1,.int .i64 a0_2,.slice A0_3 l0_3.length c0_3] 24 (0,0)) (by (with_reducible repeat (first|refine blk_drewN ?_ _|refine blk_drew ?_|refine blk_alloc ?_ _));exact BK143.out) hg (Kd.N_ne HO149.out BK143.out (by decide)))
        have n5_:=Aside0.mk (Kd.N_afterv (ok:=(fun k_=>((P0_3_ k_ ∨ P1_1_ k_) ∨ w.heap.size ≤ k_) ∧ k_ ≠ gb133 ∧ k_ ≠ gb134 ∧ k_ ≠ gb143)) (by (with_reducible repeat (first|apply Kd.N_alloc|apply Kd.N_drewN|apply Kd.N_drew));exact Kd.N_mono HO152.out (fun _ hk=>⟨⟨hk.1,⟨hk.2.2.1,⟨hk.2.2.2.1,hk.2.2.2.2⟩⟩⟩,hk.2.1⟩)) hg hat)
        have n6_:=Aside0.mk (hb)
        have n7_:=Aside0.mk (ho)
        clear HO_134003
        clear HO_135001
        clear BK133
        clear BK134
        clear BK143
        clear HO152
        clear HB
        clear HO149
        have HO_134003:=n0_
        have HO_135001:=n1_
        have BK133:=n2_
        have BK134:=n3_
        have BK143:=n4_
        have HO152:=n5_
        have HB:=n6_
        have HO155:=n7_
        clear n0_ n1_ n2_ n3_ n4_ n5_ n6_ n7_
        clear ho hb hg hat
        obtain ⟨Ao84,co84,eo84⟩:=Kd.N_slice HO155.out
        (first|subst eo84|(injection eo84 with f1_ f2_ f3_;have f4_:=f1_.symm;have f5_:=f3_.symm;clear f1_ f2_ f3_;subst f4_;subst f5_))
        refine hK.out _ _ ⟨(blk_cell BK133.out 0).trans rfl,(blk_cell BK133.out 1).trans rfl,(blk_cell BK133.out 2).trans rfl,(blk_cell BK133.out 3).trans rfl,(blk_cell BK134.out 0).trans rfl,(blk_cell BK134.out 1).trans rfl⟩ (fun hHeld=>?_)
        clear hK K
        refine norm_ (a':=?_) ?_ ?_
        rotate_left
        ·show Act.put _ (some 73) _ = _
         simp only [Act.put,List.setIfInBounds_toArray,List.set_cons_zero,List.set_cons_succ,i64_w,i32_w]
         rfl
        refine pure_ (i:=7) (N:=some 74) (v:=?_) (a':=?_) #[true,true,true,true,true,true,true,true,false] rfl rfl (any_of HT_.out (by kernel_rfl)) (fun _ _ _ h=>h) (Or.inl ⟨by rfl,?_⟩) ?_ ?_
        rotate_left
        ·intro w'
         go_simp
         with_reducible rfl
        rotate_left
        ·simp only [Act.put,List.setIfInBounds_toArray,List.set_cons_zero,List.set_cons_succ,i64_w,i32_w]
         rfl
        refine one_ (i:=8) (N:=none) #[true,true,true,true,true,true,true,true,true] rfl rfl (one_of HT_.out (by kernel_rfl)) (by decide) (fun K hK=>?_)
        have hs85 : w82.cell? ⟨gb143,3,none⟩ = some (.slice A0_3 l0_3.length c0_3):=(blk_cell BK143.out 3).trans rfl
        have hfs85:=blk_frozen BK143.out 3
        have hns85_0:=NB133_143.out
        have hns85_1:=NB134_143.out
        have hms85_0:=NB143_133.out
        have hms85_1:=NB143_134.out
        refine skip_ (w1:=?_) (by rfl) rfl ?_ ?_
        rotate_left
        ·go_simp
         rfl
        refine hK.out _ _ ⟨((cell_far (p:=⟨gb143,_,none⟩) NB133_143.out _).trans (hHeld.1)),((cell_far (p:=⟨gb143,_,none⟩) NB133_143.out _).trans (hHeld.2.1)),((cell_far (p:=⟨gb143,_,none⟩) NB133_143.out _).trans (hHeld.2.2.1)),((cell_far (p:=⟨gb143,_,none⟩) NB133_143.out _).trans (hHeld.2.2.2.1)),((cell_far (p:=⟨gb143,_,none⟩) NB134_143.out _).trans (hHeld.2.2.2.2.1)),((cell_far (p:=⟨gb143,_,none⟩) NB134_143.out _).trans (hHeld.2.2.2.2.2))⟩ (fun hHeld=>?_)
        clear hK K
        refine done_ (done_of HT_.out (by kernel_rfl)) ?_
        have hcz86_0 : w82.cell? ⟨gb143,0,none⟩ = some (.int .i64 a0_0):=(blk_cell BK143.out 0).trans rfl
        have hcz86_1 : w82.cell? ⟨gb143,1,none⟩ = some (.int .i64 a0_1):=(blk_cell BK143.out 1).trans rfl
        have hcz86_2 : w82.cell? ⟨gb143,2,none⟩ = some (.int .i64 a0_2):=(blk_cell BK143.out 2).trans rfl
        have hcz86_3 : w82.cell? ⟨gb143,3,none⟩ = some (.slice A0_3 l0_3.length c0_3):=(blk_cell BK143.out 3).trans rfl
        have hfz86_0:=blk_frozen BK143.out 0
        have hfz86_1:=blk_frozen BK143.out 1
        have hfz86_2:=blk_frozen BK143.out 2
        have hfz86_3:=blk_frozen BK143.out 3
        go_upto_region 14 with (first|((with_reducible refine gate_callee (f:=15) rfl ?_);refine goesL_ (some 77) rfl rfl Try.func15 (by kernel_rfl) rfl #[.agg #[.int .i64 a0_0,.int .i64 a0_1,.int .i64 a0_2,.slice Ao84 y153.length co84]] rfl (by (try simp only [List.map_toArray,List.map_cons,List.map_nil]);first|done|rfl|(simp only [List.length_drop,List.length_take];rfl)) ?_;(with_reducible refine (grammar_Makes.calls kj7 a0_0 a0_1 a0_2 _ _ y153 t156 t157 _ ?side1 ?side2 A30.out).mono ?_);(case side1=>refine (Kd.N_reads' (e:=27) (base:=w.heap.size) (ok:=fun k_=>((((P0_3_ k_ ∨ P1_1_ k_) ∨ w.heap.size ≤ k_)) ∧ (k_ ≠ gb133 ∧ (k_ ≠ gb134 ∧ k_ ≠ gb143)))) (n:=y153.length) (c:=co84) ?_).2.2;exact (by (with_reducible repeat (first|apply Kd.N_alloc|apply Kd.N_drewN|apply Kd.N_drew));exact (Kd.N_mono (Kd.N_far (p:=⟨gb143,3,none⟩) (Kd.N_mono HO155.out (fun k_ hk=>(⟨hk,hk.2.2.2⟩ : _ ∧ k_ ≠ gb143))) (fun _ hk=>hk.2) (.slice Ao84 y153.length co84)) (fun _ h_=>h_.1))));(case side2=>exact (Kd.N_reads' HO155.out).2.1);rintro e w87 ⟨rfl,hb⟩;refine ⟨_,rfl,?_⟩;have n0_:=Aside0.mk (Kd.V_below (by (with_reducible repeat (first|apply Kd.V_alloc|apply Kd.V_drewN|apply Kd.V_drew));exact (Kd.V_mono (Kd.V_far (p:=⟨gb143,3,none⟩) (Kd.V_mono HO_134003.out (fun k_ hk=>(⟨hk,hk.1.2.2.2.2⟩ : _ ∧ k_ ≠ gb143))) (fun _ hk=>hk.2) (.slice Ao84 y153.length co84)) (fun _ h_=>h_.1))) hb);have n1_:=Aside0.mk (Kd.V_below (by (with_reducible repeat (first|apply Kd.V_alloc|apply Kd.V_drewN|apply Kd.V_drew));exact (Kd.V_mono (Kd.V_far (p:=⟨gb143,3,none⟩) (Kd.V_mono HO_135001.out (fun k_ hk=>(⟨hk,hk.1.2.2.2.2⟩ : _ ∧ k_ ≠ gb143))) (fun _ hk=>hk.2) (.slice Ao84 y153.length co84)) (fun _ h_=>h_.1))) hb);have n2_:=Aside0.mk (Kd.N_below (by (with_reducible repeat (first|apply Kd.N_alloc|apply Kd.N_drewN|apply Kd.N_drew));exact (Kd.N_mono (Kd.N_far (p:=⟨gb143,3,none⟩) (Kd.N_mono HO152.out (fun k_ hk=>(⟨hk,hk.1.2.2.2⟩ : _ ∧ k_ ≠ gb143))) (fun _ hk=>hk.2) (.slice Ao84 y153.length co84)) (fun _ h_=>h_.1))) hb);have n3_:=Aside0.mk (Kd.N_below (by (with_reducible repeat (first|apply Kd.N_alloc|apply Kd.N_drewN|apply Kd.N_drew));exact (Kd.N_mono (Kd.N_far (p:=⟨gb143,3,none⟩) (Kd.N_mono HO155.out (fun k_ hk=>(⟨hk,hk.2.2.2⟩ : _ ∧ k_ ≠ gb143))) (fun _ hk=>hk.2) (.slice Ao84 y153.length co84)) (fun _ h_=>h_.1))) hb);have n4_:=Aside0.mk (blk_below (g:=gb133) (o:=.cells #[.int .i64 a0_0,.int .i64 a0_1,.int .i64 a0_2,.slice A0_3 l0_3.length c0_3] 24 (0,0)) (by (with_reducible repeat (first|refine blk_drewN ?_ _|refine blk_drew ?_|refine blk_alloc ?_ _));refine blk_far ?_ NB133_143.out _;(with_reducible repeat (first|refine blk_drewN ?_ _|refine blk_drew ?_|refine blk_alloc ?_ _));exact BK133.out) hb);have n5_:=Aside0.mk (blk_below (g:=gb134) (o:=.cells #[.int .i64 a1_0,.slice A1_1 l1_1.length c1_1] 27 (0,0)) (by (with_reducible repeat (first|refine blk_drewN ?_ _|refine blk_drew ?_|refine blk_alloc ?_ _));refine blk_far ?_ NB134_143.out _;(with_reducible repeat (first|refine blk_drewN ?_ _|refine blk_drew ?_|refine blk_alloc ?_ _));exact BK134.out) hb);have n6_:=Aside0.mk (blk_below (g:=gb143) (o:=.cells #[.int .i64 a0_0,.int .i64 a0_1,.int .i64 a0_2,.slice Ao84 y153.length co84] 24 (0,0)) (by (with_reducible repeat (first|refine blk_drewN ?_ _|refine blk_drew ?_|refine blk_alloc ?_ _));refine blk_put (cs:=#[.int .i64 a0_0,.int .i64 a0_1,.int .i64 a0_2,.slice A0_3 l0_3.length c0_3]) ?_ 3 _ rfl;(with_reducible repeat (first|refine blk_drewN ?_ _|refine blk_drew ?_|refine blk_alloc ?_ _));exact BK143.out) hb);have n7_:=Aside0.mk (below_step (by repeat (first|(with_reducible first|exact HB.out|apply below_alloc|apply pw_below_drewN|apply below_drew1|refine below_set ?_ GE133.out|refine below_set ?_ GE134.out|refine below_set ?_ GE143.out)|exact HB.out)) hb);clear HO_134003;clear HO_135001;clear HO152;clear HO155;clear BK133;clear BK134;clear BK143;clear HB;have HO_134003:=n0_;have HO_135001:=n1_;have HO152:=n2_;have HO155:=n3_;have BK133:=n4_;have BK134:=n5_;have BK143:=n6_;have HB:=n7_;clear n0_ n1_ n2_ n3_ n4_ n5_ n6_ n7_;(try clear hb);(try clear hb2);(try clear hk);(try clear hi);have hcz88_0 : w87.cell? ⟨gb143,0,none⟩ = some (.int .i64 a0_0):=(blk_cell BK143.out 0).trans rfl;have hcz88_1 : w87.cell? ⟨gb143,1,none⟩ = some (.int .i64 a0_1):=(blk_cell BK143.out 1).trans rfl;have hcz88_2 : w87.cell? ⟨gb143,2,none⟩ = some (.int .i64 a0_2):=(blk_cell BK143.out 2).trans rfl;have hcz88_3 : w87.cell? ⟨gb143,3,none⟩ = some (.slice Ao84 y153.length co84):=(blk_cell BK143.out 3).trans rfl;have hfz88_0:=blk_frozen BK143.out 0;have hfz88_1:=blk_frozen BK143.out 1;have hfz88_2:=blk_frozen BK143.out 2;have hfz88_3:=blk_frozen BK143.out 3)|((with_reducible refine gate_callee (f:=16) rfl ?_);refine goesL_ (some 82) rfl rfl Try.func16 (by kernel_rfl) rfl #[.agg #[.int .i64 a0_0,.int .i64 a0_1,.int .i64 a0_2,.slice Ao84 y153.length co84]] rfl (by (try simp only [List.map_toArray,List.map_cons,List.map_nil]);first|done|rfl|(simp only [List.length_drop,List.length_take];rfl)) ?_;(with_reducible refine (grammar_Void.calls kj7 a0_0 a0_1 a0_2 _ _ y153 t158 t159 _ ?side1 ?side2 A31.out).mono ?_);(case side1=>repeat (first|exact (Kd.N_reads' HO155.out).2.2|(with_reducible refine Kd.C_alloc ?_ _)|(with_reducible refine Kd.C_drewN ?_ _)|(with_reducible refine Kd.C_drew ?_)));(case side2=>exact (Kd.N_reads' HO155.out).2.1);rintro e w89 ⟨rfl,hb⟩;refine ⟨_,rfl,?_⟩;have n0_:=Aside0.mk (Kd.V_below (by (with_reducible repeat (first|apply Kd.V_alloc|apply Kd.V_drewN|apply Kd.V_drew));exact HO_134003.out) hb);have n1_:=Aside0.mk (Kd.V_below (by (with_reducible repeat (first|apply Kd.V_alloc|apply Kd.V_drewN|apply Kd.V_drew));exact HO_135001.out) hb);have n2_:=Aside0.mk (Kd.N_below (by (with_reducible repeat (first|apply Kd.N_alloc|apply Kd.N_drewN|apply Kd.N_drew));exact HO152.out) hb);have n3_:=Aside0.mk (Kd.N_below (by (with_reducible repeat (first|apply Kd.N_alloc|apply Kd.N_drewN|apply Kd.N_drew));exact HO155.out) hb);have n4_:=Aside0.mk (blk_below (g:=gb133) (o:=.cells #[.int .i64 a0_0,.int .i64 a0_1,.int .i64 a0_2,.slice A0_3 l0_3.length c0_3] 24 (0,0)) (by (with_reducible repeat (first|refine blk_drewN ?_ _|refine blk_drew ?_|refine blk_alloc ?_ _));exact BK133.out) hb);have n5_:=Aside0.mk (blk_below (g:=gb134) (o:=.cells #[.int .i64 a1_0,.slice A1_1 l1_1.length c1_1] 27 (0,0)) (by (with_reducible repeat (first|refine blk_drewN ?_ _|refine blk_drew ?_|refine blk_alloc ?_ _));exact BK134.out) hb);have n6_:=Aside0.mk (blk_below (g:=gb143) (o:=.cells #[.int .i64 a0_0,.int .i64 a0_1,.int .i64 a0_2,.slice Ao84 y153.length co84] 24 (0,0)) (by (with_reducible repeat (first|refine blk_drewN ?_ _|refine blk_drew ?_|refine blk_alloc ?_ _));exact BK143.out) hb);have n7_:=Aside0.mk (below_step (by repeat (first|(with_reducible first|exact HB.out|apply below_alloc|apply pw_below_drewN|apply below_drew1|refine below_set ?_ GE133.out|refine below_set ?_ GE134.out|refine below_set ?_ GE143.out)|exact HB.out)) hb);clear HO_134003;clear HO_135001;clear HO152;clear HO155;clear BK133;clear BK134;clear BK143;clear HB;have HO_134003:=n0_;have HO_135001:=n1_;have HO152:=n2_;have HO155:=n3_;have BK133:=n4_;have BK134:=n5_;have BK143:=n6_;have HB:=n7_;clear n0_ n1_ n2_ n3_ n4_ n5_ n6_ n7_;(try clear hb);(try clear hb2);(try clear hk);(try clear hi);have hcz90_0 : w89.cell? ⟨gb143,0,none⟩ = some (.int .i64 a0_0):=(blk_cell BK143.out 0).trans rfl;have hcz90_1 : w89.cell? ⟨gb143,1,none⟩ = some (.int .i64 a0_1):=(blk_cell BK143.out 1).trans rfl;have hcz90_2 : w89.cell? ⟨gb143,2,none⟩ = some (.int .i64 a0_2):=(blk_cell BK143.out 2).trans rfl;have hcz90_3 : w89.cell? ⟨gb143,3,none⟩ = some (.slice Ao84 y153.length co84):=(blk_cell BK143.out 3).trans rfl;have hfz90_0:=blk_frozen BK143.out 0;have hfz90_1:=blk_frozen BK143.out 1;have hfz90_2:=blk_frozen BK143.out 2;have hfz90_3:=blk_frozen BK143.out 3)|((with_reducible refine gate_callee (f:=17) rfl ?_);refine goesL_ (some 87) rfl rfl Try.func17 (by kernel_rfl) rfl #[.agg #[.int .i64 a0_0,.int .i64 a0_1,.int .i64 a0_2,.slice Ao84 y153.length co84]] rfl (by (try simp only [List.map_toArray,List.map_cons,List.map_nil]);first|done|rfl|(simp only [List.length_drop,List.length_take];rfl)) ?_;(with_reducible refine (grammar_Comes.calls kj7 a0_0 a0_1 a0_2 _ _ y153 t160 t161 _ ?side1 ?side2 A32.out).mono ?_);(case side1=>repeat (first|exact (Kd.N_reads' HO155.out).2.2|(with_reducible refine Kd.C_alloc ?_ _)|(with_reducible refine Kd.C_drewN ?_ _)|(with_reducible refine Kd.C_drew ?_)));(case side2=>exact (Kd.N_reads' HO155.out).2.1);rintro e w91 ⟨rfl,hb⟩;refine ⟨_,rfl,?_⟩;have n0_:=Aside0.mk (Kd.V_below (by (with_reducible repeat (first|apply Kd.V_alloc|apply Kd.V_drewN|apply Kd.V_drew));exact HO_134003.out) hb);have n1_:=Aside0.mk (Kd.V_below (by (with_reducible repeat (first|apply Kd.V_alloc|apply Kd.V_drewN|apply Kd.V_drew));exact HO_135001.out) hb);have n2_:=Aside0.mk (Kd.N_below (by (with_reducible repeat (first|apply Kd.N_alloc|apply Kd.N_drewN|apply Kd.N_drew));exact HO152.out) hb);have n3_:=Aside0.mk (Kd.N_below (by (with_reducible repeat (first|apply Kd.N_alloc|apply Kd.N_drewN|apply Kd.N_drew));exact HO155.out) hb);have n4_:=Aside0.mk (blk_below (g:=gb133) (o:=.cells #[.int .i64 a0_0,.int .i64 a0_1,.int .i64 a0_2,.slice A0_3 l0_3.length c0_3] 24 (0,0)) (by (with_reducible repeat (first|refine blk_drewN ?_ _|refine blk_drew ?_|refine blk_alloc ?_ _));exact BK133.out) hb);have n5_:=Aside0.mk (blk_below (g:=gb134) (o:=.cells #[.int .i64 a1_0,.slice A1_1 l1_1.length c1_1] 27 (0,0)) (by (with_reducible repeat (first|refine blk_drewN ?_ _|refine blk_drew ?_|refine blk_alloc ?_ _));exact BK134.out) hb);have n6_:=Aside0.mk (blk_below (g:=gb143) (o:=.cells #[.int .i64 a0_0,.int .i64 a0_1,.int .i64 a0_2,.slice Ao84 y153.length co84] 24 (0,0)) (by (with_reducible repeat (first|refine blk_drewN ?_ _|refine blk_drew ?_|refine blk_alloc ?_ _));exact BK143.out) hb);have n7_:=Aside0.mk (below_step (by repeat (first|(with_reducible first|exact HB.out|apply below_alloc|apply pw_below_drewN|apply below_drew1|refine below_set ?_ GE133.out|refine below_set ?_ GE134.out|refine below_set ?_ GE143.out)|exact HB.out)) hb);clear HO_134003;clear HO_135001;clear HO152;clear HO155;clear BK133;clear BK134;clear BK143;clear HB;have HO_134003:=n0_;have HO_135001:=n1_;have HO152:=n2_;have HO155:=n3_;have BK133:=n4_;have BK134:=n5_;have BK143:=n6_;have HB:=n7_;clear n0_ n1_ n2_ n3_ n4_ n5_ n6_ n7_;(try clear hb);(try clear hb2);(try clear hk);(try clear hi);have hcz92_0 : w91.cell? ⟨gb143,0,none⟩ = some (.int .i64 a0_0):=(blk_cell BK143.out 0).trans rfl;have hcz92_1 : w91.cell? ⟨gb143,1,none⟩ = some (.int .i64 a0_1):=(blk_cell BK143.out 1).trans rfl;have hcz92_2 : w91.cell? ⟨gb143,2,none⟩ = some (.int .i64 a0_2):=(blk_cell BK143.out 2).trans rfl;have hcz92_3 : w91.cell? ⟨gb143,3,none⟩ = some (.slice Ao84 y153.length co84):=(blk_cell BK143.out 3).trans rfl;have hfz92_0:=blk_frozen BK143.out 0;have hfz92_1:=blk_frozen BK143.out 1;have hfz92_2:=blk_frozen BK143.out 2;have hfz92_3:=blk_frozen BK143.out 3)|((with_reducible refine gate_callee (f:=18) rfl ?_);refine goesL_ (some 91) rfl rfl Try.func18 (by kernel_rfl) rfl #[.agg #[.int .i64 a0_0,.int .i64 a0_1,.int .i64 a0_2,.slice Ao84 y153.length co84]] rfl (by (try simp only [List.map_toArray,List.map_cons,List.map_nil]);first|done|rfl|(simp only [List.length_drop,List.length_take];rfl)) ?_;(with_reducible refine (coppicerref_GrammarCheck.calls kj7 a0_0 a0_1 a0_2 _ _ y153 t162 _ ?side1 ?side2 A33.out).mono ?_);(case side1=>repeat (first|exact (Kd.N_reads' HO155.out).2.2|(with_reducible refine Kd.C_alloc ?_ _)|(with_reducible refine Kd.C_drewN ?_ _)|(with_reducible refine Kd.C_drew ?_)));(case side2=>exact (Kd.N_reads' HO155.out).2.1);rintro e w93 ⟨rfl,hb⟩;refine ⟨_,rfl,?_⟩;have n0_:=Aside0.mk (Kd.V_below (by (with_reducible repeat (first|apply Kd.V_alloc|apply Kd.V_drewN|apply Kd.V_drew));exact HO_134003.out) hb);have n1_:=Aside0.mk (Kd.V_below (by (with_reducible repeat (first|apply Kd.V_alloc|apply Kd.V_drewN|apply Kd.V_drew));exact HO_135001.out) hb);have n2_:=Aside0.mk (Kd.N_below (by (with_reducible repeat (first|apply Kd.N_alloc|apply Kd.N_drewN|apply Kd.N_drew));exact HO152.out) hb);have n3_:=Aside0.mk (Kd.N_below (by (with_reducible repeat (first|apply Kd.N_alloc|apply Kd.N_drewN|apply Kd.N_drew));exact HO155.out) hb);have n4_:=Aside0.mk (blk_below (g:=gb133) (o:=.cells #[.int .i64 a0_0,.int .i64 a0_1,.int .i64 a0_2,.slice A0_3 l0_3.length c0_3] 24 (0,0)) (by (with_reducible repeat (first|refine blk_drewN ?_ _|refine blk_drew ?_|refine blk_alloc ?_ _));exact BK133.out) hb);have n5_:=Aside0.mk (blk_below (g:=gb134) (o:=.cells #[.int .i64 a1_0,.slice A1_1 l1_1.length c1_1] 27 (0,0)) (by (with_reducible repeat (first|refine blk_drewN ?_ _|refine blk_drew ?_|refine blk_alloc ?_ _));exact BK134.out) hb);have n6_:=Aside0.mk (blk_below (g:=gb143) (o:=.cells #[.int .i64 a0_0,.int .i64 a0_1,.int .i64 a0_2,.slice Ao84 y153.length co84] 24 (0,0)) (by (with_reducible repeat (first|refine blk_drewN ?_ _|refine blk_drew ?_|refine blk_alloc ?_ _));exact BK143.out) hb);have n7_:=Aside0.mk (below_step (by repeat (first|(with_reducible first|exact HB.out|apply below_alloc|apply pw_below_drewN|apply below_drew1|refine below_set ?_ GE133.out|refine below_set ?_ GE134.out|refine below_set ?_ GE143.out)|exact HB.out)) hb);clear HO_134003;clear HO_135001;clear HO152;clear HO155;clear BK133;clear BK134;clear BK143;clear HB;have HO_134003:=n0_;have HO_135001:=n1_;have HO152:=n2_;have HO155:=n3_;have BK133:=n4_;have BK134:=n5_;have BK143:=n6_;have HB:=n7_;clear n0_ n1_ n2_ n3_ n4_ n5_ n6_ n7_;(try clear hb);(try clear hb2);(try clear hk);(try clear hi)))
        (try simp only [Act.put,List.setIfInBounds_toArray,List.set_cons_zero,List.set_cons_succ])
        go_cut [4] (fun v4 wc=>∃ (kq : Nat) (x4_66 : Bool),v4 = .bool x4_66 ∧ Aside0 (coppicerkeep_GrammarSets.j2 kq x4_66 = some r) ∧ Aside0 (kq ≤ kj7) ∧ Aside0 (Kd.V k27 27 wc w.heap.size (fun k_=>((P0_3_ k_ ∨ P1_1_ k_) ∨ w.heap.size ≤ k_) ∧ some k_ ≠ ((.slice Ao84 y153.length co84) : Value).ownBlock ∧ k_ ≠ gb133 ∧ k_ ≠ gb134 ∧ k_ ≠ gb143) (.slice A0_3 l0_3.length c0_3) l0_3) ∧ Aside0 (Kd.V (Kd.int .i64) 3 wc w.heap.size (fun k_=>((P0_3_ k_ ∨ P1_1_ k_) ∨ w.heap.size ≤ k_) ∧ some k_ ≠ ((.slice Ao84 y153.length co84) : Value).ownBlock ∧ k_ ≠ gb133 ∧ k_ ≠ gb134 ∧ k_ ≠ gb143) (.slice A1_1 l1_1.length c1_1) l1_1) ∧ Aside0 (Kd.N k27 27 wc w.heap.size (fun k_=>((P0_3_ k_ ∨ P1_1_ k_) ∨ w.heap.size ≤ k_) ∧ k_ ≠ gb133 ∧ k_ ≠ gb134 ∧ k_ ≠ gb143) (.slice Ao84 y153.length co84) y153) ∧ Aside0 (wc.heap[gb133]? = some (.cells #[.int .i64 a0_0,.int .i64 a0_1,.int .i64 a0_2,(.slice A0_3 l0_3.length c0_3)] 24 (0,0))) ∧ Aside0 (wc.heap[gb134]? = some (.cells #[.int .i64 a1_0,(.slice A1_1 l1_1.length c1_1)] 27 (0,0))) ∧ Aside0 (wc.heap[gb143]? = some (.cells #[.int .i64 a0_0,.int .i64 a0_1,.int .i64 a0_2,(.slice Ao84 y153.length co84)] 24 (0,0))) ∧ Aside0 (Below w.heap.size w wc))
        case first =>
         have H:=HC67.out
         clear HC67
         by_cases c94 : t157 = 0
         ·rw [if_pos c94] at H
          have c94b0 : (t157 == 0) = true:=beq_iff_eq.mpr c94
          have c94b1 : (t157 != 0) = false:=bne_eq_false_iff_eq.mpr c94
          clear c94
          (first|rw [c94b0]|(simp only [i64_w,i32_w];rw [c94b0])|skip)
          have H':=Aside0.mk H
          clear H
          go_wp2
          go_meet
          case rel=>exact ⟨_,(false),(by first|rfl|(simp;done)|(simp [*];done)),H',⟨by have:=HJ7.out;first|omega|exact Nat.le_refl _⟩,⟨by (with_reducible repeat (first|apply Kd.V_alloc|apply Kd.V_drewN|apply Kd.V_drew));exact Kd.V_mono HO_134003.out (fun _ hk=>⟨hk.1.1,⟨hk.2,⟨hk.1.2.2.1,⟨hk.1.2.2.2.1,hk.1.2.2.2.2⟩⟩⟩⟩)⟩,⟨by (with_reducible repeat (first|apply Kd.V_alloc|apply Kd.V_drewN|apply Kd.V_drew));exact Kd.V_mono HO_135001.out (fun _ hk=>⟨hk.1.1,⟨hk.2,⟨hk.1.2.2.1,⟨hk.1.2.2.2.1,hk.1.2.2.2.2⟩⟩⟩⟩)⟩,⟨by (with_reducible repeat (first|apply Kd.N_alloc|apply Kd.N_drewN|apply Kd.N_drew));exact HO155.out⟩,⟨by (with_reducible repeat (first|refine blk_drewN ?_ _|refine blk_drew ?_|refine blk_alloc ?_ _));exact BK133.out⟩,⟨by (with_reducible repeat (first|refine blk_drewN ?_ _|refine blk_drew ?_|refine blk_alloc ?_ _));exact BK134.out⟩,⟨by (with_reducible repeat (first|refine blk_drewN ?_ _|refine blk_drew ?_|refine blk_alloc ?_ _));exact BK143.out⟩,⟨by repeat (first|(with_reducible first|exact HB.out|apply below_alloc|apply pw_below_drewN|apply below_drew1|refine below_set ?_ GE133.out|refine below_set ?_ GE134.out|refine below_set ?_ GE143.out)|exact HB.out)⟩⟩
         ·rw [if_neg c94] at H
          have c94b0 : (t157 == 0) = false:=beq_eq_false_iff_ne.mpr c94
          have c94b1 : (t157 != 0) = true:=bne_iff_ne.mpr c94
          (first|rw [c94b0]|(simp only [i64_w,i32_w];rw [c94b0])|skip)
          by_cases c95 : t159 = 0
          ·rw [if_pos c95] at H
           have c95b0 : (t159 == 0) = true:=beq_iff_eq.mpr c95
           have c95b1 : (t159 != 0) = false:=bne_eq_false_iff_eq.mpr c95
           clear c95
           have H':=Aside0.mk H
           clear H
           go_wp2
           go_meet
           case rel=>exact ⟨_,(false),(by first|rfl|(simp;done)|(simp [*];done)),H',⟨by have:=HJ7.out;first|omega|exact Nat.le_refl _⟩,⟨by (with_reducible repeat (first|apply Kd.V_alloc|apply Kd.V_drewN|apply Kd.V_drew));exact Kd.V_mono HO_134003.out (fun _ hk=>⟨hk.1.1,⟨hk.2,⟨hk.1.2.2.1,⟨hk.1.2.2.2.1,hk.1.2.2.2.2⟩⟩⟩⟩)⟩,⟨by (with_reducible repeat (first|apply Kd.V_alloc|apply Kd.V_drewN|apply Kd.V_drew));exact Kd.V_mono HO_135001.out (fun _ hk=>⟨hk.1.1,⟨hk.2,⟨hk.1.2.2.1,⟨hk.1.2.2.2.1,hk.1.2.2.2.2⟩⟩⟩⟩)⟩,⟨by (with_reducible repeat (first|apply Kd.N_alloc|apply Kd.N_drewN|apply Kd.N_drew));exact HO155.out⟩,⟨by (with_reducible repeat (first|refine blk_drewN ?_ _|refine blk_drew ?_|refine blk_alloc ?_ _));exact BK133.out⟩,⟨by (with_reducible repeat (first|refine blk_drewN ?_ _|refine blk_drew ?_|refine blk_alloc ?_ _));exact BK134.out⟩,⟨by (with_reducible repeat (first|refine blk_drewN ?_ _|refine blk_drew ?_|refine blk_alloc ?_ _));exact BK143.out⟩,⟨by repeat (first|(with_reducible first|exact HB.out|apply below_alloc|apply pw_below_drewN|apply below_drew1|refine below_set ?_ GE133.out|refine below_set ?_ GE134.out|refine below_set ?_ GE143.out)|exact HB.out)⟩⟩
          ·rw [if_neg c95] at H
           have c95b0 : (t159 == 0) = false:=beq_eq_false_iff_ne.mpr c95
           have c95b1 : (t159 != 0) = true:=bne_iff_ne.mpr c95
           have H':=Aside0.mk H
           clear H
           go_wp2
           go_meet
           case rel=>exact ⟨_,((t161 != 0)),(by first|rfl|(simp;done)|(simp [*];done)),H',⟨by have:=HJ7.out;first|omega|exact Nat.le_refl _⟩,⟨by (with_reducible repeat (first|apply Kd.V_alloc|apply Kd.V_drewN|apply Kd.V_drew));exact Kd.V_mono HO_134003.out (fun _ hk=>⟨hk.1.1,⟨hk.2,⟨hk.1.2.2.1,⟨hk.1.2.2.2.1,hk.1.2.2.2.2⟩⟩⟩⟩)⟩,⟨by (with_reducible repeat (first|apply Kd.V_alloc|apply Kd.V_drewN|apply Kd.V_drew));exact Kd.V_mono HO_135001.out (fun _ hk=>⟨hk.1.1,⟨hk.2,⟨hk.1.2.2.1,⟨hk.1.2.2.2.1,hk.1.2.2.2.2⟩⟩⟩⟩)⟩,⟨by (with_reducible repeat (first|apply Kd.N_alloc|apply Kd.N_drewN|apply Kd.N_drew));exact HO155.out⟩,⟨by (with_reducible repeat (first|refine blk_drewN ?_ _|refine blk_drew ?_|refine blk_alloc ?_ _));exact BK133.out⟩,⟨by (with_reducible repeat (first|refine blk_drewN ?_ _|refine blk_drew ?_|refine blk_alloc ?_ _));exact BK134.out⟩,⟨by (with_reducible repeat (first|refine blk_drewN ?_ _|refine blk_drew ?_|refine blk_alloc ?_ _));exact BK143.out⟩,⟨by repeat (first|(with_reducible first|exact HB.out|apply below_alloc|apply pw_below_drewN|apply below_drew1|refine below_set ?_ GE133.out|refine below_set ?_ GE134.out|refine below_set ?_ GE143.out)|exact HB.out)⟩⟩
        case rest =>
         clear HC67
         try clear c1
         try clear c2
         try clear p2
         try clear c3
         try clear c6
         try clear c7
         try clear c9
         try clear c15
         try clear c16
         try clear c17
         try clear c18
         try clear c28
         try clear c29
         try clear c34
         try clear c34b0
         try clear c34b1
         try clear c68
         try clear c71
         try clear c72
         try clear c94
         try clear c94b0
         try clear c94b1
         try clear c95
         try clear c95b0
         try clear c95b1
         try clear hcz37_1
         try clear hcz37_2
         try clear hcz37_3
         try clear hcz41_0
         try clear hcz41_1
         try clear hcz41_2
         try clear hcz41_3
         try clear hcz54_0
         try clear hcz54_1
         try clear hcz54_2
         try clear hcz54_3
         try clear hcz56_0
         try clear hcz56_1
         try clear hcz56_2
         try clear hcz56_3
         try clear hcz58_0
         try clear hcz58_1
         try clear hcz58_2
         try clear hcz58_3
         try clear hcz60_0
         try clear hcz60_1
         try clear hcz60_2
         try clear hcz60_3
         try clear hcz69_0
         try clear hcz69_1
         try clear hcz69_2
         try clear hcz69_3
         try clear hcz73_0
         try clear hcz73_1
         try clear hcz73_2
         try clear hcz73_3
         try clear hcz86_0
         try clear hcz86_1
         try clear hcz86_2
         try clear hcz86_3
         try clear hcz88_0
         try clear hcz88_1
         try clear hcz88_2
         try clear hcz88_3
         try clear hcz90_0
         try clear hcz90_1
         try clear hcz90_2
         try clear hcz90_3
         try clear hcz92_0
         try clear hcz92_1
         try clear hcz92_2
         try clear hcz92_3
         try clear hfz37_0
         try clear hfz37_1
         try clear hfz37_2
         try clear hfz37_3
         try clear hfz41_0
         try clear hfz41_1
         try clear hfz41_2
         try clear hfz41_3
         try clear hfz54_0
         try clear hfz54_1
         try clear hfz54_2
         try clear hfz54_3
         try clear hfz56_0
         try clear hfz56_1
         try clear hfz56_2
         try clear hfz56_3
         try clear hfz58_0
         try clear hfz58_1
         try clear hfz58_2
         try clear hfz58_3
         try clear hfz60_0
         try clear hfz60_1
         try clear hfz60_2
         try clear hfz60_3
         try clear hfz69_0
         try clear hfz69_1
         try clear hfz69_2
         try clear hfz69_3
         try clear hfz73_0
         try clear hfz73_1
         try clear hfz73_2
         try clear hfz73_3
         try clear hfz86_0
         try clear hfz86_1
         try clear hfz86_2
         try clear hfz86_3
         try clear hfz88_0
         try clear hfz88_1
         try clear hfz88_2
         try clear hfz88_3
         try clear hfz90_0
         try clear hfz90_1
         try clear hfz90_2
         try clear hfz90_3
         try clear hfz92_0
         try clear hfz92_1
         try clear hfz92_2
         try clear hfz92_3
         obtain ⟨kq,x4_66,rfl,HA,HJ66,HO_134003,HO_135001,HO_144003,BK133,BK134,BK143,HB⟩:=hcut
         cases kq with
         | zero=>exact absurd HA.out (by simp [coppicerkeep_GrammarSets.j2])
         | succ kj66 =>
          have H:=HA.out
          clear HA
          simp only [coppicerkeep_GrammarSets.j2] at H
          obtain rfl:=Option.some.inj H
          go_wp2
          go_ret
          exact ⟨by first|rfl|(simp [errW_none,errW_some] <;> rfl)|(simp [*,errW_none,errW_some] <;> rfl),by repeat (first|(with_reducible first|exact HB.out|apply below_alloc|apply pw_below_drewN|apply below_drew1|refine below_set ?_ GE133.out|refine below_set ?_ GE134.out|refine below_set ?_ GE143.out)|exact HB.out)⟩
      ·rw [if_neg c29] at H
       exact absurd H (by simp)
     ·rw [if_neg c28] at H
      exact absurd H (by simp)
 ·rw [if_neg c7] at H
  have c7b0 : (t141 == 0) = false:=beq_eq_false_iff_ne.mpr c7
  have c7b1 : (t141 != 0) = true:=bne_iff_ne.mpr c7
  have HC96:=Aside0.mk H
  clear H
  go_enter Try.func3,Try.ntmps3
  go_upto_region 5 with (first|((with_reducible refine gate_dst (N:=2) rfl ?_);refine box_event ?hg (N:=2) ?hd (cs:=#[.int .i64 a0_0,.int .i64 a0_1,.int .i64 a0_2,.slice A0_3 l0_3.length c0_3]) (t:=24) ?hr ?_;(case hd=>rfl);(case hg=>rfl);(case hr=>first|(go_simp;done)|(go_simp;rfl));intro gb133 hg w97 hbox hb;have n0_:=Aside0.mk (Kd.V_below (Kd.V_elderB (by (with_reducible repeat (first|apply Kd.V_alloc|apply Kd.V_drewN|apply Kd.V_drew));exact HO0_3.out) gb133 (Nat.le_of_eq hg.symm)) hb);have n1_:=Aside0.mk (Kd.V_below (Kd.V_elderB (by (with_reducible repeat (first|apply Kd.V_alloc|apply Kd.V_drewN|apply Kd.V_drew));exact HO1_1.out) gb133 (Nat.le_of_eq hg.symm)) hb);have n2_:=Aside0.mk (below_step (by repeat (first|(with_reducible first|exact HB.out|apply below_alloc|apply pw_below_drewN|apply below_drew1)|exact HB.out)) hb);have n3_:=Aside0.mk (hbox);have n4_:=Aside0.mk ((by rw [hg];exact (below_size (by repeat (first|(with_reducible first|exact HB.out|apply below_alloc|apply pw_below_drewN|apply below_drew1)|exact HB.out))) : w.heap.size ≤ gb133));have n5_:=Aside0.mk ((by rw [hg];exact (below_size (by repeat (first|(with_reducible first|exact HB.out|apply below_alloc|apply pw_below_drewN|apply below_drew1)|exact HB.out))) : w.heap.size ≤ gb133));clear HO0_3;clear HO1_1;clear HB;have HO0_3:=n0_;have HO1_1:=n1_;have HB:=n2_;have BK133:=n3_;have GW133:=n4_;have GE133:=n5_;clear n0_ n1_ n2_ n3_ n4_ n5_;clear hb hbox hg)|((with_reducible refine gate_dst (N:=3) rfl ?_);refine box_event ?hg (N:=3) ?hd (cs:=#[.int .i64 a1_0,.slice A1_1 l1_1.length c1_1]) (t:=27) ?hr ?_;(case hd=>rfl);(case hg=>rfl);(case hr=>first|(go_simp;done)|(go_simp;rfl));intro gb134 hg w98 hbox hb;have n0_:=Aside0.mk (Kd.V_below (Kd.V_elderB (by (with_reducible repeat (first|apply Kd.V_alloc|apply Kd.V_drewN|apply Kd.V_drew));exact HO0_3.out) gb134 (Nat.le_of_eq hg.symm)) hb);have n1_:=Aside0.mk (Kd.V_below (Kd.V_elderB (by (with_reducible repeat (first|apply Kd.V_alloc|apply Kd.V_drewN|apply Kd.V_drew));exact HO1_1.out) gb134 (Nat.le_of_eq hg.symm)) hb);have n2_:=Aside0.mk (blk_below (g:=gb133) (o:=.cells #[.int .i64 a0_0,.int .i64 a0_1,.int .i64 a0_2,.slice A0_3 l0_3.length c0_3] 24 (0,0)) (by (with_reducible repeat (first|refine blk_drewN ?_ _|refine blk_drew ?_|refine blk_alloc ?_ _));exact BK133.out) hb);have n3_:=Aside0.mk (below_step (by repeat (first|(with_reducible first|exact HB.out|apply below_alloc|apply pw_below_drewN|apply below_drew1|refine below_set ?_ GE133.out)|exact HB.out)) hb);have n4_:=Aside0.mk (hbox);have n5_:=Aside0.mk ((by rw [hg];exact (below_size (by repeat (first|(with_reducible first|exact HB.out|apply below_alloc|apply pw_below_drewN|apply below_drew1|refine below_set ?_ GE133.out)|exact HB.out))) : w.heap.size ≤ gb134));have n6_:=Aside0.mk ((by rw [hg];exact (below_size (by repeat (first|(with_reducible first|exact HB.out|apply below_alloc|apply pw_below_drewN|apply below_drew1|refine below_set ?_ GE133.out)|exact HB.out))) : w.heap.size ≤ gb134));have n7_:=Aside0.mk ((by rw [hg];exact Nat.ne_of_lt (blk_lt (g:=gb133) (o:=.cells #[.int .i64 a0_0,.int .i64 a0_1,.int .i64 a0_2,.slice A0_3 l0_3.length c0_3] 24 (0,0)) (by (with_reducible repeat (first|refine blk_drewN ?_ _|refine blk_drew ?_|refine blk_alloc ?_ _));exact BK133.out)) : gb133 ≠ gb134));have n8_:=Aside0.mk ((by rw [hg];exact Nat.ne_of_gt (blk_lt (g:=gb133) (o:=.cells #[.int .i64 a0_0,.int .i64 a0_1,.int .i64 a0_2,.slice A0_3 l0_3.length c0_3] 24 (0,0)) (by (with_reducible repeat (first|refine blk_drewN ?_ _|refine blk_drew ?_|refine blk_alloc ?_ _));exact BK133.out)) : gb134 ≠ gb133));clear HO0_3;clear HO1_1;clear BK133;clear HB;have HO0_3:=n0_;have HO1_1:=n1_;have BK133:=n2_;have HB:=n3_;have BK134:=n4_;have GW134:=n5_;have GE134:=n6_;have NB133_134:=n7_;have NB134_133:=n8_;clear n0_ n1_ n2_ n3_ n4_ n5_ n6_ n7_ n8_;clear hb hbox hg;have hnb99:=NB133_134.out;have hnc99:=NB134_133.out;have hcz100_0 : w98.cell? ⟨gb133,0,none⟩ = some (.int .i64 a0_0):=(blk_cell BK133.out 0).trans rfl;have hcz100_1 : w98.cell? ⟨gb133,1,none⟩ = some (.int .i64 a0_1):=(blk_cell BK133.out 1).trans rfl;have hcz100_2 : w98.cell? ⟨gb133,2,none⟩ = some (.int .i64 a0_2):=(blk_cell BK133.out 2).trans rfl;have hcz100_3 : w98.cell? ⟨gb133,3,none⟩ = some (.slice A0_3 l0_3.length c0_3):=(blk_cell BK133.out 3).trans rfl;have hfz100_0:=blk_frozen BK133.out 0;have hfz100_1:=blk_frozen BK133.out 1;have hfz100_2:=blk_frozen BK133.out 2;have hfz100_3:=blk_frozen BK133.out 3)|((with_reducible refine gate_callee (f:=15) rfl ?_);refine goesL_ (some 17) rfl rfl Try.func15 (by kernel_rfl) rfl #[.agg #[.int .i64 a0_0,.int .i64 a0_1,.int .i64 a0_2,.slice A0_3 l0_3.length c0_3]] rfl (by (try simp only [List.map_toArray,List.map_cons,List.map_nil]);first|done|rfl|(simp only [List.length_drop,List.length_take];rfl)) ?_;(with_reducible refine (grammar_Makes.calls k a0_0 a0_1 a0_2 _ _ l0_3 t135 t136 _ ?side1 ?side2 A3.out).mono ?_);(case side1=>repeat (first|exact (Kd.V_reads' HO0_3.out).2.2|(with_reducible refine Kd.C_alloc ?_ _)|(with_reducible refine Kd.C_drewN ?_ _)|(with_reducible refine Kd.C_drew ?_)));(case side2=>exact (Kd.V_reads' HO0_3.out).2.1);rintro e w101 ⟨rfl,hb⟩;refine ⟨_,rfl,?_⟩;have n0_:=Aside0.mk (Kd.V_below (by (with_reducible repeat (first|apply Kd.V_alloc|apply Kd.V_drewN|apply Kd.V_drew));exact HO0_3.out) hb);have n1_:=Aside0.mk (Kd.V_below (by (with_reducible repeat (first|apply Kd.V_alloc|apply Kd.V_drewN|apply Kd.V_drew));exact HO1_1.out) hb);have n2_:=Aside0.mk (blk_below (g:=gb133) (o:=.cells #[.int .i64 a0_0,.int .i64 a0_1,.int .i64 a0_2,.slice A0_3 l0_3.length c0_3] 24 (0,0)) (by (with_reducible repeat (first|refine blk_drewN ?_ _|refine blk_drew ?_|refine blk_alloc ?_ _));exact BK133.out) hb);have n3_:=Aside0.mk (blk_below (g:=gb134) (o:=.cells #[.int .i64 a1_0,.slice A1_1 l1_1.length c1_1] 27 (0,0)) (by (with_reducible repeat (first|refine blk_drewN ?_ _|refine blk_drew ?_|refine blk_alloc ?_ _));exact BK134.out) hb);have n4_:=Aside0.mk (below_step (by repeat (first|(with_reducible first|exact HB.out|apply below_alloc|apply pw_below_drewN|apply below_drew1|refine below_set ?_ GE133.out|refine below_set ?_ GE134.out)|exact HB.out)) hb);clear HO0_3;clear HO1_1;clear BK133;clear BK134;clear HB;have HO0_3:=n0_;have HO1_1:=n1_;have BK133:=n2_;have BK134:=n3_;have HB:=n4_;clear n0_ n1_ n2_ n3_ n4_;(try clear hb);(try clear hb2);(try clear hk);(try clear hi);have hcz102_0 : w101.cell? ⟨gb133,0,none⟩ = some (.int .i64 a0_0):=(blk_cell BK133.out 0).trans rfl;have hcz102_1 : w101.cell? ⟨gb133,1,none⟩ = some (.int .i64 a0_1):=(blk_cell BK133.out 1).trans rfl;have hcz102_2 : w101.cell? ⟨gb133,2,none⟩ = some (.int .i64 a0_2):=(blk_cell BK133.out 2).trans rfl;have hcz102_3 : w101.cell? ⟨gb133,3,none⟩ = some (.slice A0_3 l0_3.length c0_3):=(blk_cell BK133.out 3).trans rfl;have hfz102_0:=blk_frozen BK133.out 0;have hfz102_1:=blk_frozen BK133.out 1;have hfz102_2:=blk_frozen BK133.out 2;have hfz102_3:=blk_frozen BK133.out 3)|((with_reducible refine gate_callee (f:=16) rfl ?_);refine goesL_ (some 22) rfl rfl Try.func16 (by kernel_rfl) rfl #[.agg #[.int .i64 a0_0,.int .i64 a0_1,.int .i64 a0_2,.slice A0_3 l0_3.length c0_3]] rfl (by (try simp only [List.map_toArray,List.map_cons,List.map_nil]);first|done|rfl|(simp only [List.length_drop,List.length_take];rfl)) ?_;(with_reducible refine (grammar_Void.calls k a0_0 a0_1 a0_2 _ _ l0_3 t137 t138 _ ?side1 ?side2 A4.out).mono ?_);(case side1=>repeat (first|exact (Kd.V_reads' HO0_3.out).2.2|(with_reducible refine Kd.C_alloc ?_ _)|(with_reducible refine Kd.C_drewN ?_ _)|(with_reducible refine Kd.C_drew ?_)));(case side2=>exact (Kd.V_reads' HO0_3.out).2.1);rintro e w103 ⟨rfl,hb⟩;refine ⟨_,rfl,?_⟩;have n0_:=Aside0.mk (Kd.V_below (by (with_reducible repeat (first|apply Kd.V_alloc|apply Kd.V_drewN|apply Kd.V_drew));exact HO0_3.out) hb);have n1_:=Aside0.mk (Kd.V_below (by (with_reducible repeat (first|apply Kd.V_alloc|apply Kd.V_drewN|apply Kd.V_drew));exact HO1_1.out) hb);have n2_:=Aside0.mk (blk_below (g:=gb133) (o:=.cells #[.int .i64 a0_0,.int .i64 a0_1,.int .i64 a0_2,.slice A0_3 l0_3.length c0_3] 24 (0,0)) (by (with_reducible repeat (first|refine blk_drewN ?_ _|refine blk_drew ?_|refine blk_alloc ?_ _));exact BK133.out) hb);have n3_:=Aside0.mk (blk_below (g:=gb134) (o:=.cells #[.int .i64 a1_0,.slice A1_1 l1_1.length c1_1] 27 (0,0)) (by (with_reducible repeat (first|refine blk_drewN ?_ _|refine blk_drew ?_|refine blk_alloc ?_ _));exact BK134.out) hb);have n4_:=Aside0.mk (below_step (by repeat (first|(with_reducible first|exact HB.out|apply below_alloc|apply pw_below_drewN|apply below_drew1|refine below_set ?_ GE133.out|refine below_set ?_ GE134.out)|exact HB.out)) hb);clear HO0_3;clear HO1_1;clear BK133;clear BK134;clear HB;have HO0_3:=n0_;have HO1_1:=n1_;have BK133:=n2_;have BK134:=n3_;have HB:=n4_;clear n0_ n1_ n2_ n3_ n4_;(try clear hb);(try clear hb2);(try clear hk);(try clear hi);have hcz104_0 : w103.cell? ⟨gb133,0,none⟩ = some (.int .i64 a0_0):=(blk_cell BK133.out 0).trans rfl;have hcz104_1 : w103.cell? ⟨gb133,1,none⟩ = some (.int .i64 a0_1):=(blk_cell BK133.out 1).trans rfl;have hcz104_2 : w103.cell? ⟨gb133,2,none⟩ = some (.int .i64 a0_2):=(blk_cell BK133.out 2).trans rfl;have hcz104_3 : w103.cell? ⟨gb133,3,none⟩ = some (.slice A0_3 l0_3.length c0_3):=(blk_cell BK133.out 3).trans rfl;have hfz104_0:=blk_frozen BK133.out 0;have hfz104_1:=blk_frozen BK133.out 1;have hfz104_2:=blk_frozen BK133.out 2;have hfz104_3:=blk_frozen BK133.out 3)|((with_reducible refine gate_callee (f:=17) rfl ?_);refine goesL_ (some 27) rfl rfl Try.func17 (by kernel_rfl) rfl #[.agg #[.int .i64 a0_0,.int .i64 a0_1,.int .i64 a0_2,.slice A0_3 l0_3.length c0_3]] rfl (by (try simp only [List.map_toArray,List.map_cons,List.map_nil]);first|done|rfl|(simp only [List.length_drop,List.length_take];rfl)) ?_;(with_reducible refine (grammar_Comes.calls k a0_0 a0_1 a0_2 _ _ l0_3 t139 t140 _ ?side1 ?side2 A5.out).mono ?_);(case side1=>repeat (first|exact (Kd.V_reads' HO0_3.out).2.2|(with_reducible refine Kd.C_alloc ?_ _)|(with_reducible refine Kd.C_drewN ?_ _)|(with_reducible refine Kd.C_drew ?_)));(case side2=>exact (Kd.V_reads' HO0_3.out).2.1);rintro e w105 ⟨rfl,hb⟩;refine ⟨_,rfl,?_⟩;have n0_:=Aside0.mk (Kd.V_below (by (with_reducible repeat (first|apply Kd.V_alloc|apply Kd.V_drewN|apply Kd.V_drew));exact HO0_3.out) hb);have n1_:=Aside0.mk (Kd.V_below (by (with_reducible repeat (first|apply Kd.V_alloc|apply Kd.V_drewN|apply Kd.V_drew));exact HO1_1.out) hb);have n2_:=Aside0.mk (blk_below (g:=gb133) (o:=.cells #[.int .i64 a0_0,.int .i64 a0_1,.int .i64 a0_2,.slice A0_3 l0_3.length c0_3] 24 (0,0)) (by (with_reducible repeat (first|refine blk_drewN ?_ _|refine blk_drew ?_|refine blk_alloc ?_ _));exact BK133.out) hb);have n3_:=Aside0.mk (blk_below (g:=gb134) (o:=.cells #[.int .i64 a1_0,.slice A1_1 l1_1.length c1_1] 27 (0,0)) (by (with_reducible repeat (first|refine blk_drewN ?_ _|refine blk_drew ?_|refine blk_alloc ?_ _));exact BK134.out) hb);have n4_:=Aside0.mk (below_step (by repeat (first|(with_reducible first|exact HB.out|apply below_alloc|apply pw_below_drewN|apply below_drew1|refine below_set ?_ GE133.out|refine below_set ?_ GE134.out)|exact HB.out)) hb);clear HO0_3;clear HO1_1;clear BK133;clear BK134;clear HB;have HO0_3:=n0_;have HO1_1:=n1_;have BK133:=n2_;have BK134:=n3_;have HB:=n4_;clear n0_ n1_ n2_ n3_ n4_;(try clear hb);(try clear hb2);(try clear hk);(try clear hi);have hcz106_0 : w105.cell? ⟨gb133,0,none⟩ = some (.int .i64 a0_0):=(blk_cell BK133.out 0).trans rfl;have hcz106_1 : w105.cell? ⟨gb133,1,none⟩ = some (.int .i64 a0_1):=(blk_cell BK133.out 1).trans rfl;have hcz106_2 : w105.cell? ⟨gb133,2,none⟩ = some (.int .i64 a0_2):=(blk_cell BK133.out 2).trans rfl;have hcz106_3 : w105.cell? ⟨gb133,3,none⟩ = some (.slice A0_3 l0_3.length c0_3):=(blk_cell BK133.out 3).trans rfl;have hfz106_0:=blk_frozen BK133.out 0;have hfz106_1:=blk_frozen BK133.out 1;have hfz106_2:=blk_frozen BK133.out 2;have hfz106_3:=blk_frozen BK133.out 3)|((with_reducible refine gate_callee (f:=18) rfl ?_);refine goesL_ (some 31) rfl rfl Try.func18 (by kernel_rfl) rfl #[.agg #[.int .i64 a0_0,.int .i64 a0_1,.int .i64 a0_2,.slice A0_3 l0_3.length c0_3]] rfl (by (try simp only [List.map_toArray,List.map_cons,List.map_nil]);first|done|rfl|(simp only [List.length_drop,List.length_take];rfl)) ?_;(with_reducible refine (coppicerref_GrammarCheck.calls k a0_0 a0_1 a0_2 _ _ l0_3 t141 _ ?side1 ?side2 A6.out).mono ?_);(case side1=>repeat (first|exact (Kd.V_reads' HO0_3.out).2.2|(with_reducible refine Kd.C_alloc ?_ _)|(with_reducible refine Kd.C_drewN ?_ _)|(with_reducible refine Kd.C_drew ?_)));(case side2=>exact (Kd.V_reads' HO0_3.out).2.1);rintro e w107 ⟨rfl,hb⟩;refine ⟨_,rfl,?_⟩;have n0_:=Aside0.mk (Kd.V_below (by (with_reducible repeat (first|apply Kd.V_alloc|apply Kd.V_drewN|apply Kd.V_drew));exact HO0_3.out) hb);have n1_:=Aside0.mk (Kd.V_below (by (with_reducible repeat (first|apply Kd.V_alloc|apply Kd.V_drewN|apply Kd.V_drew));exact HO1_1.out) hb);have n2_:=Aside0.mk (blk_below (g:=gb133) (o:=.cells #[.int .i64 a0_0,.int .i64 a0_1,.int .i64 a0_2,.slice A0_3 l0_3.length c0_3] 24 (0,0)) (by (with_reducible repeat (first|refine blk_drewN ?_ _|refine blk_drew ?_|refine blk_alloc ?_ _));exact BK133.out) hb);have n3_:=Aside0.mk (blk_below (g:=gb134) (o:=.cells #[.int .i64 a1_0,.slice A1_1 l1_1.length c1_1] 27 (0,0)) (by (with_reducible repeat (first|refine blk_drewN ?_ _|refine blk_drew ?_|refine blk_alloc ?_ _));exact BK134.out) hb);have n4_:=Aside0.mk (below_step (by repeat (first|(with_reducible first|exact HB.out|apply below_alloc|apply pw_below_drewN|apply below_drew1|refine below_set ?_ GE133.out|refine below_set ?_ GE134.out)|exact HB.out)) hb);clear HO0_3;clear HO1_1;clear BK133;clear BK134;clear HB;have HO0_3:=n0_;have HO1_1:=n1_;have BK133:=n2_;have BK134:=n3_;have HB:=n4_;clear n0_ n1_ n2_ n3_ n4_;(try clear hb);(try clear hb2);(try clear hk);(try clear hi)))
  (try simp only [Act.put,List.setIfInBounds_toArray,List.set_cons_zero,List.set_cons_succ])
  go_cut [4] (fun v4 wc=>∃ (kq : Nat) (x4_95 : Bool),v4 = .bool x4_95 ∧ Aside0 (coppicerkeep_GrammarSets.j0 kq x4_95 = some r) ∧ Aside0 (kq ≤ k) ∧ Aside0 (Kd.V k27 27 wc w.heap.size (fun k_=>((P0_3_ k_ ∨ P1_1_ k_) ∨ w.heap.size ≤ k_) ∧ k_ ≠ gb133 ∧ k_ ≠ gb134) (.slice A0_3 l0_3.length c0_3) l0_3) ∧ Aside0 (Kd.V (Kd.int .i64) 3 wc w.heap.size (fun k_=>((P0_3_ k_ ∨ P1_1_ k_) ∨ w.heap.size ≤ k_) ∧ k_ ≠ gb133 ∧ k_ ≠ gb134) (.slice A1_1 l1_1.length c1_1) l1_1) ∧ Aside0 (wc.heap[gb133]? = some (.cells #[.int .i64 a0_0,.int .i64 a0_1,.int .i64 a0_2,(.slice A0_3 l0_3.length c0_3)] 24 (0,0))) ∧ Aside0 (wc.heap[gb134]? = some (.cells #[.int .i64 a1_0,(.slice A1_1 l1_1.length c1_1)] 27 (0,0))) ∧ Aside0 (Below w.heap.size w wc))
  case first =>
   have H:=HC96.out
   clear HC96
   by_cases c108 : t136 = 0
   ·rw [if_pos c108] at H
    have c108b0 : (t136 == 0) = true:=beq_iff_eq.mpr c108
    have c108b1 : (t136 != 0) = false:=bne_eq_false_iff_eq.mpr c108
    clear c108
    (first|rw [c108b0]|(simp only [i64_w,i32_w];rw [c108b0])|skip)
    have H':=Aside0.mk H
    clear H
    go_wp2
    go_meet
    case rel=>exact ⟨_,(false),(by first|rfl|(simp;done)|(simp [*];done)),H',⟨by first|omega|exact Nat.le_refl _⟩,⟨by (with_reducible repeat (first|apply Kd.V_alloc|apply Kd.V_drewN|apply Kd.V_drew));exact Kd.V_mono HO0_3.out (fun _ hk=>⟨hk.1.1,⟨hk.1.2,hk.2⟩⟩)⟩,⟨by (with_reducible repeat (first|apply Kd.V_alloc|apply Kd.V_drewN|apply Kd.V_drew));exact Kd.V_mono HO1_1.out (fun _ hk=>⟨hk.1.1,⟨hk.1.2,hk.2⟩⟩)⟩,⟨by (with_reducible repeat (first|refine blk_drewN ?_ _|refine blk_drew ?_|refine blk_alloc ?_ _));exact BK133.out⟩,⟨by (with_reducible repeat (first|refine blk_drewN ?_ _|refine blk_drew ?_|refine blk_alloc ?_ _));exact BK134.out⟩,⟨by repeat (first|(with_reducible first|exact HB.out|apply below_alloc|apply pw_below_drewN|apply below_drew1|refine below_set ?_ GE133.out|refine below_set ?_ GE134.out)|exact HB.out)⟩⟩
   ·rw [if_neg c108] at H
    have c108b0 : (t136 == 0) = false:=beq_eq_false_iff_ne.mpr c108
    have c108b1 : (t136 != 0) = true:=bne_iff_ne.mpr c108
    (first|rw [c108b0]|(simp only [i64_w,i32_w];rw [c108b0])|skip)
    by_cases c109 : t138 = 0
    ·rw [if_pos c109] at H
     have c109b0 : (t138 == 0) = true:=beq_iff_eq.mpr c109
     have c109b1 : (t138 != 0) = false:=bne_eq_false_iff_eq.mpr c109
     clear c109
     have H':=Aside0.mk H
     clear H
     go_wp2
     go_meet
     case rel=>exact ⟨_,(false),(by first|rfl|(simp;done)|(simp [*];done)),H',⟨by first|omega|exact Nat.le_refl _⟩,⟨by (with_reducible repeat (first|apply Kd.V_alloc|apply Kd.V_drewN|apply Kd.V_drew));exact Kd.V_mono HO0_3.out (fun _ hk=>⟨hk.1.1,⟨hk.1.2,hk.2⟩⟩)⟩,⟨by (with_reducible repeat (first|apply Kd.V_alloc|apply Kd.V_drewN|apply Kd.V_drew));exact Kd.V_mono HO1_1.out (fun _ hk=>⟨hk.1.1,⟨hk.1.2,hk.2⟩⟩)⟩,⟨by (with_reducible repeat (first|refine blk_drewN ?_ _|refine blk_drew ?_|refine blk_alloc ?_ _));exact BK133.out⟩,⟨by (with_reducible repeat (first|refine blk_drewN ?_ _|refine blk_drew ?_|refine blk_alloc ?_ _));exact BK134.out⟩,⟨by repeat (first|(with_reducible first|exact HB.out|apply below_alloc|apply pw_below_drewN|apply below_drew1|refine below_set ?_ GE133.out|refine below_set ?_ GE134.out)|exact HB.out)⟩⟩
    ·rw [if_neg c109] at H
     have c109b0 : (t138 == 0) = false:=beq_eq_false_iff_ne.mpr c109
     have c109b1 : (t138 != 0) = true:=bne_iff_ne.mpr c109
     have H':=Aside0.mk H
     clear H
     go_wp2
     go_meet
     case rel=>exact ⟨_,((t140 != 0)),(by first|rfl|(simp;done)|(simp [*];done)),H',⟨by first|omega|exact Nat.le_refl _⟩,⟨by (with_reducible repeat (first|apply Kd.V_alloc|apply Kd.V_drewN|apply Kd.V_drew));exact Kd.V_mono HO0_3.out (fun _ hk=>⟨hk.1.1,⟨hk.1.2,hk.2⟩⟩)⟩,⟨by (with_reducible repeat (first|apply Kd.V_alloc|apply Kd.V_drewN|apply Kd.V_drew));exact Kd.V_mono HO1_1.out (fun _ hk=>⟨hk.1.1,⟨hk.1.2,hk.2⟩⟩)⟩,⟨by (with_reducible repeat (first|refine blk_drewN ?_ _|refine blk_drew ?_|refine blk_alloc ?_ _));exact BK133.out⟩,⟨by (with_reducible repeat (first|refine blk_drewN ?_ _|refine blk_drew ?_|refine blk_alloc ?_ _));exact BK134.out⟩,⟨by repeat (first|(with_reducible first|exact HB.out|apply below_alloc|apply pw_below_drewN|apply below_drew1|refine below_set ?_ GE133.out|refine below_set ?_ GE134.out)|exact HB.out)⟩⟩
  case rest =>
   clear HC96
   try clear c1
   try clear c2
   try clear p2
   try clear c3
   try clear c6
   try clear c7
   try clear c7b0
   try clear c7b1
   try clear c9
   try clear c10
   try clear c15
   try clear c16
   try clear c17
   try clear c18
   try clear c28
   try clear c29
   try clear c34
   try clear c34b0
   try clear c34b1
   try clear c68
   try clear c71
   try clear c72
   try clear c94
   try clear c94b0
   try clear c94b1
   try clear c95
   try clear c95b0
   try clear c95b1
   try clear c99
   try clear c108
   try clear c108b0
   try clear c108b1
   try clear c109
   try clear c109b0
   try clear c109b1
   try clear hcz100_0
   try clear hcz100_1
   try clear hcz100_2
   try clear hcz100_3
   try clear hcz102_0
   try clear hcz102_1
   try clear hcz102_2
   try clear hcz102_3
   try clear hcz104_0
   try clear hcz104_1
   try clear hcz104_2
   try clear hcz104_3
   try clear hcz106_0
   try clear hcz106_1
   try clear hcz106_2
   try clear hcz106_3
   try clear hcz37_1
   try clear hcz37_2
   try clear hcz37_3
   try clear hcz41_0
   try clear hcz41_1
   try clear hcz41_2
   try clear hcz41_3
   try clear hcz54_0
   try clear hcz54_1
   try clear hcz54_2
   try clear hcz54_3
   try clear hcz56_0
   try clear hcz56_1
   try clear hcz56_2
   try clear hcz56_3
   try clear hcz58_0
   try clear hcz58_1
   try clear hcz58_2
   try clear hcz58_3
   try clear hcz60_0
   try clear hcz60_1
   try clear hcz60_2
   try clear hcz60_3
   try clear hcz69_0
   try clear hcz69_1
   try clear hcz69_2
   try clear hcz69_3
   try clear hcz73_0
   try clear hcz73_1
   try clear hcz73_2
   try clear hcz73_3
   try clear hcz86_0
   try clear hcz86_1
   try clear hcz86_2
   try clear hcz86_3
   try clear hcz88_0
   try clear hcz88_1
   try clear hcz88_2
   try clear hcz88_3
   try clear hcz90_0
   try clear hcz90_1
   try clear hcz90_2
   try clear hcz90_3
   try clear hcz92_0
   try clear hcz92_1
   try clear hcz92_2
   try clear hcz92_3
   try clear hfz100_0
   try clear hfz100_1
   try clear hfz100_2
   try clear hfz100_3
   try clear hfz102_0
   try clear hfz102_1
   try clear hfz102_2
   try clear hfz102_3
   try clear hfz104_0
   try clear hfz104_1
   try clear hfz104_2
   try clear hfz104_3
   try clear hfz106_0
   try clear hfz106_1
   try clear hfz106_2
   try clear hfz106_3
   try clear hfz37_0
   try clear hfz37_1
   try clear hfz37_2
   try clear hfz37_3
   try clear hfz41_0
   try clear hfz41_1
   try clear hfz41_2
   try clear hfz41_3
   try clear hfz54_0
   try clear hfz54_1
   try clear hfz54_2
   try clear hfz54_3
   try clear hfz56_0
   try clear hfz56_1
   try clear hfz56_2
   try clear hfz56_3
   try clear hfz58_0
   try clear hfz58_1
   try clear hfz58_2
   try clear hfz58_3
   try clear hfz60_0
   try clear hfz60_1
   try clear hfz60_2
   try clear hfz60_3
   try clear hfz69_0
   try clear hfz69_1
   try clear hfz69_2
   try clear hfz69_3
   try clear hfz73_0
   try clear hfz73_1
   try clear hfz73_2
   try clear hfz73_3
   try clear hfz86_0
   try clear hfz86_1
   try clear hfz86_2
   try clear hfz86_3
   try clear hfz88_0
   try clear hfz88_1
   try clear hfz88_2
   try clear hfz88_3
   try clear hfz90_0
   try clear hfz90_1
   try clear hfz90_2
   try clear hfz90_3
   try clear hfz92_0
   try clear hfz92_1
   try clear hfz92_2
   try clear hfz92_3
   try clear p2
   obtain ⟨kq,x4_95,rfl,HA,HJ95,HO_134003,HO_135001,BK133,BK134,HB⟩:=hcut
   cases kq with
   | zero=>exact absurd HA.out (by simp [coppicerkeep_GrammarSets.j0])
   | succ kj95 =>
    have H:=HA.out
    clear HA
    simp only [coppicerkeep_GrammarSets.j0] at H
    obtain rfl:=Option.some.inj H
    go_wp2
    go_ret
    exact ⟨by first|rfl|(simp [errW_none,errW_some] <;> rfl)|(simp [*,errW_none,errW_some] <;> rfl),by repeat (first|(with_reducible first|exact HB.out|apply below_alloc|apply pw_below_drewN|apply below_drew1|refine below_set ?_ GE133.out|refine below_set ?_ GE134.out)|exact HB.out)⟩
/-- THE ONE PURE STATEMENT of coppicerkeep_GrammarSets: yours. -/
def coppicerkeep_GrammarSets.Pure : Prop:=∀ (a0_0 : Int) (a0_1 : Int) (a0_2 : Int) (l0_3 : List (S27)) (a1_0 : Int) (l1_1 : List Int),((Lit.int .i64 a0_0).wf = true) → ((Lit.int .i64 a0_1).wf = true) → ((Lit.int .i64 a0_2).wf = true) → (l0_3.length ≤ 9223372036854775807 ∧ l0_3.length * 32 ≤ 140737488351232 ∧ ∀ y_ ∈ l0_3,wf27 y_) → ((Lit.int .i64 a1_0).wf = true) → (l1_1.length ≤ 9223372036854775807 ∧ l1_1.length * 8 ≤ 140737488351232 ∧ ∀ y_ ∈ l1_1,(Lit.int .i64 y_).wf = true) → ∃ k,coppicerkeep_GrammarSets.f k a0_0 a0_1 a0_2 l0_3 a1_0 l1_1 = some true
theorem coppicerkeep_GrammarSets.walk (P : coppicerkeep_GrammarSets.Pure) (a0_0 : Int) (a0_1 : Int) (a0_2 : Int) (A0_3 : Option Addr) (l0_3 : List (S27)) (c0_3 : Nat) (a1_0 : Int) (A1_1 : Option Addr) (l1_1 : List Int) (c1_1 : Nat) (w : World) (w0_0 : (Lit.int .i64 a0_0).wf = true) (w0_1 : (Lit.int .i64 a0_1).wf = true) (w0_2 : (Lit.int .i64 a0_2).wf = true) (hr0_3 : Kd.C k27 w A0_3 l0_3.length l0_3) (hc0_3 : l0_3.length ≤ c0_3) (w0_3 : l0_3.length ≤ 9223372036854775807 ∧ l0_3.length * 32 ≤ 140737488351232 ∧ ∀ y_ ∈ l0_3,wf27 y_) (w1_0 : (Lit.int .i64 a1_0).wf = true) (hr1_1 : Kd.C (Kd.int .i64) w A1_1 l1_1.length l1_1) (hc1_1 : l1_1.length ≤ c1_1) (w1_1 : l1_1.length ≤ 9223372036854775807 ∧ l1_1.length * 8 ≤ 140737488351232 ∧ ∀ y_ ∈ l1_1,(Lit.int .i64 y_).wf = true) :
  Calls Try.prog 3 #[.agg #[.int .i64 a0_0,.int .i64 a0_1,.int .i64 a0_2,.slice A0_3 l0_3.length c0_3],.agg #[.int .i64 a1_0,.slice A1_1 l1_1.length c1_1]] w fun e w'=>e = .returned (.bool true) ∧ Below w.heap.size w w':=by
 obtain ⟨k,h⟩:=P a0_0 a0_1 a0_2 l0_3 a1_0 l1_1 w0_0 w0_1 w0_2 w0_3 w1_0 w1_1
 refine (coppicerkeep_GrammarSets.calls k _ _ _ _ _ _ _ _ _ _ _ _ true w (Kd.C_V k27_heap hr0_3 hc0_3) (Kd.C_V (Kd.heap_int .i64) hr1_1 hc1_1) h).mono ?_
 rintro e w' ⟨rfl,hd⟩
 exact ⟨rfl,hd⟩
end Go.Proofs.Ytnkackiocigdoaa.GA
