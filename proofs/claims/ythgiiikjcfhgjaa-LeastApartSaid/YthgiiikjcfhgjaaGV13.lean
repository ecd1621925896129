-- Written by ext.py, a program of this session.
import Derived.Test.YthgiiikjcfhgjaaGV0
namespace Go.Proofs.Ythgiiikjcfhgjaa.GV
open Go.RowKit Go.Proofs.YthgiiikjcfhgjaaW.PrintWords Go.Proofs.YthgiiikjcfhgjaaW.PrintLast Go.Proofs.YthgiiikjcfhgjaaW.PrintMore
attribute [local go_sem] max2_int min2_int max_two min_two max_three min_three max_four min_four cellIs_set   -- for this text's walks alone
set_option linter.unusedVariables false
set_option linter.unusedSimpArgs false
/-! ### coppicerref_WordCheck: function 36 -/
def coppicerref_WordCheck.l0 : Nat → Int → List Int → Int → Int → Option (Int)
 | 0,_,_,_,_=>none
 | k + 1,x0,x10,x11,x12=>if x12 < x11 then (if 0 ≤ x12 then (if x12 < (x10.length : Int) then (if (rd x10 x12) < 0 then (some 2) else (if (rd x10 x12) ≥ x0 then (some 2) else (coppicerref_WordCheck.l0 k x0 x10 x11 (wrap64 (x12 + 1))))) else (none)) else (none)) else (some 0)
def coppicerref_WordCheck.f (k : Nat) (a0 : Int) (l1 : List Int) : Option (Int):=if (l1.length : Int) > 12 then (some 1) else (coppicerref_WordCheck.l0 k a0 l1 (l1.length : Int) 0)
theorem coppicerref_WordCheck.mono_l : ∀ k,(∀ y0 y1 y2 y3,LeO (coppicerref_WordCheck.l0 k y0 y1 y2 y3) (coppicerref_WordCheck.l0 (k + 1) y0 y1 y2 y3))
 | 0=>fun _ _ _ _ r h=>by simp [coppicerref_WordCheck.l0] at h
 | k + 1=>by
  have ih0:=coppicerref_WordCheck.mono_l k
  ·intro y0 y1 y2 y3
   unfold coppicerref_WordCheck.l0
   repeat' first
   | (with_reducible exact ih0 _ _ _ _)
   | (with_reducible exact LeO.refl _)
   | (with_reducible exact LeO.none _)
   | (with_reducible refine LeO.ite ?_ ?_)
   | (with_reducible refine LeO.bind ?_ (fun _=>?_))
   | exact ih0 _ _ _ _
   | exact LeO.none _
   | refine LeO.ite ?_ ?_
   | refine LeO.bind ?_ (fun _=>?_)
theorem coppicerref_WordCheck.mono : ∀ a0 a1 k,LeO (coppicerref_WordCheck.f k a0 a1) (coppicerref_WordCheck.f (k + 1) a0 a1):=by
 intro a0 a1 k
 have ih0:=coppicerref_WordCheck.mono_l k
 unfold coppicerref_WordCheck.f
 repeat' first
   | (with_reducible exact ih0 _ _ _ _)
   | (with_reducible exact LeO.refl _)
   | (with_reducible exact LeO.none _)
   | (with_reducible refine LeO.ite ?_ ?_)
   | (with_reducible refine LeO.bind ?_ (fun _=>?_))
   | exact ih0 _ _ _ _
   | exact LeO.none _
   | refine LeO.ite ?_ ?_
   | refine LeO.bind ?_ (fun _=>?_)
set_option maxHeartbeats 8000000 in
set_option maxRecDepth 100000 in
theorem coppicerref_WordCheck.calls (k : Nat) (a0 : Int) (A1 : Option Addr) (c1 : Nat) (l1 : List Int) (r : Int) (w : World) (hr1 : Kd.C (Kd.int .i64) w A1 l1.length l1) (hc1 : l1.length ≤ c1) (h : coppicerref_WordCheck.f k a0 l1 = some r) :
  Calls Try.prog 36 #[.int .i64 a0,.slice A1 l1.length c1] w fun e w'=>e = .returned (.int .i64 r) ∧ Drawn0 w w':=by
 have HR1:=Aside0.mk hr1
 have HC1:=Aside0.mk hc1
 clear hr1 hc1
 have H : (if (l1.length : Int) > 12 then (some 1) else (coppicerref_WordCheck.l0 k a0 l1 (l1.length : Int) 0)) = some r:=h
 clear h
 by_cases c3 : (l1.length : Int) > 12
 ·rw [if_pos c3] at H
  have c3b0 : decide (12 < (l1.length : Int)) = true:=decide_eq_true c3
  have c3b1 : decide (12 < l1.length) = true:=decide_eq_true (by omega)
  clear c3
  obtain rfl:=Option.some.inj H
  go_enter Try.func36,Try.ntmps36
  go_wp2
  go_ret
  exact ⟨by first|rfl|(simp;done)|(simp [*];done),by repeat (first|exact Drawn0.refl _|apply Drawn0.step)⟩
 ·rw [if_neg c3] at H
  have c3b0 : decide (12 < (l1.length : Int)) = false:=decide_eq_false c3
  have c3b1 : decide (12 < l1.length) = false:=decide_eq_false (by omega)
  clear c3
  have H':=Aside0.mk H
  clear H
  go_enter Try.func36,Try.ntmps36
  go_wp2
  go_loopg [12] k (fun kq v12 w'=>∃ (x12_1 : Int),v12 = .int .i64 x12_1 ∧ Aside0 (coppicerref_WordCheck.l0 kq a0 l1 (l1.length : Int) x12_1 = some r) ∧ Aside0 (kq ≤ k) ∧ Drawn0 w w')
  case atStart=>exact ⟨(0),(by first|rfl|(simp;done)|(simp [*];done)),H',⟨Nat.le_refl _⟩,by repeat (first|exact Drawn0.refl _|apply Drawn0.step)⟩
  case round =>
   clear H'
   try clear c1
   try clear p2
   try clear c3
   try clear c3b0
   try clear c3b1
   obtain ⟨x12_1,rfl,HA,HK1,⟨m1,rfl⟩⟩:=hrel
   cases gk with
   | zero=>exact absurd HA.out (by simp [coppicerref_WordCheck.l0])
   | succ k1 =>
    have H:=HA.out
    clear HA
    simp only [coppicerref_WordCheck.l0] at H
    by_cases c4 : x12_1 < (l1.length : Int)
    ·rw [if_pos c4] at H
     have c4b0 : decide (x12_1 < (l1.length : Int)) = true:=decide_eq_true c4
     clear c4
     by_cases c5 : 0 ≤ x12_1
     ·rw [if_pos c5] at H
      have c5b0 : decide (0 ≤ x12_1) = true:=decide_eq_true c5
      clear c5
      by_cases c6 : x12_1 < (l1.length : Int)
      ·rw [if_pos c6] at H
       have c6b0 : decide (x12_1 < (l1.length : Int)) = true:=decide_eq_true c6
       clear c6
       by_cases c7 : (rd l1 x12_1) < 0
       ·rw [if_pos c7] at H
        have c7b0 : decide ((rd l1 x12_1) < 0) = true:=decide_eq_true c7
        clear c7
        obtain rfl:=Option.some.inj H
        have p215 : 0 ≤ (x12_1 : Int):=of_decide_eq_true (by first|(with_reducible assumption)|assumption)
        have q215 : x12_1 < (l1.length : Int):=of_decide_eq_true (by first|(with_reducible assumption)|assumption)
        obtain ⟨ad215,e215,hx215_0⟩:=Kd.at_int HR1.out x12_1 p215 q215
        cases e215
        replace p215:=eq_true p215
        replace q215:=eq_true q215
        go_wp2
        go_ret
        exact ⟨by first|rfl|(simp;done)|(simp [*];done),by repeat (first|exact Drawn0.refl _|apply Drawn0.step)⟩
       ·rw [if_neg c7] at H
        have c7b0 : decide ((rd l1 x12_1) < 0) = false:=decide_eq_false c7
        clear c7
        by_cases c8 : (rd l1 x12_1) ≥ a0
        ·rw [if_pos c8] at H
         have c8b0 : decide (a0 ≤ (rd l1 x12_1)) = true:=decide_eq_true c8
         clear c8
         obtain rfl:=Option.some.inj H
         have p215 : 0 ≤ (x12_1 : Int):=of_decide_eq_true (by first|(with_reducible assumption)|assumption)
         have q215 : x12_1 < (l1.length : Int):=of_decide_eq_true (by first|(with_reducible assumption)|assumption)
         obtain ⟨ad215,e215,hx215_0⟩:=Kd.at_int HR1.out x12_1 p215 q215
         cases e215
         replace p215:=eq_true p215
         replace q215:=eq_true q215
         go_wp2
         go_ret
         exact ⟨by first|rfl|(simp;done)|(simp [*];done),by repeat (first|exact Drawn0.refl _|apply Drawn0.step)⟩
        ·rw [if_neg c8] at H
         have c8b0 : decide (a0 ≤ (rd l1 x12_1)) = false:=decide_eq_false c8
         clear c8
         have H':=Aside0.mk H
         clear H
         have p215 : 0 ≤ (x12_1 : Int):=of_decide_eq_true (by first|(with_reducible assumption)|assumption)
         have q215 : x12_1 < (l1.length : Int):=of_decide_eq_true (by first|(with_reducible assumption)|assumption)
         obtain ⟨ad215,e215,hx215_0⟩:=Kd.at_int HR1.out x12_1 p215 q215
         cases e215
         replace p215:=eq_true p215
         replace q215:=eq_true q215
         go_wp2
         go_roundg k1
         case measure=>have:=HK1.out;omega
         case rel=>exact ⟨(wrap64 (x12_1 + 1)),(by first|rfl|(simp;done)|(simp [*];done)),H',⟨by have:=HK1.out;omega⟩,by repeat (first|exact Drawn0.refl _|apply Drawn0.step)⟩
      ·rw [if_neg c6] at H
       exact absurd H (by simp)
     ·rw [if_neg c5] at H
      exact absurd H (by simp)
    ·rw [if_neg c4] at H
     have c4b0 : decide (x12_1 < (l1.length : Int)) = false:=decide_eq_false c4
     clear c4
     obtain rfl:=Option.some.inj H
     go_wp2
     go_ret
     exact ⟨by first|rfl|(simp;done)|(simp [*];done),by repeat (first|exact Drawn0.refl _|apply Drawn0.step)⟩
/-! ### coppicerref_Bit: function 84 -/
def coppicerref_Bit.f (a0 : Int) (a1 : Int) : Option (Bool):=if a1 ≥ 0 then (if a1 < 32 then (if 0 ≤ (IntKind.u64.wrap (a1)) then (some ((Go.bits .and .u32 a0 (shl .u32 1 (IntKind.u64.wrap (a1)))) != 0)) else (none)) else (some false)) else (some false)
set_option maxHeartbeats 8000000 in
set_option maxRecDepth 100000 in
theorem coppicerref_Bit.calls (a0 : Int) (a1 : Int) (r : Bool) (w : World) (h : coppicerref_Bit.f a0 a1 = some r) :
  Calls Try.prog 84 #[.int .u32 a0,.int .i64 a1] w fun e w'=>e = .returned (.bool r) ∧ Drawn0 w w':=by
 have H : (if a1 ≥ 0 then (if a1 < 32 then (if 0 ≤ (IntKind.u64.wrap (a1)) then (some ((Go.bits .and .u32 a0 (shl .u32 1 (IntKind.u64.wrap (a1)))) != 0)) else (none)) else (some false)) else (some false)) = some r:=h
 clear h
 by_cases c3 : a1 ≥ 0
 ·rw [if_pos c3] at H
  have c3b0 : decide (0 ≤ a1) = true:=decide_eq_true c3
  clear c3
  by_cases c4 : a1 < 32
  ·rw [if_pos c4] at H
   have c4b0 : decide (a1 < 32) = true:=decide_eq_true c4
   clear c4
   obtain ⟨ji5,hji5⟩ : ∃ j_ : Int,(IntKind.u64.wrap (a1)) = j_:=⟨_,rfl⟩
   replace H : (if 0 ≤ (ji5) then (some ((Go.bits .and .u32 a0 (shl .u32 1 (ji5))) != 0)) else (none)) = some r:=by first|(rw [hji5] at H;exact H)|(simp only [hji5] at H ⊢;exact H)
   by_cases c6 : 0 ≤ (ji5)
   ·rw [if_pos c6] at H
    have c6b0:=eq_true c6
    have c6b1 : decide (0 ≤ (ji5)) = true:=decide_eq_true c6
    clear c6
    obtain ⟨ji7,hji7⟩ : ∃ j_ : Int,(shl .u32 1 (ji5)) = j_:=⟨_,rfl⟩
    replace H : (some ((Go.bits .and .u32 a0 (ji7)) != 0)) = some r:=by first|(rw [hji7] at H;exact H)|(simp only [hji7] at H ⊢;exact H)
    have hji7_ : (IntKind.u32.wrap (1 * 2 ^ min (ji5).toNat 32)) = ji7:=hji7
    have hji7z : (ji5) ≤ 32 → (IntKind.u32.wrap (1 * 2 ^ (ji5).toNat)) = ji7:=shl_small hji7
    have hji7u : (IntKind.u32.wrap (2 ^ min (ji5).toNat 32)) = ji7:=by have h_:=hji7_;rw [Int.one_mul] at h_;exact h_
    have hji7v : (ji5) ≤ 32 → (IntKind.u32.wrap (2 ^ (ji5).toNat)) = ji7:=fun hle_=>by have h_:=hji7z hle_;rw [Int.one_mul] at h_;exact h_
    obtain rfl:=Option.some.inj H
    go_enter Try.func84,Try.ntmps84
    go_wp2
    go_ret
    exact ⟨by first|rfl|(simp;done)|(simp only [← hji5,← hji7] <;> (first|rfl|simp))|(simp [*];done),by repeat (first|exact Drawn0.refl _|apply Drawn0.step)⟩
   ·rw [if_neg c6] at H
    exact absurd H (by simp)
  ·rw [if_neg c4] at H
   have c4b0 : decide (a1 < 32) = false:=decide_eq_false c4
   clear c4
   obtain rfl:=Option.some.inj H
   go_enter Try.func84,Try.ntmps84
   go_wp2
   go_ret
   exact ⟨by first|rfl|(simp;done)|(simp [*];done),by repeat (first|exact Drawn0.refl _|apply Drawn0.step)⟩
 ·rw [if_neg c3] at H
  have c3b0 : decide (0 ≤ a1) = false:=decide_eq_false c3
  clear c3
  obtain rfl:=Option.some.inj H
  go_enter Try.func84,Try.ntmps84
  go_wp2
  go_ret
  exact ⟨by first|rfl|(simp;done)|(simp [*];done),by repeat (first|exact Drawn0.refl _|apply Drawn0.step)⟩
/-! ### coppicerref_Leads: function 85 -/
def coppicerref_Leads.l0 : Nat → Int → List Int → Int → Int → Int → Int → List (List Int) → Int → Int → Option (Int)
 | 0,_,_,_,_,_,_,_,_,_=>none
 | k + 1,x1,x9,x10,x11,x217000,x217001,x217002,x217003,x217004=>if x11 < x10 then (if 0 ≤ x11 then (if x11 < (x9.length : Int) then (if 0 ≤ x1 then (if x1 < (x217002.length : Int) then (if 0 ≤ (rd x9 x11) then (if (rd x9 x11) < ((rd_L1 x217002 x1).length : Int) then (coppicerref_Leads.l0 k (rd (rd_L1 x217002 x1) (rd x9 x11)) x9 x10 (wrap64 (x11 + 1)) x217000 x217001 x217002 x217003 x217004) else (none)) else (none)) else (none)) else (none)) else (none)) else (none)) else (some x1)
def coppicerref_Leads.f (k : Nat) (a0_0 : Int) (a0_1 : Int) (l0_2 : List (List Int)) (a0_3 : Int) (a0_4 : Int) (a1 : Int) (l2 : List Int) : Option (Int):=coppicerref_Leads.l0 k a1 l2 (l2.length : Int) 0 a0_0 a0_1 l0_2 a0_3 a0_4
theorem coppicerref_Leads.mono_l : ∀ k,(∀ y0 y1 y2 y3 y4 y5 y6 y7 y8,LeO (coppicerref_Leads.l0 k y0 y1 y2 y3 y4 y5 y6 y7 y8) (coppicerref_Leads.l0 (k + 1) y0 y1 y2 y3 y4 y5 y6 y7 y8))
 | 0=>fun _ _ _ _ _ _ _ _ _ r h=>by simp [coppicerref_Leads.l0] at h
 | k + 1=>by
  have ih0:=coppicerref_Leads.mono_l k
  ·intro y0 y1 y2 y3 y4 y5 y6 y7 y8
   unfold coppicerref_Leads.l0
   repeat' first
   | (with_reducible exact ih0 _ _ _ _ _ _ _ _ _)
   | (with_reducible exact LeO.refl _)
   | (with_reducible exact LeO.none _)
   | (with_reducible refine LeO.ite ?_ ?_)
   | (with_reducible refine LeO.bind ?_ (fun _=>?_))
   | exact ih0 _ _ _ _ _ _ _ _ _
   | exact LeO.none _
   | refine LeO.ite ?_ ?_
   | refine LeO.bind ?_ (fun _=>?_)
theorem coppicerref_Leads.mono : ∀ a0 a1 a2 a3 a4 a5 a6 k,LeO (coppicerref_Leads.f k a0 a1 a2 a3 a4 a5 a6) (coppicerref_Leads.f (k + 1) a0 a1 a2 a3 a4 a5 a6):=by
 intro a0 a1 a2 a3 a4 a5 a6 k
 have ih0:=coppicerref_Leads.mono_l k
 unfold coppicerref_Leads.f
 repeat' first
   | (with_reducible exact ih0 _ _ _ _ _ _ _ _ _)
   | (with_reducible exact LeO.refl _)
   | (with_reducible exact LeO.none _)
   | (with_reducible refine LeO.ite ?_ ?_)
   | (with_reducible refine LeO.bind ?_ (fun _=>?_))
   | exact ih0 _ _ _ _ _ _ _ _ _
   | exact LeO.none _
   | refine LeO.ite ?_ ?_
   | refine LeO.bind ?_ (fun _=>?_)
set_option maxHeartbeats 8000000 in
set_option maxRecDepth 100000 in
theorem coppicerref_Leads.calls (k : Nat) (a0_0 : Int) (a0_1 : Int) (A0_2 : Option Addr) (c0_2 : Nat) (l0_2 : List (List Int)) (a0_3 : Int) (a0_4 : Int) (a1 : Int) (A2 : Option Addr) (c2 : Nat) (l2 : List Int) (r : Int) (w : World) (hr0_2 : Kd.C (Kd.slice 3 (Kd.int .i64)) w A0_2 l0_2.length l0_2) (hc0_2 : l0_2.length ≤ c0_2) (hr2 : Kd.C (Kd.int .i64) w A2 l2.length l2) (hc2 : l2.length ≤ c2) (h : coppicerref_Leads.f k a0_0 a0_1 l0_2 a0_3 a0_4 a1 l2 = some r) :
  Calls Try.prog 85 #[.agg #[.int .i64 a0_0,.int .i64 a0_1,.slice A0_2 l0_2.length c0_2,.int .i64 a0_3,.int .u32 a0_4],.int .i64 a1,.slice A2 l2.length c2] w fun e w'=>e = .returned (.int .i64 r) ∧ Below w.heap.size w w':=by
 have hu63:=Try.underlying63
 have HR0_2:=Aside0.mk hr0_2
 have HC0_2:=Aside0.mk hc0_2
 clear hr0_2 hc0_2
 have HR2:=Aside0.mk hr2
 have HC2:=Aside0.mk hc2
 clear hr2 hc2
 have HB:=Aside0.mk (Below.refl w.heap.size w)
 have H : (coppicerref_Leads.l0 k a1 l2 (l2.length : Int) 0 a0_0 a0_1 l0_2 a0_3 a0_4) = some r:=h
 clear h
 have H':=Aside0.mk H
 clear H
 go_enter Try.func85,Try.ntmps85
 go_wp2_with (first|((with_reducible refine gate_dst (N:=3) rfl ?_);refine box_event ?hg (N:=3) ?hd (cs:=#[.int .i64 a0_0,.int .i64 a0_1,.slice A0_2 l0_2.length c0_2,.int .i64 a0_3,.int .u32 a0_4]) (t:=63) ?hr ?_;(case hd=>rfl);(case hg=>rfl);(case hr=>first|(go_simp;done)|(go_simp;rfl));intro gb216 hg w4 hbox hb;have n0_:=Aside0.mk (below_step (by repeat (first|(with_reducible first|exact HB.out|apply below_alloc|apply pw_below_drewN|apply below_drew1)|exact HB.out)) hb);have n1_:=Aside0.mk (hbox);have n2_:=Aside0.mk ((by rw [hg];exact (below_size (by repeat (first|(with_reducible first|exact HB.out|apply below_alloc|apply pw_below_drewN|apply below_drew1)|exact HB.out))) : w.heap.size ≤ gb216));have n3_:=Aside0.mk ((by rw [hg];exact (below_size (by repeat (first|(with_reducible first|exact HB.out|apply below_alloc|apply pw_below_drewN|apply below_drew1)|exact HB.out))) : w.heap.size ≤ gb216));clear HB;have HB:=n0_;have BK216:=n1_;have GW216:=n2_;have GE216:=n3_;clear n0_ n1_ n2_ n3_;clear hb hbox hg))
 go_loopg [1,11] k (fun kq v1 v11 w'=>∃ (x1_1 : Int) (x11_1 : Int),v1 = .int .i64 x1_1 ∧ v11 = .int .i64 x11_1 ∧ Aside0 (coppicerref_Leads.l0 kq x1_1 l2 (l2.length : Int) x11_1 a0_0 a0_1 l0_2 a0_3 a0_4 = some r) ∧ Aside0 (kq ≤ k) ∧ Aside0 (w'.heap[gb216]? = some (.cells #[.int .i64 a0_0,.int .i64 a0_1,(.slice A0_2 l0_2.length c0_2),.int .i64 a0_3,.int .u32 a0_4] 63 (0,0))) ∧ Aside0 (Below w.heap.size w w'))
 case atStart=>exact ⟨(a1),(0),(by first|rfl|(simp;done)|(simp [*];done)),(by first|rfl|(simp;done)|(simp [*];done)),H',⟨Nat.le_refl _⟩,⟨by (with_reducible repeat (first|refine blk_drewN ?_ _|refine blk_drew ?_|refine blk_alloc ?_ _));exact BK216.out⟩,⟨by repeat (first|(with_reducible first|exact HB.out|apply below_alloc|apply pw_below_drewN|apply below_drew1|refine below_set ?_ GE216.out)|exact HB.out)⟩⟩
 case round =>
  clear H'
  try clear c2
  try clear p2
  obtain ⟨x1_1,x11_1,rfl,rfl,HA,HK1,BK216,HB⟩:=hrel
  cases gk with
  | zero=>exact absurd HA.out (by simp [coppicerref_Leads.l0])
  | succ k1 =>
   have H:=HA.out
   clear HA
   simp only [coppicerref_Leads.l0] at H
   by_cases c5 : x11_1 < (l2.length : Int)
   ·rw [if_pos c5] at H
    have c5b0 : decide (x11_1 < (l2.length : Int)) = true:=decide_eq_true c5
    clear c5
    by_cases c6 : 0 ≤ x11_1
    ·rw [if_pos c6] at H
     have c6b0 : decide (0 ≤ x11_1) = true:=decide_eq_true c6
     clear c6
     by_cases c7 : x11_1 < (l2.length : Int)
     ·rw [if_pos c7] at H
      have c7b0 : decide (x11_1 < (l2.length : Int)) = true:=decide_eq_true c7
      clear c7
      by_cases c8 : 0 ≤ x1_1
      ·rw [if_pos c8] at H
       have c8b0 : decide (0 ≤ x1_1) = true:=decide_eq_true c8
       clear c8
       by_cases c9 : x1_1 < (l0_2.length : Int)
       ·rw [if_pos c9] at H
        have c9b0 : decide (x1_1 < (l0_2.length : Int)) = true:=decide_eq_true c9
        clear c9
        by_cases c10 : 0 ≤ (rd l2 x11_1)
        ·rw [if_pos c10] at H
         have c10b0 : decide (0 ≤ (rd l2 x11_1)) = true:=decide_eq_true c10
         clear c10
         by_cases c11 : (rd l2 x11_1) < ((rd_L1 l0_2 x1_1).length : Int)
         ·rw [if_pos c11] at H
          have c11b0 : decide ((rd l2 x11_1) < ((rd_L1 l0_2 x1_1).length : Int)) = true:=decide_eq_true c11
          clear c11
          have H':=Aside0.mk H
          clear H
          have p217 : 0 ≤ (x11_1 : Int):=of_decide_eq_true (by first|(with_reducible assumption)|assumption)
          have q217 : x11_1 < (l2.length : Int):=of_decide_eq_true (by first|(with_reducible assumption)|assumption)
          obtain ⟨ad217,e217,hx217_0⟩:=Kd.at_int HR2.out x11_1 p217 q217
          cases e217
          replace hx217_0:=(HB.out.cell (World.block_lt_of_cell? w _ hx217_0)).trans hx217_0
          replace p217:=eq_true p217
          replace q217:=eq_true q217
          have hcz12_0 : wr.cell? ⟨gb216,0,none⟩ = some (.int .i64 a0_0):=(blk_cell BK216.out 0).trans rfl
          have hcz12_1 : wr.cell? ⟨gb216,1,none⟩ = some (.int .i64 a0_1):=(blk_cell BK216.out 1).trans rfl
          have hcz12_2 : wr.cell? ⟨gb216,2,none⟩ = some (.slice A0_2 l0_2.length c0_2):=(blk_cell BK216.out 2).trans rfl
          have hcz12_3 : wr.cell? ⟨gb216,3,none⟩ = some (.int .i64 a0_3):=(blk_cell BK216.out 3).trans rfl
          have hcz12_4 : wr.cell? ⟨gb216,4,none⟩ = some (.int .u32 a0_4):=(blk_cell BK216.out 4).trans rfl
          have hfz12_0:=blk_frozen BK216.out 0
          have hfz12_1:=blk_frozen BK216.out 1
          have hfz12_2:=blk_frozen BK216.out 2
          have hfz12_3:=blk_frozen BK216.out 3
          have hfz12_4:=blk_frozen BK216.out 4
          have p218 : 0 ≤ (x1_1 : Int):=of_decide_eq_true (by first|(with_reducible assumption)|assumption)
          have q218 : x1_1 < (l0_2.length : Int):=of_decide_eq_true (by first|(with_reducible assumption)|assumption)
          obtain ⟨ad218,A218_0,c218_0,e218,hx218_0,hl218_0,hi218_0⟩:=at_L1 HR0_2.out x1_1 p218 q218
          cases e218
          replace hx218_0:=(HB.out.cell (World.block_lt_of_cell? w _ hx218_0)).trans hx218_0
          have HR218_0:=Aside0.mk hi218_0
          have HC218_0:=Aside0.mk hl218_0
          clear hi218_0 hl218_0
          replace p218:=eq_true p218
          replace q218:=eq_true q218
          have p219 : 0 ≤ ((rd l2 x11_1) : Int):=of_decide_eq_true (by first|(with_reducible assumption)|assumption)
          have q219 : (rd l2 x11_1) < ((rd_L1 l0_2 x1_1).length : Int):=of_decide_eq_true (by first|(with_reducible assumption)|assumption)
          obtain ⟨ad219,e219,hx219_0⟩:=Kd.at_int HR218_0.out (rd l2 x11_1) p219 q219
          cases e219
          replace hx219_0:=(HB.out.cell (World.block_lt_of_cell? w _ hx219_0)).trans hx219_0
          replace p219:=eq_true p219
          replace q219:=eq_true q219
          go_wp2
          go_roundg k1
          case measure=>have:=HK1.out;omega
          case rel=>exact ⟨(rd (rd_L1 l0_2 x1_1) (rd l2 x11_1)),(wrap64 (x11_1 + 1)),(by first|rfl|(simp;done)|(simp [*];done)),(by first|rfl|(simp;done)|(simp [*];done)),H',⟨by have:=HK1.out;omega⟩,⟨by (with_reducible repeat (first|refine blk_drewN ?_ _|refine blk_drew ?_|refine blk_alloc ?_ _));exact BK216.out⟩,⟨by repeat (first|(with_reducible first|exact HB.out|apply below_alloc|apply pw_below_drewN|apply below_drew1|refine below_set ?_ GE216.out)|exact HB.out)⟩⟩
         ·rw [if_neg c11] at H
          exact absurd H (by simp)
        ·rw [if_neg c10] at H
         exact absurd H (by simp)
       ·rw [if_neg c9] at H
        exact absurd H (by simp)
      ·rw [if_neg c8] at H
       exact absurd H (by simp)
     ·rw [if_neg c7] at H
      exact absurd H (by simp)
    ·rw [if_neg c6] at H
     exact absurd H (by simp)
   ·rw [if_neg c5] at H
    have c5b0 : decide (x11_1 < (l2.length : Int)) = false:=decide_eq_false c5
    clear c5
    obtain rfl:=Option.some.inj H
    go_wp2
    go_ret
    exact ⟨by first|rfl|(simp [errW_none,errW_some] <;> rfl)|(simp [*,errW_none,errW_some] <;> rfl),by repeat (first|(with_reducible first|exact HB.out|apply below_alloc|apply pw_below_drewN|apply below_drew1|refine below_set ?_ GE216.out)|exact HB.out)⟩
end Go.Proofs.Ythgiiikjcfhgjaa.GV
