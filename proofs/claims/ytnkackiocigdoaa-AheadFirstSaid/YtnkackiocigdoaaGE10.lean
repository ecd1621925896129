-- Written by ext.py, a program of this session.
import Derived.Test.YtnkackiocigdoaaGE0
namespace Go.Proofs.Ytnkackiocigdoaa.GE
open Go.RowKit Go.Proofs.YtnkackiocigdoaaW.PrintWords Go.Proofs.YtnkackiocigdoaaW.PrintLast Go.Proofs.YtnkackiocigdoaaW.PrintMore
attribute [local go_sem] max2_int min2_int max_two min_two max_three min_three max_four min_four cellIs_set   -- for this text's walks alone
set_option linter.unusedVariables false
set_option linter.unusedSimpArgs false
/-! ### ahead_begin: function 83 -/
def ahead_begin.l0 : Nat → List Int → Int → Int → List Int → Int → Int → Int → Int → Int → List (S27) → Option (Int × Bool)
 | 0,_,_,_,_,_,_,_,_,_,_=>none
 | k + 1,x1,x2,x10,x13,x14,x15,x170000,x170001,x170002,x170003=>if x15 < x14 then (if 0 ≤ x15 then (if x15 < (x13.length : Int) then (if (rd x13 x15) < x170000 then (if 0 ≤ (rd x13 x15) then (some (Go.bits .or .u32 x10 (shl .u32 1 (rd x13 x15)),false)) else (none)) else (if 0 ≤ (wrap64 ((rd x13 x15) - x170000)) then (if (wrap64 ((rd x13 x15) - x170000)) < (x1.length : Int) then (if (Go.bits .and .u32 (shr .u32 x2 (wrap64 ((rd x13 x15) - x170000))) 1) = 0 then (some (Go.bits .or .u32 x10 (rd x1 (wrap64 ((rd x13 x15) - x170000))),false)) else (ahead_begin.l0 k x1 x2 (Go.bits .or .u32 x10 (rd x1 (wrap64 ((rd x13 x15) - x170000)))) x13 x14 (wrap64 (x15 + 1)) x170000 x170001 x170002 x170003)) else (none)) else (none))) else (none)) else (none)) else (some (x10,true))
def ahead_begin.f (k : Nat) (a0_0 : Int) (a0_1 : Int) (a0_2 : Int) (l0_3 : List (S27)) (l1 : List Int) (a2 : Int) (l3 : List Int) : Option (Int × Bool):=ahead_begin.l0 k l1 a2 0 l3 (l3.length : Int) 0 a0_0 a0_1 a0_2 l0_3
theorem ahead_begin.mono_l : ∀ k,(∀ y0 y1 y2 y3 y4 y5 y6 y7 y8 y9,LeO (ahead_begin.l0 k y0 y1 y2 y3 y4 y5 y6 y7 y8 y9) (ahead_begin.l0 (k + 1) y0 y1 y2 y3 y4 y5 y6 y7 y8 y9))
 | 0=>fun _ _ _ _ _ _ _ _ _ _ r h=>by simp [ahead_begin.l0] at h
 | k + 1=>by
  have ih0:=ahead_begin.mono_l k
  ·intro y0 y1 y2 y3 y4 y5 y6 y7 y8 y9
   unfold ahead_begin.l0
   repeat' first
   | (with_reducible exact ih0 _ _ _ _ _ _ _ _ _ _)
   | (with_reducible exact LeO.refl _)
   | (with_reducible exact LeO.none _)
   | (with_reducible refine LeO.ite ?_ ?_)
   | (with_reducible refine LeO.bind ?_ (fun _=>?_))
   | exact ih0 _ _ _ _ _ _ _ _ _ _
   | exact LeO.none _
   | refine LeO.ite ?_ ?_
   | refine LeO.bind ?_ (fun _=>?_)
theorem ahead_begin.mono : ∀ a0 a1 a2 a3 a4 a5 a6 k,LeO (ahead_begin.f k a0 a1 a2 a3 a4 a5 a6) (ahead_begin.f (k + 1) a0 a1 a2 a3 a4 a5 a6):=by
 intro a0 a1 a2 a3 a4 a5 a6 k
 have ih0:=ahead_begin.mono_l k
 unfold ahead_begin.f
 repeat' first
   | (with_reducible exact ih0 _ _ _ _ _ _ _ _ _ _)
   | (with_reducible exact LeO.refl _)
   | (with_reducible exact LeO.none _)
   | (with_reducible refine LeO.ite ?_ ?_)
   | (with_reducible refine LeO.bind ?_ (fun _=>?_))
   | exact ih0 _ _ _ _ _ _ _ _ _ _
   | exact LeO.none _
   | refine LeO.ite ?_ ?_
   | refine LeO.bind ?_ (fun _=>?_)
set_option maxHeartbeats 8000000 in
set_option maxRecDepth 100000 in
theorem ahead_begin.calls (k : Nat) (a0_0 : Int) (a0_1 : Int) (a0_2 : Int) (A0_3 : Option Addr) (c0_3 : Nat) (l0_3 : List (S27)) (A1 : Option Addr) (c1 : Nat) (l1 : List Int) (a2 : Int) (A3 : Option Addr) (c3 : Nat) (l3 : List Int) (r1 : Int) (r2 : Bool) (w : World) (hr0_3 : Kd.C k27 w A0_3 l0_3.length l0_3) (hc0_3 : l0_3.length ≤ c0_3) (hr1 : Kd.C (Kd.int .u32) w A1 l1.length l1) (hc1 : l1.length ≤ c1) (hr3 : Kd.C (Kd.int .i64) w A3 l3.length l3) (hc3 : l3.length ≤ c3) (h : ahead_begin.f k a0_0 a0_1 a0_2 l0_3 l1 a2 l3 = some (r1,r2)) :
  Calls Try.prog 83 #[.agg #[.int .i64 a0_0,.int .i64 a0_1,.int .i64 a0_2,.slice A0_3 l0_3.length c0_3],.slice A1 l1.length c1,.int .u32 a2,.slice A3 l3.length c3] w fun e w'=>e = .returned (.tuple #[.int .u32 r1,.bool r2]) ∧ Below w.heap.size w w':=by
 have hu24:=Try.underlying24
 have HR0_3:=Aside0.mk hr0_3
 have HC0_3:=Aside0.mk hc0_3
 clear hr0_3 hc0_3
 have HR1:=Aside0.mk hr1
 have HC1:=Aside0.mk hc1
 clear hr1 hc1
 have HR3:=Aside0.mk hr3
 have HC3:=Aside0.mk hc3
 clear hr3 hc3
 have HB:=Aside0.mk (Below.refl w.heap.size w)
 have H : (ahead_begin.l0 k l1 a2 0 l3 (l3.length : Int) 0 a0_0 a0_1 a0_2 l0_3) = some (r1,r2):=h
 clear h
 have H':=Aside0.mk H
 clear H
 go_enter Try.func83,Try.ntmps83
 go_wp2_with (first|((with_reducible refine gate_dst (N:=4) rfl ?_);refine box_event ?hg (N:=4) ?hd (cs:=#[.int .i64 a0_0,.int .i64 a0_1,.int .i64 a0_2,.slice A0_3 l0_3.length c0_3]) (t:=24) ?hr ?_;(case hd=>rfl);(case hg=>rfl);(case hr=>first|(go_simp;done)|(go_simp;rfl));intro gb169 hg w5 hbox hb;have n0_:=Aside0.mk (below_step (by repeat (first|(with_reducible first|exact HB.out|apply below_alloc|apply pw_below_drewN|apply below_drew1)|exact HB.out)) hb);have n1_:=Aside0.mk (hbox);have n2_:=Aside0.mk ((by rw [hg];exact (below_size (by repeat (first|(with_reducible first|exact HB.out|apply below_alloc|apply pw_below_drewN|apply below_drew1)|exact HB.out))) : w.heap.size ≤ gb169));have n3_:=Aside0.mk ((by rw [hg];exact (below_size (by repeat (first|(with_reducible first|exact HB.out|apply below_alloc|apply pw_below_drewN|apply below_drew1)|exact HB.out))) : w.heap.size ≤ gb169));clear HB;have HB:=n0_;have BK169:=n1_;have GW169:=n2_;have GE169:=n3_;clear n0_ n1_ n2_ n3_;clear hb hbox hg))
 go_loopg [10,15] k (fun kq v10 v15 w'=>∃ (x10_1 : Int) (x15_1 : Int),v10 = .int .u32 x10_1 ∧ v15 = .int .i64 x15_1 ∧ Aside0 (ahead_begin.l0 kq l1 a2 x10_1 l3 (l3.length : Int) x15_1 a0_0 a0_1 a0_2 l0_3 = some (r1,r2)) ∧ Aside0 (kq ≤ k) ∧ Aside0 (w'.heap[gb169]? = some (.cells #[.int .i64 a0_0,.int .i64 a0_1,.int .i64 a0_2,(.slice A0_3 l0_3.length c0_3)] 24 (0,0))) ∧ Aside0 (Below w.heap.size w w'))
 case atStart=>exact ⟨(0),(0),(by first|rfl|(simp;done)|(simp [*];done)),(by first|rfl|(simp;done)|(simp [*];done)),H',⟨Nat.le_refl _⟩,⟨by (with_reducible repeat (first|refine blk_drewN ?_ _|refine blk_drew ?_|refine blk_alloc ?_ _));exact BK169.out⟩,⟨by repeat (first|(with_reducible first|exact HB.out|apply below_alloc|apply pw_below_drewN|apply below_drew1|refine below_set ?_ GE169.out)|exact HB.out)⟩⟩
 case round =>
  clear H'
  try clear c1
  try clear p2
  try clear c3
  obtain ⟨x10_1,x15_1,rfl,rfl,HA,HK1,BK169,HB⟩:=hrel
  cases gk with
  | zero=>exact absurd HA.out (by simp [ahead_begin.l0])
  | succ k1 =>
   have H:=HA.out
   clear HA
   simp only [ahead_begin.l0] at H
   by_cases c6 : x15_1 < (l3.length : Int)
   ·rw [if_pos c6] at H
    have c6b0 : decide (x15_1 < (l3.length : Int)) = true:=decide_eq_true c6
    clear c6
    by_cases c7 : 0 ≤ x15_1
    ·rw [if_pos c7] at H
     have c7b0 : decide (0 ≤ x15_1) = true:=decide_eq_true c7
     clear c7
     by_cases c8 : x15_1 < (l3.length : Int)
     ·rw [if_pos c8] at H
      have c8b0 : decide (x15_1 < (l3.length : Int)) = true:=decide_eq_true c8
      clear c8
      by_cases c9 : (rd l3 x15_1) < a0_0
      ·rw [if_pos c9] at H
       have c9b0 : decide ((rd l3 x15_1) < a0_0) = true:=decide_eq_true c9
       clear c9
       by_cases c10 : 0 ≤ (rd l3 x15_1)
       ·rw [if_pos c10] at H
        have c10b0:=eq_true c10
        have c10b1 : decide (0 ≤ (rd l3 x15_1)) = true:=decide_eq_true c10
        clear c10
        obtain ⟨ji11,hji11⟩ : ∃ j_ : Int,(shl .u32 1 (rd l3 x15_1)) = j_:=⟨_,rfl⟩
        replace H : (some (Go.bits .or .u32 x10_1 (ji11),false)) = some (r1,r2):=by first|(rw [hji11] at H;exact H)|(simp only [hji11] at H ⊢;exact H)
        have hji11_ : (IntKind.u32.wrap (1 * 2 ^ min (rd l3 x15_1).toNat 32)) = ji11:=hji11
        have hji11z : (rd l3 x15_1) ≤ 32 → (IntKind.u32.wrap (1 * 2 ^ (rd l3 x15_1).toNat)) = ji11:=shl_small hji11
        have hji11u : (IntKind.u32.wrap (2 ^ min (rd l3 x15_1).toNat 32)) = ji11:=by have h_:=hji11_;rw [Int.one_mul] at h_;exact h_
        have hji11v : (rd l3 x15_1) ≤ 32 → (IntKind.u32.wrap (2 ^ (rd l3 x15_1).toNat)) = ji11:=fun hle_=>by have h_:=hji11z hle_;rw [Int.one_mul] at h_;exact h_
        simp only [Option.some.injEq,Prod.mk.injEq] at H
        obtain ⟨rfl,rfl⟩:=H
        have p170 : 0 ≤ (x15_1 : Int):=of_decide_eq_true (by first|(with_reducible assumption)|assumption)
        have q170 : x15_1 < (l3.length : Int):=of_decide_eq_true (by first|(with_reducible assumption)|assumption)
        obtain ⟨ad170,e170,hx170_0⟩:=Kd.at_int HR3.out x15_1 p170 q170
        cases e170
        replace hx170_0:=(HB.out.cell (World.block_lt_of_cell? w _ hx170_0)).trans hx170_0
        replace p170:=eq_true p170
        replace q170:=eq_true q170
        have hcz12_0 : wr.cell? ⟨gb169,0,none⟩ = some (.int .i64 a0_0):=(blk_cell BK169.out 0).trans rfl
        have hcz12_1 : wr.cell? ⟨gb169,1,none⟩ = some (.int .i64 a0_1):=(blk_cell BK169.out 1).trans rfl
        have hcz12_2 : wr.cell? ⟨gb169,2,none⟩ = some (.int .i64 a0_2):=(blk_cell BK169.out 2).trans rfl
        have hcz12_3 : wr.cell? ⟨gb169,3,none⟩ = some (.slice A0_3 l0_3.length c0_3):=(blk_cell BK169.out 3).trans rfl
        have hfz12_0:=blk_frozen BK169.out 0
        have hfz12_1:=blk_frozen BK169.out 1
        have hfz12_2:=blk_frozen BK169.out 2
        have hfz12_3:=blk_frozen BK169.out 3
        go_wp2
        go_ret2
        exact ⟨by first|rfl|(simp [errW_none,errW_some] <;> rfl)|(simp only [← hji11];first|rfl|(simp [errW_none,errW_some] <;> rfl))|(simp [*,errW_none,errW_some] <;> rfl),by repeat (first|(with_reducible first|exact HB.out|apply below_alloc|apply pw_below_drewN|apply below_drew1|refine below_set ?_ GE169.out)|exact HB.out)⟩
       ·rw [if_neg c10] at H
        exact absurd H (by simp)
      ·rw [if_neg c9] at H
       have c9b0 : decide ((rd l3 x15_1) < a0_0) = false:=decide_eq_false c9
       clear c9
       obtain ⟨ji13,hji13⟩ : ∃ j_ : Int,(wrap64 ((rd l3 x15_1) - a0_0)) = j_:=⟨_,rfl⟩
       replace H : (if 0 ≤ (ji13) then (if (ji13) < (l1.length : Int) then (if (Go.bits .and .u32 (shr .u32 a2 (ji13)) 1) = 0 then (some (Go.bits .or .u32 x10_1 (rd l1 (ji13)),false)) else (ahead_begin.l0 k1 l1 a2 (Go.bits .or .u32 x10_1 (rd l1 (ji13))) l3 (l3.length : Int) (wrap64 (x15_1 + 1)) a0_0 a0_1 a0_2 l0_3)) else (none)) else (none)) = some (r1,r2):=by first|(rw [hji13] at H;exact H)|(simp only [hji13] at H ⊢;exact H)
       have hji13w : (IntKind.i64.wrap ((rd l3 x15_1) - a0_0)) = ji13:=(i64_w _).trans hji13
       by_cases c14 : 0 ≤ (ji13)
       ·rw [if_pos c14] at H
        have c14b0 : decide (0 ≤ (ji13)) = true:=decide_eq_true c14
        clear c14
        by_cases c15 : (ji13) < (l1.length : Int)
        ·rw [if_pos c15] at H
         have c15b0 : decide ((ji13) < (l1.length : Int)) = true:=decide_eq_true c15
         clear c15
         have c16b0:=eq_true (of_decide_eq_true (by first|(with_reducible assumption)|assumption) : 0 ≤ (ji13))
         obtain ⟨ji17,hji17⟩ : ∃ j_ : Int,(shr .u32 a2 (ji13)) = j_:=⟨_,rfl⟩
         replace H : (if (Go.bits .and .u32 (ji17) 1) = 0 then (some (Go.bits .or .u32 x10_1 (rd l1 (ji13)),false)) else (ahead_begin.l0 k1 l1 a2 (Go.bits .or .u32 x10_1 (rd l1 (ji13))) l3 (l3.length : Int) (wrap64 (x15_1 + 1)) a0_0 a0_1 a0_2 l0_3)) = some (r1,r2):=by first|(rw [hji17] at H;exact H)|(simp only [hji17] at H ⊢;exact H)
         have hji17_ : (a2 / 2 ^ min (ji13).toNat 32) = ji17:=hji17
         have hji17z : (ji13) ≤ 32 → (a2 / 2 ^ (ji13).toNat) = ji17:=shr_small hji17
         by_cases c18 : (Go.bits .and .u32 (ji17) 1) = 0
         ·rw [if_pos c18] at H
          have c18b0 : ((Go.bits .and .u32 (ji17) 1) == 0) = true:=beq_iff_eq.mpr c18
          have c18b1 : ((Go.bits .and .u32 (ji17) 1) != 0) = false:=bne_eq_false_iff_eq.mpr c18
          clear c18
          simp only [Option.some.injEq,Prod.mk.injEq] at H
          obtain ⟨rfl,rfl⟩:=H
          have p170 : 0 ≤ (x15_1 : Int):=of_decide_eq_true (by first|(with_reducible assumption)|assumption)
          have q170 : x15_1 < (l3.length : Int):=of_decide_eq_true (by first|(with_reducible assumption)|assumption)
          obtain ⟨ad170,e170,hx170_0⟩:=Kd.at_int HR3.out x15_1 p170 q170
          cases e170
          replace hx170_0:=(HB.out.cell (World.block_lt_of_cell? w _ hx170_0)).trans hx170_0
          replace p170:=eq_true p170
          replace q170:=eq_true q170
          have hcz19_0 : wr.cell? ⟨gb169,0,none⟩ = some (.int .i64 a0_0):=(blk_cell BK169.out 0).trans rfl
          have hcz19_1 : wr.cell? ⟨gb169,1,none⟩ = some (.int .i64 a0_1):=(blk_cell BK169.out 1).trans rfl
          have hcz19_2 : wr.cell? ⟨gb169,2,none⟩ = some (.int .i64 a0_2):=(blk_cell BK169.out 2).trans rfl
          have hcz19_3 : wr.cell? ⟨gb169,3,none⟩ = some (.slice A0_3 l0_3.length c0_3):=(blk_cell BK169.out 3).trans rfl
          have hfz19_0:=blk_frozen BK169.out 0
          have hfz19_1:=blk_frozen BK169.out 1
          have hfz19_2:=blk_frozen BK169.out 2
          have hfz19_3:=blk_frozen BK169.out 3
          have p171 : 0 ≤ ((ji13) : Int):=of_decide_eq_true (by first|(with_reducible assumption)|assumption)
          have q171 : (ji13) < (l1.length : Int):=of_decide_eq_true (by first|(with_reducible assumption)|assumption)
          obtain ⟨ad171,e171,hx171_0⟩:=Kd.at_int HR1.out (ji13) p171 q171
          cases e171
          replace hx171_0:=(HB.out.cell (World.block_lt_of_cell? w _ hx171_0)).trans hx171_0
          replace p171:=eq_true p171
          replace q171:=eq_true q171
          go_wp2
          go_ret2
          exact ⟨by first|rfl|(simp [errW_none,errW_some] <;> rfl)|(simp only [← hji13,← hji17];first|rfl|(simp [errW_none,errW_some] <;> rfl))|(simp [*,errW_none,errW_some] <;> rfl),by repeat (first|(with_reducible first|exact HB.out|apply below_alloc|apply pw_below_drewN|apply below_drew1|refine below_set ?_ GE169.out)|exact HB.out)⟩
         ·rw [if_neg c18] at H
          have c18b0 : ((Go.bits .and .u32 (ji17) 1) == 0) = false:=beq_eq_false_iff_ne.mpr c18
          have c18b1 : ((Go.bits .and .u32 (ji17) 1) != 0) = true:=bne_iff_ne.mpr c18
          have H':=Aside0.mk H
          clear H
          have p170 : 0 ≤ (x15_1 : Int):=of_decide_eq_true (by first|(with_reducible assumption)|assumption)
          have q170 : x15_1 < (l3.length : Int):=of_decide_eq_true (by first|(with_reducible assumption)|assumption)
          obtain ⟨ad170,e170,hx170_0⟩:=Kd.at_int HR3.out x15_1 p170 q170
          cases e170
          replace hx170_0:=(HB.out.cell (World.block_lt_of_cell? w _ hx170_0)).trans hx170_0
          replace p170:=eq_true p170
          replace q170:=eq_true q170
          have hcz20_0 : wr.cell? ⟨gb169,0,none⟩ = some (.int .i64 a0_0):=(blk_cell BK169.out 0).trans rfl
          have hcz20_1 : wr.cell? ⟨gb169,1,none⟩ = some (.int .i64 a0_1):=(blk_cell BK169.out 1).trans rfl
          have hcz20_2 : wr.cell? ⟨gb169,2,none⟩ = some (.int .i64 a0_2):=(blk_cell BK169.out 2).trans rfl
          have hcz20_3 : wr.cell? ⟨gb169,3,none⟩ = some (.slice A0_3 l0_3.length c0_3):=(blk_cell BK169.out 3).trans rfl
          have hfz20_0:=blk_frozen BK169.out 0
          have hfz20_1:=blk_frozen BK169.out 1
          have hfz20_2:=blk_frozen BK169.out 2
          have hfz20_3:=blk_frozen BK169.out 3
          have p171 : 0 ≤ ((ji13) : Int):=of_decide_eq_true (by first|(with_reducible assumption)|assumption)
          have q171 : (ji13) < (l1.length : Int):=of_decide_eq_true (by first|(with_reducible assumption)|assumption)
          obtain ⟨ad171,e171,hx171_0⟩:=Kd.at_int HR1.out (ji13) p171 q171
          cases e171
          replace hx171_0:=(HB.out.cell (World.block_lt_of_cell? w _ hx171_0)).trans hx171_0
          replace p171:=eq_true p171
          replace q171:=eq_true q171
          go_wp2
          first|go_roundg k1|((simp only [← hji13,← hji17]);go_roundg k1)
          case measure=>have:=HK1.out;omega
          case rel=>exact ⟨(Go.bits .or .u32 x10_1 (rd l1 (ji13))),(wrap64 (x15_1 + 1)),(by first|rfl|(simp;done)|(simp only [← hji13] <;> (first|rfl|simp))|(simp [*];done)),(by first|rfl|(simp;done)|(simp [*];done)),(by first|exact H'|((simp only [hji13,hji17]);exact H')|(have h_:=H'.out;simp only [← hji13,← hji17] at h_ ⊢;exact ⟨h_⟩)),⟨by have:=HK1.out;omega⟩,⟨by (with_reducible repeat (first|refine blk_drewN ?_ _|refine blk_drew ?_|refine blk_alloc ?_ _));exact BK169.out⟩,⟨by repeat (first|(with_reducible first|exact HB.out|apply below_alloc|apply pw_below_drewN|apply below_drew1|refine below_set ?_ GE169.out)|exact HB.out)⟩⟩
        ·rw [if_neg c15] at H
         exact absurd H (by simp)
       ·rw [if_neg c14] at H
        exact absurd H (by simp)
     ·rw [if_neg c8] at H
      exact absurd H (by simp)
    ·rw [if_neg c7] at H
     exact absurd H (by simp)
   ·rw [if_neg c6] at H
    have c6b0 : decide (x15_1 < (l3.length : Int)) = false:=decide_eq_false c6
    clear c6
    simp only [Option.some.injEq,Prod.mk.injEq] at H
    obtain ⟨rfl,rfl⟩:=H
    go_wp2
    go_ret2
    exact ⟨by first|rfl|(simp [errW_none,errW_some] <;> rfl)|(simp [*,errW_none,errW_some] <;> rfl),by repeat (first|(with_reducible first|exact HB.out|apply below_alloc|apply pw_below_drewN|apply below_drew1|refine below_set ?_ GE169.out)|exact HB.out)⟩
end Go.Proofs.Ytnkackiocigdoaa.GE
