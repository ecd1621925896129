-- Written by ext.py, a program of this session.
import Derived.Test.YtnkackiocigdoaaGE0
import Derived.Test.YtnkackiocigdoaaGE4
namespace Go.Proofs.Ytnkackiocigdoaa.GE
open Go.RowKit Go.Proofs.YtnkackiocigdoaaW.PrintWords Go.Proofs.YtnkackiocigdoaaW.PrintLast Go.Proofs.YtnkackiocigdoaaW.PrintMore
attribute [local go_sem] max2_int min2_int max_two min_two max_three min_three max_four min_four cellIs_set   -- for this text's walks alone
set_option linter.unusedVariables false
set_option linter.unusedSimpArgs false
/-! ### grammar_Comes: function 17 -/
mutual
def grammar_Comes.l0 : Nat → Int → Int → Int → Int → Int → Int → List (S27) → Option (Int × Int)
 | 0,_,_,_,_,_,_,_=>none
 | k + 1,x5,x19,x20,x192000,x192001,x192002,x192003=>if x20 < x19 then (grammar_Comes.l1 k x5 x19 x20 x192003 (x192003.length : Int) 0 x192000 x192001 x192002 x192003) else (some (x5,0))
def grammar_Comes.l1 : Nat → Int → Int → Int → List (S27) → Int → Int → Int → Int → Int → List (S27) → Option (Int × Int)
 | 0,_,_,_,_,_,_,_,_,_,_=>none
 | k + 1,x5,x19,x20,x23,x24,x25,x192000,x192001,x192002,x192003=>if x25 < x24 then (if 0 ≤ x25 then (if x25 < (x23.length : Int) then (grammar_Comes.l2 k x5 x19 x20 x23 x24 x25 ((rd_T27 x23 x25).f1) (((rd_T27 x23 x25).f1).length : Int) 0 x192000 x192001 x192002 x192003 ((rd_T27 x23 x25).f0) ((rd_T27 x23 x25).f1)) else (none)) else (none)) else (grammar_Comes.l0 k x5 x19 (wrap64 (x20 + 1)) x192000 x192001 x192002 x192003)
def grammar_Comes.l2 : Nat → Int → Int → Int → List (S27) → Int → Int → List Int → Int → Int → Int → Int → Int → List (S27) → Int → List Int → Option (Int × Int)
 | 0,_,_,_,_,_,_,_,_,_,_,_,_,_,_,_=>none
 | k + 1,x5,x19,x20,x23,x24,x25,x30,x31,x32,x192000,x192001,x192002,x192003,x195000,x195001=>if x32 < x31 then (if 0 ≤ x32 then (if x32 < (x30.length : Int) then (if 0 ≤ x195000 then (if (Go.bits .and .u32 (shr .u32 x5 x195000) 1) = 1 then (if (rd x30 x32) ≥ x192000 then (if 0 ≤ (wrap64 ((rd x30 x32) - x192000)) then (grammar_Comes.l2 k (Go.bits .or .u32 x5 (shl .u32 1 (wrap64 ((rd x30 x32) - x192000)))) x19 x20 x23 x24 x25 x30 x31 (wrap64 (x32 + 1)) x192000 x192001 x192002 x192003 x195000 x195001) else (none)) else (grammar_Comes.l2 k x5 x19 x20 x23 x24 x25 x30 x31 (wrap64 (x32 + 1)) x192000 x192001 x192002 x192003 x195000 x195001)) else (grammar_Comes.l2 k x5 x19 x20 x23 x24 x25 x30 x31 (wrap64 (x32 + 1)) x192000 x192001 x192002 x192003 x195000 x195001)) else (none)) else (none)) else (none)) else (grammar_Comes.l1 k x5 x19 x20 x23 x24 (wrap64 (x25 + 1)) x192000 x192001 x192002 x192003)
end
def grammar_Comes.f (k : Nat) (a0_0 : Int) (a0_1 : Int) (a0_2 : Int) (l0_3 : List (S27)) : Option (Int × Int):=(grammar_Check.f k a0_0 a0_1 a0_2 l0_3).bind fun t192=>(if t192 = 0 then (if 0 ≤ a0_2 then (grammar_Comes.l0 k (shl .u32 1 a0_2) a0_1 0 a0_0 a0_1 a0_2 l0_3) else (none)) else (some (0,t192)))
theorem grammar_Comes.mono_l : ∀ k,(∀ y0 y1 y2 y3 y4 y5 y6,LeO (grammar_Comes.l0 k y0 y1 y2 y3 y4 y5 y6) (grammar_Comes.l0 (k + 1) y0 y1 y2 y3 y4 y5 y6)) ∧ (∀ y0 y1 y2 y3 y4 y5 y6 y7 y8 y9,LeO (grammar_Comes.l1 k y0 y1 y2 y3 y4 y5 y6 y7 y8 y9) (grammar_Comes.l1 (k + 1) y0 y1 y2 y3 y4 y5 y6 y7 y8 y9)) ∧ (∀ y0 y1 y2 y3 y4 y5 y6 y7 y8 y9 y10 y11 y12 y13 y14,LeO (grammar_Comes.l2 k y0 y1 y2 y3 y4 y5 y6 y7 y8 y9 y10 y11 y12 y13 y14) (grammar_Comes.l2 (k + 1) y0 y1 y2 y3 y4 y5 y6 y7 y8 y9 y10 y11 y12 y13 y14))
 | 0=>⟨fun _ _ _ _ _ _ _ r h=>by simp [grammar_Comes.l0] at h,fun _ _ _ _ _ _ _ _ _ _ r h=>by simp [grammar_Comes.l1] at h,fun _ _ _ _ _ _ _ _ _ _ _ _ _ _ _ r h=>by simp [grammar_Comes.l2] at h⟩
 | k + 1=>by
  obtain ⟨ih0,ih1,ih2⟩:=grammar_Comes.mono_l k
  refine ⟨?_,?_,?_⟩
  ·intro y0 y1 y2 y3 y4 y5 y6
   unfold grammar_Comes.l0
   repeat' first
   | (with_reducible exact ih0 _ _ _ _ _ _ _)
   | (with_reducible exact ih1 _ _ _ _ _ _ _ _ _ _)
   | (with_reducible exact ih2 _ _ _ _ _ _ _ _ _ _ _ _ _ _ _)
   | (with_reducible exact grammar_Check.mono _ _ _ _ _)
   | (with_reducible exact LeO.refl _)
   | (with_reducible exact LeO.none _)
   | (with_reducible refine LeO.ite ?_ ?_)
   | (with_reducible refine LeO.bind ?_ (fun _=>?_))
   | exact ih0 _ _ _ _ _ _ _
   | exact ih1 _ _ _ _ _ _ _ _ _ _
   | exact ih2 _ _ _ _ _ _ _ _ _ _ _ _ _ _ _
   | exact grammar_Check.mono _ _ _ _ _
   | exact LeO.none _
   | refine LeO.ite ?_ ?_
   | refine LeO.bind ?_ (fun _=>?_)
  ·intro y0 y1 y2 y3 y4 y5 y6 y7 y8 y9
   unfold grammar_Comes.l1
   repeat' first
   | (with_reducible exact ih0 _ _ _ _ _ _ _)
   | (with_reducible exact ih1 _ _ _ _ _ _ _ _ _ _)
   | (with_reducible exact ih2 _ _ _ _ _ _ _ _ _ _ _ _ _ _ _)
   | (with_reducible exact grammar_Check.mono _ _ _ _ _)
   | (with_reducible exact LeO.refl _)
   | (with_reducible exact LeO.none _)
   | (with_reducible refine LeO.ite ?_ ?_)
   | (with_reducible refine LeO.bind ?_ (fun _=>?_))
   | exact ih0 _ _ _ _ _ _ _
   | exact ih1 _ _ _ _ _ _ _ _ _ _
   | exact ih2 _ _ _ _ _ _ _ _ _ _ _ _ _ _ _
   | exact grammar_Check.mono _ _ _ _ _
   | exact LeO.none _
   | refine LeO.ite ?_ ?_
   | refine LeO.bind ?_ (fun _=>?_)
  ·intro y0 y1 y2 y3 y4 y5 y6 y7 y8 y9 y10 y11 y12 y13 y14
   unfold grammar_Comes.l2
   repeat' first
   | (with_reducible exact ih0 _ _ _ _ _ _ _)
   | (with_reducible exact ih1 _ _ _ _ _ _ _ _ _ _)
   | (with_reducible exact ih2 _ _ _ _ _ _ _ _ _ _ _ _ _ _ _)
   | (with_reducible exact grammar_Check.mono _ _ _ _ _)
   | (with_reducible exact LeO.refl _)
   | (with_reducible exact LeO.none _)
   | (with_reducible refine LeO.ite ?_ ?_)
   | (with_reducible refine LeO.bind ?_ (fun _=>?_))
   | exact ih0 _ _ _ _ _ _ _
   | exact ih1 _ _ _ _ _ _ _ _ _ _
   | exact ih2 _ _ _ _ _ _ _ _ _ _ _ _ _ _ _
   | exact grammar_Check.mono _ _ _ _ _
   | exact LeO.none _
   | refine LeO.ite ?_ ?_
   | refine LeO.bind ?_ (fun _=>?_)
theorem grammar_Comes.mono : ∀ a0 a1 a2 a3 k,LeO (grammar_Comes.f k a0 a1 a2 a3) (grammar_Comes.f (k + 1) a0 a1 a2 a3):=by
 intro a0 a1 a2 a3 k
 obtain ⟨ih0,ih1,ih2⟩:=grammar_Comes.mono_l k
 unfold grammar_Comes.f
 repeat' first
   | (with_reducible exact ih0 _ _ _ _ _ _ _)
   | (with_reducible exact ih1 _ _ _ _ _ _ _ _ _ _)
   | (with_reducible exact ih2 _ _ _ _ _ _ _ _ _ _ _ _ _ _ _)
   | (with_reducible exact grammar_Check.mono _ _ _ _ _)
   | (with_reducible exact LeO.refl _)
   | (with_reducible exact LeO.none _)
   | (with_reducible refine LeO.ite ?_ ?_)
   | (with_reducible refine LeO.bind ?_ (fun _=>?_))
   | exact ih0 _ _ _ _ _ _ _
   | exact ih1 _ _ _ _ _ _ _ _ _ _
   | exact ih2 _ _ _ _ _ _ _ _ _ _ _ _ _ _ _
   | exact grammar_Check.mono _ _ _ _ _
   | exact LeO.none _
   | refine LeO.ite ?_ ?_
   | refine LeO.bind ?_ (fun _=>?_)
set_option maxHeartbeats 8000000 in
set_option maxRecDepth 100000 in
theorem grammar_Comes.calls (k : Nat) (a0_0 : Int) (a0_1 : Int) (a0_2 : Int) (A0_3 : Option Addr) (c0_3 : Nat) (l0_3 : List (S27)) (r1 : Int) (r2 : Int) (w : World) (hr0_3 : Kd.C k27 w A0_3 l0_3.length l0_3) (hc0_3 : l0_3.length ≤ c0_3) (h : grammar_Comes.f k a0_0 a0_1 a0_2 l0_3 = some (r1,r2)) :
  Calls Try.prog 17 #[.agg #[.int .i64 a0_0,.int .i64 a0_1,.int .i64 a0_2,.slice A0_3 l0_3.length c0_3]] w fun e w'=>e = .returned (.tuple #[.int .u32 r1,.int .i64 r2]) ∧ Below w.heap.size w w':=by
 have hu24:=Try.underlying24
 have hu27:=Try.underlying27
 have HR0_3:=Aside0.mk hr0_3
 have HC0_3:=Aside0.mk hc0_3
 clear hr0_3 hc0_3
 have HB:=Aside0.mk (Below.refl w.heap.size w)
 have H : ((grammar_Check.f k a0_0 a0_1 a0_2 l0_3).bind fun t192=>(if t192 = 0 then (if 0 ≤ a0_2 then (grammar_Comes.l0 k (shl .u32 1 a0_2) a0_1 0 a0_0 a0_1 a0_2 l0_3) else (none)) else (some (0,t192)))) = some (r1,r2):=h
 clear h
 replace H:=Option.bind_eq_some_iff.mp H
 obtain ⟨t192,A20,H⟩:=H
 replace H : (if t192 = 0 then (if 0 ≤ a0_2 then (grammar_Comes.l0 k (shl .u32 1 a0_2) a0_1 0 a0_0 a0_1 a0_2 l0_3) else (none)) else (some (0,t192))) = some (r1,r2):=H
 have A2:=Aside0.mk A20
 clear A20
 by_cases c3 : t192 = 0
 ·rw [if_pos c3] at H
  have c3b0 : (t192 == 0) = true:=beq_iff_eq.mpr c3
  have c3b1 : (t192 != 0) = false:=bne_eq_false_iff_eq.mpr c3
  clear c3
  by_cases c4 : 0 ≤ a0_2
  ·rw [if_pos c4] at H
   have c4b0:=eq_true c4
   have c4b1 : decide (0 ≤ a0_2) = true:=decide_eq_true c4
   clear c4
   obtain ⟨ji5,hji5⟩ : ∃ j_ : Int,(shl .u32 1 a0_2) = j_:=⟨_,rfl⟩
   replace H : (grammar_Comes.l0 k ji5 a0_1 0 a0_0 a0_1 a0_2 l0_3) = some (r1,r2):=by first|(rw [hji5] at H;exact H)|(simp only [hji5] at H ⊢;exact H)
   (try rw [hji5] at A2)
   have hji5_ : (IntKind.u32.wrap (1 * 2 ^ min a0_2.toNat 32)) = ji5:=hji5
   have hji5z : a0_2 ≤ 32 → (IntKind.u32.wrap (1 * 2 ^ a0_2.toNat)) = ji5:=shl_small hji5
   have hji5u : (IntKind.u32.wrap (2 ^ min a0_2.toNat 32)) = ji5:=by have h_:=hji5_;rw [Int.one_mul] at h_;exact h_
   have hji5v : a0_2 ≤ 32 → (IntKind.u32.wrap (2 ^ a0_2.toNat)) = ji5:=fun hle_=>by have h_:=hji5z hle_;rw [Int.one_mul] at h_;exact h_
   have H':=Aside0.mk H
   clear H
   go_enter Try.func17,Try.ntmps17
   go_wp2_with (first|((with_reducible refine gate_dst (N:=1) rfl ?_);refine box_event ?hg (N:=1) ?hd (cs:=#[.int .i64 a0_0,.int .i64 a0_1,.int .i64 a0_2,.slice A0_3 l0_3.length c0_3]) (t:=24) ?hr ?_;(case hd=>rfl);(case hg=>rfl);(case hr=>first|(go_simp;done)|(go_simp;rfl));intro gb191 hg w6 hbox hb;have n0_:=Aside0.mk (below_step (by repeat (first|(with_reducible first|exact HB.out|apply below_alloc|apply pw_below_drewN|apply below_drew1)|exact HB.out)) hb);have n1_:=Aside0.mk (hbox);have n2_:=Aside0.mk ((by rw [hg];exact (below_size (by repeat (first|(with_reducible first|exact HB.out|apply below_alloc|apply pw_below_drewN|apply below_drew1)|exact HB.out))) : w.heap.size ≤ gb191));have n3_:=Aside0.mk ((by rw [hg];exact (below_size (by repeat (first|(with_reducible first|exact HB.out|apply below_alloc|apply pw_below_drewN|apply below_drew1)|exact HB.out))) : w.heap.size ≤ gb191));clear HB;have HB:=n0_;have BK191:=n1_;have GW191:=n2_;have GE191:=n3_;clear n0_ n1_ n2_ n3_;clear hb hbox hg;have hcz7_0 : w6.cell? ⟨gb191,0,none⟩ = some (.int .i64 a0_0):=(blk_cell BK191.out 0).trans rfl;have hcz7_1 : w6.cell? ⟨gb191,1,none⟩ = some (.int .i64 a0_1):=(blk_cell BK191.out 1).trans rfl;have hcz7_2 : w6.cell? ⟨gb191,2,none⟩ = some (.int .i64 a0_2):=(blk_cell BK191.out 2).trans rfl;have hcz7_3 : w6.cell? ⟨gb191,3,none⟩ = some (.slice A0_3 l0_3.length c0_3):=(blk_cell BK191.out 3).trans rfl;have hfz7_0:=blk_frozen BK191.out 0;have hfz7_1:=blk_frozen BK191.out 1;have hfz7_2:=blk_frozen BK191.out 2;have hfz7_3:=blk_frozen BK191.out 3)|((with_reducible refine gate_callee (f:=40) rfl ?_);refine goesL_ (some 11) rfl rfl Try.func40 (by kernel_rfl) rfl #[.agg #[.int .i64 a0_0,.int .i64 a0_1,.int .i64 a0_2,.slice A0_3 l0_3.length c0_3]] rfl (by (try simp only [List.map_toArray,List.map_cons,List.map_nil]);first|done|rfl|(simp only [List.length_drop,List.length_take];rfl)) ?_;(with_reducible refine (grammar_Check.calls k a0_0 a0_1 a0_2 _ _ l0_3 t192 _ ?side1 ?side2 A2.out).mono ?_);(case side1=>repeat (first|exact (Kd.C_below HR0_3.out HB.out)|(with_reducible refine Kd.C_alloc ?_ _)|(with_reducible refine Kd.C_drewN ?_ _)|(with_reducible refine Kd.C_drew ?_)));(case side2=>exact HC0_3.out);rintro e w8 ⟨rfl,hb⟩;refine ⟨_,rfl,?_⟩;have n0_:=Aside0.mk (blk_below (g:=gb191) (o:=.cells #[.int .i64 a0_0,.int .i64 a0_1,.int .i64 a0_2,.slice A0_3 l0_3.length c0_3] 24 (0,0)) (by (with_reducible repeat (first|refine blk_drewN ?_ _|refine blk_drew ?_|refine blk_alloc ?_ _));exact BK191.out) hb);have n1_:=Aside0.mk (below_step (by repeat (first|(with_reducible first|exact HB.out|apply below_alloc|apply pw_below_drewN|apply below_drew1|refine below_set ?_ GE191.out)|exact HB.out)) hb);clear BK191;clear HB;have BK191:=n0_;have HB:=n1_;clear n0_ n1_;(try clear hb);(try clear hb2);(try clear hk);(try clear hi);have hcz9_0 : w8.cell? ⟨gb191,0,none⟩ = some (.int .i64 a0_0):=(blk_cell BK191.out 0).trans rfl;have hcz9_1 : w8.cell? ⟨gb191,1,none⟩ = some (.int .i64 a0_1):=(blk_cell BK191.out 1).trans rfl;have hcz9_2 : w8.cell? ⟨gb191,2,none⟩ = some (.int .i64 a0_2):=(blk_cell BK191.out 2).trans rfl;have hcz9_3 : w8.cell? ⟨gb191,3,none⟩ = some (.slice A0_3 l0_3.length c0_3):=(blk_cell BK191.out 3).trans rfl;have hfz9_0:=blk_frozen BK191.out 0;have hfz9_1:=blk_frozen BK191.out 1;have hfz9_2:=blk_frozen BK191.out 2;have hfz9_3:=blk_frozen BK191.out 3))
   go_loopg [5,20] k (fun kq v5 v20 w'=>∃ (x5_1 : Int) (x20_1 : Int),v5 = .int .u32 x5_1 ∧ v20 = .int .i64 x20_1 ∧ Aside0 (grammar_Comes.l0 kq x5_1 a0_1 x20_1 a0_0 a0_1 a0_2 l0_3 = some (r1,r2)) ∧ Aside0 (kq ≤ k) ∧ Aside0 (w'.heap[gb191]? = some (.cells #[.int .i64 a0_0,.int .i64 a0_1,.int .i64 a0_2,(.slice A0_3 l0_3.length c0_3)] 24 (0,0))) ∧ Aside0 (Below w.heap.size w w'))
   case atStart=>exact ⟨(ji5),(0),(by first|rfl|(simp;done)|(simp only [← hji5] <;> (first|rfl|simp))|(simp [*];done)),(by first|rfl|(simp;done)|(simp [*];done)),H',⟨Nat.le_refl _⟩,⟨by (with_reducible repeat (first|refine blk_drewN ?_ _|refine blk_drew ?_|refine blk_alloc ?_ _));exact BK191.out⟩,⟨by repeat (first|(with_reducible first|exact HB.out|apply below_alloc|apply pw_below_drewN|apply below_drew1|refine below_set ?_ GE191.out)|exact HB.out)⟩⟩
   case round =>
    clear H'
    try clear c1
    try clear p2
    try clear c3
    try clear c3b0
    try clear c3b1
    try clear c4
    try clear c4b0
    try clear c4b1
    try clear hcz7_0
    try clear hcz7_1
    try clear hcz7_2
    try clear hcz7_3
    try clear hcz9_0
    try clear hcz9_1
    try clear hcz9_2
    try clear hcz9_3
    try clear hfz7_0
    try clear hfz7_1
    try clear hfz7_2
    try clear hfz7_3
    try clear hfz9_0
    try clear hfz9_1
    try clear hfz9_2
    try clear hfz9_3
    obtain ⟨x5_1,x20_1,rfl,rfl,HA,HK1,BK191,HB⟩:=hrel
    cases gk with
    | zero=>exact absurd HA.out (by simp [grammar_Comes.l0])
    | succ k1 =>
     have H:=HA.out
     clear HA
     simp only [grammar_Comes.l0] at H
     by_cases c10 : x20_1 < a0_1
     ·rw [if_pos c10] at H
      have c10b0 : decide (x20_1 < a0_1) = true:=decide_eq_true c10
      clear c10
      have H':=Aside0.mk H
      clear H
      have hcz11_0 : wr.cell? ⟨gb191,0,none⟩ = some (.int .i64 a0_0):=(blk_cell BK191.out 0).trans rfl
      have hcz11_1 : wr.cell? ⟨gb191,1,none⟩ = some (.int .i64 a0_1):=(blk_cell BK191.out 1).trans rfl
      have hcz11_2 : wr.cell? ⟨gb191,2,none⟩ = some (.int .i64 a0_2):=(blk_cell BK191.out 2).trans rfl
      have hcz11_3 : wr.cell? ⟨gb191,3,none⟩ = some (.slice A0_3 l0_3.length c0_3):=(blk_cell BK191.out 3).trans rfl
      have hfz11_0:=blk_frozen BK191.out 0
      have hfz11_1:=blk_frozen BK191.out 1
      have hfz11_2:=blk_frozen BK191.out 2
      have hfz11_3:=blk_frozen BK191.out 3
      go_wp2
      go_loopg [5,25] k1 (fun kq v5 v25 w'=>∃ (x5_2 : Int) (x25_2 : Int),v5 = .int .u32 x5_2 ∧ v25 = .int .i64 x25_2 ∧ Aside0 (grammar_Comes.l1 kq x5_2 a0_1 x20_1 l0_3 (l0_3.length : Int) x25_2 a0_0 a0_1 a0_2 l0_3 = some (r1,r2)) ∧ Aside0 (kq ≤ k1) ∧ Aside0 (w'.heap[gb191]? = some (.cells #[.int .i64 a0_0,.int .i64 a0_1,.int .i64 a0_2,(.slice A0_3 l0_3.length c0_3)] 24 (0,0))) ∧ Aside0 (Below w.heap.size w w'))
      case atStart=>exact ⟨(x5_1),(0),(by first|rfl|(simp;done)|(simp [*];done)),(by first|rfl|(simp;done)|(simp [*];done)),H',⟨Nat.le_refl _⟩,⟨by (with_reducible repeat (first|refine blk_drewN ?_ _|refine blk_drew ?_|refine blk_alloc ?_ _));exact BK191.out⟩,⟨by repeat (first|(with_reducible first|exact HB.out|apply below_alloc|apply pw_below_drewN|apply below_drew1|refine below_set ?_ GE191.out)|exact HB.out)⟩⟩
      case round =>
       clear H'
       try clear c1
       try clear p2
       try clear c3
       try clear c3b0
       try clear c3b1
       try clear c4
       try clear c4b0
       try clear c4b1
       try clear c10
       try clear c10b0
       try clear hcz11_0
       try clear hcz11_1
       try clear hcz11_2
       try clear hcz11_3
       try clear hcz7_0
       try clear hcz7_1
       try clear hcz7_2
       try clear hcz7_3
       try clear hcz9_0
       try clear hcz9_1
       try clear hcz9_2
       try clear hcz9_3
       try clear hfz11_0
       try clear hfz11_1
       try clear hfz11_2
       try clear hfz11_3
       try clear hfz7_0
       try clear hfz7_1
       try clear hfz7_2
       try clear hfz7_3
       try clear hfz9_0
       try clear hfz9_1
       try clear hfz9_2
       try clear hfz9_3
       try clear p2
       obtain ⟨x5_2,x25_2,rfl,rfl,HA,HK2,BK191,HB⟩:=hrel
       cases gk with
       | zero=>exact absurd HA.out (by simp [grammar_Comes.l1])
       | succ k2 =>
        have H:=HA.out
        clear HA
        simp only [grammar_Comes.l1] at H
        by_cases c12 : x25_2 < (l0_3.length : Int)
        ·rw [if_pos c12] at H
         have c12b0 : decide (x25_2 < (l0_3.length : Int)) = true:=decide_eq_true c12
         clear c12
         by_cases c13 : 0 ≤ x25_2
         ·rw [if_pos c13] at H
          have c13b0 : decide (0 ≤ x25_2) = true:=decide_eq_true c13
          clear c13
          by_cases c14 : x25_2 < (l0_3.length : Int)
          ·rw [if_pos c14] at H
           have c14b0 : decide (x25_2 < (l0_3.length : Int)) = true:=decide_eq_true c14
           clear c14
           have H':=Aside0.mk H
           clear H
           have p193 : 0 ≤ (x25_2 : Int):=of_decide_eq_true (by first|(with_reducible assumption)|assumption)
           have q193 : x25_2 < (l0_3.length : Int):=of_decide_eq_true (by first|(with_reducible assumption)|assumption)
           obtain ⟨ad193,A193_1,c193_1,e193,hx193_0,hx193_1,hl193_1,hi193_1⟩:=at_T27 HR0_3.out x25_2 p193 q193
           cases e193
           replace hx193_0:=(HB.out.cell (World.block_lt_of_cell? w _ hx193_0)).trans hx193_0
           replace hx193_1:=(HB.out.cell (World.block_lt_of_cell? w _ hx193_1)).trans hx193_1
           have HR193_1:=Aside0.mk hi193_1
           have HC193_1:=Aside0.mk hl193_1
           clear hi193_1 hl193_1
           replace p193:=eq_true p193
           replace q193:=eq_true q193
           go_wp2_with (first|((with_reducible refine gate_dst (N:=7) rfl ?_);refine box_event ?hg (N:=7) ?hd (cs:=#[.int .i64 0,.slice none 0 0]) (t:=27) ?hr ?_;(case hd=>rfl);(case hg=>rfl);(case hr=>first|(go_simp;done)|(go_simp;rfl));intro gb194 hg w15 hbox hb;have n0_:=Aside0.mk (blk_below (g:=gb191) (o:=.cells #[.int .i64 a0_0,.int .i64 a0_1,.int .i64 a0_2,.slice (some ad193) l0_3.length c0_3] 24 (0,0)) (by (with_reducible repeat (first|refine blk_drewN ?_ _|refine blk_drew ?_|refine blk_alloc ?_ _));exact BK191.out) hb);have n1_:=Aside0.mk (below_step (by repeat (first|(with_reducible first|exact HB.out|apply below_alloc|apply pw_below_drewN|apply below_drew1|refine below_set ?_ GE191.out)|exact HB.out)) hb);have n2_:=Aside0.mk (hbox);have n3_:=Aside0.mk ((by rw [hg];exact (below_size (by repeat (first|(with_reducible first|exact HB.out|apply below_alloc|apply pw_below_drewN|apply below_drew1|refine below_set ?_ GE191.out)|exact HB.out))) : w.heap.size ≤ gb194));have n4_:=Aside0.mk ((by rw [hg];exact (below_size (by repeat (first|(with_reducible first|exact HB.out|apply below_alloc|apply pw_below_drewN|apply below_drew1|refine below_set ?_ GE191.out)|exact HB.out))) : w.heap.size ≤ gb194));have n5_:=Aside0.mk ((by rw [hg];exact Nat.ne_of_lt (blk_lt (g:=gb191) (o:=.cells #[.int .i64 a0_0,.int .i64 a0_1,.int .i64 a0_2,.slice (some ad193) l0_3.length c0_3] 24 (0,0)) (by (with_reducible repeat (first|refine blk_drewN ?_ _|refine blk_drew ?_|refine blk_alloc ?_ _));exact BK191.out)) : gb191 ≠ gb194));have n6_:=Aside0.mk ((by rw [hg];exact Nat.ne_of_gt (blk_lt (g:=gb191) (o:=.cells #[.int .i64 a0_0,.int .i64 a0_1,.int .i64 a0_2,.slice (some ad193) l0_3.length c0_3] 24 (0,0)) (by (with_reducible repeat (first|refine blk_drewN ?_ _|refine blk_drew ?_|refine blk_alloc ?_ _));exact BK191.out)) : gb194 ≠ gb191));clear BK191;clear HB;have BK191:=n0_;have HB:=n1_;have BK194:=n2_;have GW194:=n3_;have GE194:=n4_;have NB191_194:=n5_;have NB194_191:=n6_;clear n0_ n1_ n2_ n3_ n4_ n5_ n6_;clear hb hbox hg;have hnb16:=NB194_191.out;have hnc16:=NB191_194.out;have hcz17_0 : w15.cell? ⟨gb194,0,none⟩ = some (.int .i64 0):=(blk_cell BK194.out 0).trans rfl;have hcz17_1 : w15.cell? ⟨gb194,1,none⟩ = some (.slice none 0 0):=(blk_cell BK194.out 1).trans rfl;have hfz17_0:=blk_frozen BK194.out 0;have hfz17_1:=blk_frozen BK194.out 1))
           go_loopg [5,32] k2 (fun kq v5 v32 w'=>∃ (x5_3 : Int) (x32_3 : Int),v5 = .int .u32 x5_3 ∧ v32 = .int .i64 x32_3 ∧ Aside0 (grammar_Comes.l2 kq x5_3 a0_1 x20_1 l0_3 (l0_3.length : Int) x25_2 ((rd_T27 l0_3 x25_2).f1) (((rd_T27 l0_3 x25_2).f1).length : Int) x32_3 a0_0 a0_1 a0_2 l0_3 ((rd_T27 l0_3 x25_2).f0) ((rd_T27 l0_3 x25_2).f1) = some (r1,r2)) ∧ Aside0 (kq ≤ k2) ∧ Aside0 (w'.heap[gb191]? = some (.cells #[.int .i64 a0_0,.int .i64 a0_1,.int .i64 a0_2,(.slice (some ad193) l0_3.length c0_3)] 24 (0,0))) ∧ Aside0 (w'.heap[gb194]? = some (.cells #[.int .i64 ((rd_T27 l0_3 x25_2).f0),(.slice A193_1 ((rd_T27 l0_3 x25_2).f1).length c193_1)] 27 (0,0))) ∧ Aside0 (Below w.heap.size w w'))
           case atStart=>exact ⟨(x5_2),(0),(by first|rfl|(simp;done)|(simp [*];done)),(by first|rfl|(simp;done)|(simp [*];done)),H',⟨Nat.le_refl _⟩,⟨by (with_reducible repeat (first|refine blk_drewN ?_ _|refine blk_drew ?_|refine blk_alloc ?_ _));refine blk_far ?_ NB191_194.out _;(with_reducible repeat (first|refine blk_drewN ?_ _|refine blk_drew ?_|refine blk_alloc ?_ _));refine blk_far ?_ NB191_194.out _;(with_reducible repeat (first|refine blk_drewN ?_ _|refine blk_drew ?_|refine blk_alloc ?_ _));exact BK191.out⟩,⟨by (with_reducible repeat (first|refine blk_drewN ?_ _|refine blk_drew ?_|refine blk_alloc ?_ _));refine blk_put (cs:=#[.int .i64 ((rd_T27 l0_3 x25_2).f0),.slice none 0 0]) ?_ 1 _ rfl;(with_reducible repeat (first|refine blk_drewN ?_ _|refine blk_drew ?_|refine blk_alloc ?_ _));refine blk_put (cs:=#[.int .i64 0,.slice none 0 0]) ?_ 0 _ rfl;(with_reducible repeat (first|refine blk_drewN ?_ _|refine blk_drew ?_|refine blk_alloc ?_ _));exact BK194.out⟩,⟨by repeat (first|(with_reducible first|exact HB.out|apply below_alloc|apply pw_below_drewN|apply below_drew1|refine below_set ?_ GE191.out|refine below_set ?_ GE194.out)|exact HB.out)⟩⟩
           case round =>
            clear H'
            try clear c1
            try clear p1
            try clear q1
            try clear hx1
            try clear p2
            try clear c3
            try clear c3b0
            try clear c3b1
            try clear c4
            try clear c4b0
            try clear c4b1
            try clear c10
            try clear c10b0
            try clear c12
            try clear c12b0
            try clear c13
            try clear c13b0
            try clear c14
            try clear c14b0
            try clear c16
            try clear c17
            try clear hcz11_0
            try clear hcz11_1
            try clear hcz11_2
            try clear hcz11_3
            try clear hcz17_0
            try clear hcz17_1
            try clear hcz7_0
            try clear hcz7_1
            try clear hcz7_2
            try clear hcz7_3
            try clear hcz9_0
            try clear hcz9_1
            try clear hcz9_2
            try clear hcz9_3
            try clear hfz11_0
            try clear hfz11_1
            try clear hfz11_2
            try clear hfz11_3
            try clear hfz17_0
            try clear hfz17_1
            try clear hfz7_0
            try clear hfz7_1
            try clear hfz7_2
            try clear hfz7_3
            try clear hfz9_0
            try clear hfz9_1
            try clear hfz9_2
            try clear hfz9_3
            try clear hx193_0
            try clear hx193_1
            try clear p193
            try clear p2
            try clear q193
            obtain ⟨x5_3,x32_3,rfl,rfl,HA,HK3,BK191,BK194,HB⟩:=hrel
            cases gk with
            | zero=>exact absurd HA.out (by simp [grammar_Comes.l2])
            | succ k3 =>
             have H:=HA.out
             clear HA
             simp only [grammar_Comes.l2] at H
             by_cases c18 : x32_3 < (((rd_T27 l0_3 x25_2).f1).length : Int)
             ·rw [if_pos c18] at H
              have c18b0 : decide (x32_3 < (((rd_T27 l0_3 x25_2).f1).length : Int)) = true:=decide_eq_true c18
              clear c18
              by_cases c19 : 0 ≤ x32_3
              ·rw [if_pos c19] at H
               have c19b0 : decide (0 ≤ x32_3) = true:=decide_eq_true c19
               clear c19
               by_cases c20 : x32_3 < (((rd_T27 l0_3 x25_2).f1).length : Int)
               ·rw [if_pos c20] at H
                have c20b0 : decide (x32_3 < (((rd_T27 l0_3 x25_2).f1).length : Int)) = true:=decide_eq_true c20
                clear c20
                by_cases c21 : 0 ≤ ((rd_T27 l0_3 x25_2).f0)
                ·rw [if_pos c21] at H
                 have c21b0:=eq_true c21
                 have c21b1 : decide (0 ≤ ((rd_T27 l0_3 x25_2).f0)) = true:=decide_eq_true c21
                 clear c21
                 obtain ⟨ji22,hji22⟩ : ∃ j_ : Int,(shr .u32 x5_3 ((rd_T27 l0_3 x25_2).f0)) = j_:=⟨_,rfl⟩
                 replace H : (if (Go.bits .and .u32 (ji22) 1) = 1 then (if (rd ((rd_T27 l0_3 x25_2).f1) x32_3) ≥ a0_0 then (if 0 ≤ (wrap64 ((rd ((rd_T27 l0_3 x25_2).f1) x32_3) - a0_0)) then (grammar_Comes.l2 k3 (Go.bits .or .u32 x5_3 (shl .u32 1 (wrap64 ((rd ((rd_T27 l0_3 x25_2).f1) x32_3) - a0_0)))) a0_1 x20_1 l0_3 (l0_3.length : Int) x25_2 ((rd_T27 l0_3 x25_2).f1) (((rd_T27 l0_3 x25_2).f1).length : Int) (wrap64 (x32_3 + 1)) a0_0 a0_1 a0_2 l0_3 ((rd_T27 l0_3 x25_2).f0) ((rd_T27 l0_3 x25_2).f1)) else (none)) else (grammar_Comes.l2 k3 x5_3 a0_1 x20_1 l0_3 (l0_3.length : Int) x25_2 ((rd_T27 l0_3 x25_2).f1) (((rd_T27 l0_3 x25_2).f1).length : Int) (wrap64 (x32_3 + 1)) a0_0 a0_1 a0_2 l0_3 ((rd_T27 l0_3 x25_2).f0) ((rd_T27 l0_3 x25_2).f1))) else (grammar_Comes.l2 k3 x5_3 a0_1 x20_1 l0_3 (l0_3.length : Int) x25_2 ((rd_T27 l0_3 x25_2).f1) (((rd_T27 l0_3 x25_2).f1).length : Int) (wrap64 (x32_3 + 1)) a0_0 a0_1 a0_2 l0_3 ((rd_T27 l0_3 x25_2).f0) ((rd_T27 l0_3 x25_2).f1))) = some (r1,r2):=by first|(rw [hji22] at H;exact H)|(simp only [hji22] at H ⊢;exact H)
                 have hji22_ : (x5_3 / 2 ^ min ((rd_T27 l0_3 x25_2).f0).toNat 32) = ji22:=hji22
                 have hji22z : ((rd_T27 l0_3 x25_2).f0) ≤ 32 → (x5_3 / 2 ^ ((rd_T27 l0_3 x25_2).f0).toNat) = ji22:=shr_small hji22
                 by_cases c23 : (Go.bits .and .u32 (ji22) 1) = 1
                 ·rw [if_pos c23] at H
                  have c23b0 : ((Go.bits .and .u32 (ji22) 1) == 1) = true:=beq_iff_eq.mpr c23
                  have c23b1 : ((Go.bits .and .u32 (ji22) 1) != 1) = false:=bne_eq_false_iff_eq.mpr c23
                  clear c23
                  by_cases c24 : (rd ((rd_T27 l0_3 x25_2).f1) x32_3) ≥ a0_0
                  ·rw [if_pos c24] at H
                   have c24b0 : decide (a0_0 ≤ (rd ((rd_T27 l0_3 x25_2).f1) x32_3)) = true:=decide_eq_true c24
                   clear c24
                   obtain ⟨ji25,hji25⟩ : ∃ j_ : Int,(wrap64 ((rd ((rd_T27 l0_3 x25_2).f1) x32_3) - a0_0)) = j_:=⟨_,rfl⟩
                   replace H : (if 0 ≤ (ji25) then (grammar_Comes.l2 k3 (Go.bits .or .u32 x5_3 (shl .u32 1 (ji25))) a0_1 x20_1 l0_3 (l0_3.length : Int) x25_2 ((rd_T27 l0_3 x25_2).f1) (((rd_T27 l0_3 x25_2).f1).length : Int) (wrap64 (x32_3 + 1)) a0_0 a0_1 a0_2 l0_3 ((rd_T27 l0_3 x25_2).f0) ((rd_T27 l0_3 x25_2).f1)) else (none)) = some (r1,r2):=by first|(rw [hji25] at H;exact H)|(simp only [hji25] at H ⊢;exact H)
                   have hji25w : (IntKind.i64.wrap ((rd ((rd_T27 l0_3 x25_2).f1) x32_3) - a0_0)) = ji25:=(i64_w _).trans hji25
                   by_cases c26 : 0 ≤ (ji25)
                   ·rw [if_pos c26] at H
                    have c26b0:=eq_true c26
                    have c26b1 : decide (0 ≤ (ji25)) = true:=decide_eq_true c26
                    clear c26
                    obtain ⟨ji27,hji27⟩ : ∃ j_ : Int,(shl .u32 1 (ji25)) = j_:=⟨_,rfl⟩
                    replace H : (grammar_Comes.l2 k3 (Go.bits .or .u32 x5_3 (ji27)) a0_1 x20_1 l0_3 (l0_3.length : Int) x25_2 ((rd_T27 l0_3 x25_2).f1) (((rd_T27 l0_3 x25_2).f1).length : Int) (wrap64 (x32_3 + 1)) a0_0 a0_1 a0_2 l0_3 ((rd_T27 l0_3 x25_2).f0) ((rd_T27 l0_3 x25_2).f1)) = some (r1,r2):=by first|(rw [hji27] at H;exact H)|(simp only [hji27] at H ⊢;exact H)
                    have hji27_ : (IntKind.u32.wrap (1 * 2 ^ min (ji25).toNat 32)) = ji27:=hji27
                    have hji27z : (ji25) ≤ 32 → (IntKind.u32.wrap (1 * 2 ^ (ji25).toNat)) = ji27:=shl_small hji27
                    have hji27u : (IntKind.u32.wrap (2 ^ min (ji25).toNat 32)) = ji27:=by have h_:=hji27_;rw [Int.one_mul] at h_;exact h_
                    have hji27v : (ji25) ≤ 32 → (IntKind.u32.wrap (2 ^ (ji25).toNat)) = ji27:=fun hle_=>by have h_:=hji27z hle_;rw [Int.one_mul] at h_;exact h_
                    have H':=Aside0.mk H
                    clear H
                    have p195 : 0 ≤ (x32_3 : Int):=of_decide_eq_true (by first|(with_reducible assumption)|assumption)
                    have q195 : x32_3 < (((rd_T27 l0_3 x25_2).f1).length : Int):=of_decide_eq_true (by first|(with_reducible assumption)|assumption)
                    obtain ⟨ad195,e195,hx195_0⟩:=Kd.at_int HR193_1.out x32_3 p195 q195
                    cases e195
                    replace hx195_0:=(HB.out.cell (World.block_lt_of_cell? w _ hx195_0)).trans hx195_0
                    replace p195:=eq_true p195
                    replace q195:=eq_true q195
                    have hnb28:=NB194_191.out
                    have hnc28:=NB191_194.out
                    have hcz29_0 : wr.cell? ⟨gb194,0,none⟩ = some (.int .i64 ((rd_T27 l0_3 x25_2).f0)):=(blk_cell BK194.out 0).trans rfl
                    have hcz29_1 : wr.cell? ⟨gb194,1,none⟩ = some (.slice (some ad195) ((rd_T27 l0_3 x25_2).f1).length c193_1):=(blk_cell BK194.out 1).trans rfl
                    have hfz29_0:=blk_frozen BK194.out 0
                    have hfz29_1:=blk_frozen BK194.out 1
                    have hcz30_0 : wr.cell? ⟨gb191,0,none⟩ = some (.int .i64 a0_0):=(blk_cell BK191.out 0).trans rfl
                    have hcz30_1 : wr.cell? ⟨gb191,1,none⟩ = some (.int .i64 a0_1):=(blk_cell BK191.out 1).trans rfl
                    have hcz30_2 : wr.cell? ⟨gb191,2,none⟩ = some (.int .i64 a0_2):=(blk_cell BK191.out 2).trans rfl
                    have hcz30_3 : wr.cell? ⟨gb191,3,none⟩ = some (.slice (some ad193) l0_3.length c0_3):=(blk_cell BK191.out 3).trans rfl
                    have hfz30_0:=blk_frozen BK191.out 0
                    have hfz30_1:=blk_frozen BK191.out 1
                    have hfz30_2:=blk_frozen BK191.out 2
                    have hfz30_3:=blk_frozen BK191.out 3
                    go_wp2
                    first|go_roundg k3|((simp only [← hji5,← hji22,← hji25,← hji27]);go_roundg k3)
                    case measure=>have:=HK1.out;have:=HK2.out;have:=HK3.out;omega
                    case rel=>exact ⟨(Go.bits .or .u32 x5_3 (ji27)),(wrap64 (x32_3 + 1)),(by first|rfl|(simp;done)|(simp only [← hji27] <;> (first|rfl|simp))|(simp [*];done)),(by first|rfl|(simp;done)|(simp [*];done)),(by first|exact H'|((simp only [hji5,hji22,hji25,hji27]);exact H')|(have h_:=H'.out;simp only [← hji5,← hji22,← hji25,← hji27] at h_ ⊢;exact ⟨h_⟩)),⟨by have:=HK1.out;have:=HK2.out;have:=HK3.out;omega⟩,⟨by (with_reducible repeat (first|refine blk_drewN ?_ _|refine blk_drew ?_|refine blk_alloc ?_ _));exact BK191.out⟩,⟨by (with_reducible repeat (first|refine blk_drewN ?_ _|refine blk_drew ?_|refine blk_alloc ?_ _));exact BK194.out⟩,⟨by repeat (first|(with_reducible first|exact HB.out|apply below_alloc|apply pw_below_drewN|apply below_drew1|refine below_set ?_ GE191.out|refine below_set ?_ GE194.out)|exact HB.out)⟩⟩
                   ·rw [if_neg c26] at H
                    exact absurd H (by simp)
                  ·rw [if_neg c24] at H
                   have c24b0 : decide (a0_0 ≤ (rd ((rd_T27 l0_3 x25_2).f1) x32_3)) = false:=decide_eq_false c24
                   clear c24
                   have H':=Aside0.mk H
                   clear H
                   have p195 : 0 ≤ (x32_3 : Int):=of_decide_eq_true (by first|(with_reducible assumption)|assumption)
                   have q195 : x32_3 < (((rd_T27 l0_3 x25_2).f1).length : Int):=of_decide_eq_true (by first|(with_reducible assumption)|assumption)
                   obtain ⟨ad195,e195,hx195_0⟩:=Kd.at_int HR193_1.out x32_3 p195 q195
                   cases e195
                   replace hx195_0:=(HB.out.cell (World.block_lt_of_cell? w _ hx195_0)).trans hx195_0
                   replace p195:=eq_true p195
                   replace q195:=eq_true q195
                   have hnb31:=NB194_191.out
                   have hnc31:=NB191_194.out
                   have hcz32_0 : wr.cell? ⟨gb194,0,none⟩ = some (.int .i64 ((rd_T27 l0_3 x25_2).f0)):=(blk_cell BK194.out 0).trans rfl
                   have hcz32_1 : wr.cell? ⟨gb194,1,none⟩ = some (.slice (some ad195) ((rd_T27 l0_3 x25_2).f1).length c193_1):=(blk_cell BK194.out 1).trans rfl
                   have hfz32_0:=blk_frozen BK194.out 0
                   have hfz32_1:=blk_frozen BK194.out 1
                   have hcz33_0 : wr.cell? ⟨gb191,0,none⟩ = some (.int .i64 a0_0):=(blk_cell BK191.out 0).trans rfl
                   have hcz33_1 : wr.cell? ⟨gb191,1,none⟩ = some (.int .i64 a0_1):=(blk_cell BK191.out 1).trans rfl
                   have hcz33_2 : wr.cell? ⟨gb191,2,none⟩ = some (.int .i64 a0_2):=(blk_cell BK191.out 2).trans rfl
                   have hcz33_3 : wr.cell? ⟨gb191,3,none⟩ = some (.slice (some ad193) l0_3.length c0_3):=(blk_cell BK191.out 3).trans rfl
                   have hfz33_0:=blk_frozen BK191.out 0
                   have hfz33_1:=blk_frozen BK191.out 1
                   have hfz33_2:=blk_frozen BK191.out 2
                   have hfz33_3:=blk_frozen BK191.out 3
                   go_wp2
                   first|go_roundg k3|((simp only [← hji5,← hji22]);go_roundg k3)
                   case measure=>have:=HK1.out;have:=HK2.out;have:=HK3.out;omega
                   case rel=>exact ⟨(x5_3),(wrap64 (x32_3 + 1)),(by first|rfl|(simp;done)|(simp [*];done)),(by first|rfl|(simp;done)|(simp [*];done)),(by first|exact H'|((simp only [hji5,hji22]);exact H')|(have h_:=H'.out;simp only [← hji5,← hji22] at h_ ⊢;exact ⟨h_⟩)),⟨by have:=HK1.out;have:=HK2.out;have:=HK3.out;omega⟩,⟨by (with_reducible repeat (first|refine blk_drewN ?_ _|refine blk_drew ?_|refine blk_alloc ?_ _));exact BK191.out⟩,⟨by (with_reducible repeat (first|refine blk_drewN ?_ _|refine blk_drew ?_|refine blk_alloc ?_ _));exact BK194.out⟩,⟨by repeat (first|(with_reducible first|exact HB.out|apply below_alloc|apply pw_below_drewN|apply below_drew1|refine below_set ?_ GE191.out|refine below_set ?_ GE194.out)|exact HB.out)⟩⟩
                 ·rw [if_neg c23] at H
                  have c23b0 : ((Go.bits .and .u32 (ji22) 1) == 1) = false:=beq_eq_false_iff_ne.mpr c23
                  have c23b1 : ((Go.bits .and .u32 (ji22) 1) != 1) = true:=bne_iff_ne.mpr c23
                  have H':=Aside0.mk H
                  clear H
                  have p195 : 0 ≤ (x32_3 : Int):=of_decide_eq_true (by first|(with_reducible assumption)|assumption)
                  have q195 : x32_3 < (((rd_T27 l0_3 x25_2).f1).length : Int):=of_decide_eq_true (by first|(with_reducible assumption)|assumption)
                  obtain ⟨ad195,e195,hx195_0⟩:=Kd.at_int HR193_1.out x32_3 p195 q195
                  cases e195
                  replace hx195_0:=(HB.out.cell (World.block_lt_of_cell? w _ hx195_0)).trans hx195_0
                  replace p195:=eq_true p195
                  replace q195:=eq_true q195
                  have hnb34:=NB194_191.out
                  have hnc34:=NB191_194.out
                  have hcz35_0 : wr.cell? ⟨gb194,0,none⟩ = some (.int .i64 ((rd_T27 l0_3 x25_2).f0)):=(blk_cell BK194.out 0).trans rfl
                  have hcz35_1 : wr.cell? ⟨gb194,1,none⟩ = some (.slice (some ad195) ((rd_T27 l0_3 x25_2).f1).length c193_1):=(blk_cell BK194.out 1).trans rfl
                  have hfz35_0:=blk_frozen BK194.out 0
                  have hfz35_1:=blk_frozen BK194.out 1
                  go_wp2
                  first|go_roundg k3|((simp only [← hji5,← hji22]);go_roundg k3)
                  case measure=>have:=HK1.out;have:=HK2.out;have:=HK3.out;omega
                  case rel=>exact ⟨(x5_3),(wrap64 (x32_3 + 1)),(by first|rfl|(simp;done)|(simp [*];done)),(by first|rfl|(simp;done)|(simp [*];done)),(by first|exact H'|((simp only [hji5,hji22]);exact H')|(have h_:=H'.out;simp only [← hji5,← hji22] at h_ ⊢;exact ⟨h_⟩)),⟨by have:=HK1.out;have:=HK2.out;have:=HK3.out;omega⟩,⟨by (with_reducible repeat (first|refine blk_drewN ?_ _|refine blk_drew ?_|refine blk_alloc ?_ _));exact BK191.out⟩,⟨by (with_reducible repeat (first|refine blk_drewN ?_ _|refine blk_drew ?_|refine blk_alloc ?_ _));exact BK194.out⟩,⟨by repeat (first|(with_reducible first|exact HB.out|apply below_alloc|apply pw_below_drewN|apply below_drew1|refine below_set ?_ GE191.out|refine below_set ?_ GE194.out)|exact HB.out)⟩⟩
                ·rw [if_neg c21] at H
                 exact absurd H (by simp)
               ·rw [if_neg c20] at H
                exact absurd H (by simp)
              ·rw [if_neg c19] at H
               exact absurd H (by simp)
             ·rw [if_neg c18] at H
              have c18b0 : decide (x32_3 < (((rd_T27 l0_3 x25_2).f1).length : Int)) = false:=decide_eq_false c18
              clear c18
              have H':=Aside0.mk H
              clear H
              go_wp2
              first|go_roundg k3|((simp only [← hji5]);go_roundg k3)
              case measure=>have:=HK1.out;have:=HK2.out;have:=HK3.out;omega
              case rel=>exact ⟨(x5_3),(wrap64 (x25_2 + 1)),(by first|rfl|(simp;done)|(simp [*];done)),(by first|rfl|(simp;done)|(simp [*];done)),(by first|exact H'|((simp only [hji5]);exact H')|(have h_:=H'.out;simp only [← hji5] at h_ ⊢;exact ⟨h_⟩)),⟨by have:=HK1.out;have:=HK2.out;have:=HK3.out;omega⟩,⟨by (with_reducible repeat (first|refine blk_drewN ?_ _|refine blk_drew ?_|refine blk_alloc ?_ _));exact BK191.out⟩,⟨by repeat (first|(with_reducible first|exact HB.out|apply below_alloc|apply pw_below_drewN|apply below_drew1|refine below_set ?_ GE191.out|refine below_set ?_ GE194.out)|exact HB.out)⟩⟩
          ·rw [if_neg c14] at H
           exact absurd H (by simp)
         ·rw [if_neg c13] at H
          exact absurd H (by simp)
        ·rw [if_neg c12] at H
         have c12b0 : decide (x25_2 < (l0_3.length : Int)) = false:=decide_eq_false c12
         clear c12
         have H':=Aside0.mk H
         clear H
         go_wp2
         first|go_roundg k2|((simp only [← hji5]);go_roundg k2)
         case measure=>have:=HK1.out;have:=HK2.out;omega
         case rel=>exact ⟨(x5_2),(wrap64 (x20_1 + 1)),(by first|rfl|(simp;done)|(simp [*];done)),(by first|rfl|(simp;done)|(simp [*];done)),(by first|exact H'|((simp only [hji5]);exact H')|(have h_:=H'.out;simp only [← hji5] at h_ ⊢;exact ⟨h_⟩)),⟨by have:=HK1.out;have:=HK2.out;omega⟩,⟨by (with_reducible repeat (first|refine blk_drewN ?_ _|refine blk_drew ?_|refine blk_alloc ?_ _));exact BK191.out⟩,⟨by repeat (first|(with_reducible first|exact HB.out|apply below_alloc|apply pw_below_drewN|apply below_drew1|refine below_set ?_ GE191.out)|exact HB.out)⟩⟩
     ·rw [if_neg c10] at H
      have c10b0 : decide (x20_1 < a0_1) = false:=decide_eq_false c10
      clear c10
      simp only [Option.some.injEq,Prod.mk.injEq] at H
      obtain ⟨rfl,rfl⟩:=H
      go_wp2
      go_ret2
      exact ⟨by first|rfl|(simp [errW_none,errW_some] <;> rfl)|(simp only [← hji5];first|rfl|(simp [errW_none,errW_some] <;> rfl))|(simp [*,errW_none,errW_some] <;> rfl),by repeat (first|(with_reducible first|exact HB.out|apply below_alloc|apply pw_below_drewN|apply below_drew1|refine below_set ?_ GE191.out)|exact HB.out)⟩
  ·rw [if_neg c4] at H
   exact absurd H (by simp)
 ·rw [if_neg c3] at H
  have c3b0 : (t192 == 0) = false:=beq_eq_false_iff_ne.mpr c3
  have c3b1 : (t192 != 0) = true:=bne_iff_ne.mpr c3
  simp only [Option.some.injEq,Prod.mk.injEq] at H
  obtain ⟨rfl,rfl⟩:=H
  go_enter Try.func17,Try.ntmps17
  go_wp2_with (first|((with_reducible refine gate_dst (N:=1) rfl ?_);refine box_event ?hg (N:=1) ?hd (cs:=#[.int .i64 a0_0,.int .i64 a0_1,.int .i64 a0_2,.slice A0_3 l0_3.length c0_3]) (t:=24) ?hr ?_;(case hd=>rfl);(case hg=>rfl);(case hr=>first|(go_simp;done)|(go_simp;rfl));intro gb191 hg w36 hbox hb;have n0_:=Aside0.mk (below_step (by repeat (first|(with_reducible first|exact HB.out|apply below_alloc|apply pw_below_drewN|apply below_drew1)|exact HB.out)) hb);have n1_:=Aside0.mk (hbox);have n2_:=Aside0.mk ((by rw [hg];exact (below_size (by repeat (first|(with_reducible first|exact HB.out|apply below_alloc|apply pw_below_drewN|apply below_drew1)|exact HB.out))) : w.heap.size ≤ gb191));have n3_:=Aside0.mk ((by rw [hg];exact (below_size (by repeat (first|(with_reducible first|exact HB.out|apply below_alloc|apply pw_below_drewN|apply below_drew1)|exact HB.out))) : w.heap.size ≤ gb191));clear HB;have HB:=n0_;have BK191:=n1_;have GW191:=n2_;have GE191:=n3_;clear n0_ n1_ n2_ n3_;clear hb hbox hg;have hcz37_0 : w36.cell? ⟨gb191,0,none⟩ = some (.int .i64 a0_0):=(blk_cell BK191.out 0).trans rfl;have hcz37_1 : w36.cell? ⟨gb191,1,none⟩ = some (.int .i64 a0_1):=(blk_cell BK191.out 1).trans rfl;have hcz37_2 : w36.cell? ⟨gb191,2,none⟩ = some (.int .i64 a0_2):=(blk_cell BK191.out 2).trans rfl;have hcz37_3 : w36.cell? ⟨gb191,3,none⟩ = some (.slice A0_3 l0_3.length c0_3):=(blk_cell BK191.out 3).trans rfl;have hfz37_0:=blk_frozen BK191.out 0;have hfz37_1:=blk_frozen BK191.out 1;have hfz37_2:=blk_frozen BK191.out 2;have hfz37_3:=blk_frozen BK191.out 3)|((with_reducible refine gate_callee (f:=40) rfl ?_);refine goesL_ (some 11) rfl rfl Try.func40 (by kernel_rfl) rfl #[.agg #[.int .i64 a0_0,.int .i64 a0_1,.int .i64 a0_2,.slice A0_3 l0_3.length c0_3]] rfl (by (try simp only [List.map_toArray,List.map_cons,List.map_nil]);first|done|rfl|(simp only [List.length_drop,List.length_take];rfl)) ?_;(with_reducible refine (grammar_Check.calls k a0_0 a0_1 a0_2 _ _ l0_3 t192 _ ?side1 ?side2 A2.out).mono ?_);(case side1=>repeat (first|exact (Kd.C_below HR0_3.out HB.out)|(with_reducible refine Kd.C_alloc ?_ _)|(with_reducible refine Kd.C_drewN ?_ _)|(with_reducible refine Kd.C_drew ?_)));(case side2=>exact HC0_3.out);rintro e w38 ⟨rfl,hb⟩;refine ⟨_,rfl,?_⟩;have n0_:=Aside0.mk (blk_below (g:=gb191) (o:=.cells #[.int .i64 a0_0,.int .i64 a0_1,.int .i64 a0_2,.slice A0_3 l0_3.length c0_3] 24 (0,0)) (by (with_reducible repeat (first|refine blk_drewN ?_ _|refine blk_drew ?_|refine blk_alloc ?_ _));exact BK191.out) hb);have n1_:=Aside0.mk (below_step (by repeat (first|(with_reducible first|exact HB.out|apply below_alloc|apply pw_below_drewN|apply below_drew1|refine below_set ?_ GE191.out)|exact HB.out)) hb);clear BK191;clear HB;have BK191:=n0_;have HB:=n1_;clear n0_ n1_;(try clear hb);(try clear hb2);(try clear hk);(try clear hi)))
  go_ret2
  exact ⟨by first|rfl|(simp [errW_none,errW_some] <;> rfl)|(simp [*,errW_none,errW_some] <;> rfl),by repeat (first|(with_reducible first|exact HB.out|apply below_alloc|apply pw_below_drewN|apply below_drew1|refine below_set ?_ GE191.out)|exact HB.out)⟩
end Go.Proofs.Ytnkackiocigdoaa.GE
