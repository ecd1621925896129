-- Written by ext.py, a program of this session.
import Derived.Test.YthgiiikjcfhgjaaGV0
import Derived.Test.YthgiiikjcfhgjaaGV8
namespace Go.Proofs.Ythgiiikjcfhgjaa.GV
open Go.RowKit Go.Proofs.YthgiiikjcfhgjaaW.PrintWords Go.Proofs.YthgiiikjcfhgjaaW.PrintLast Go.Proofs.YthgiiikjcfhgjaaW.PrintMore
attribute [local go_sem] max2_int min2_int max_two min_two max_three min_three max_four min_four cellIs_set   -- for this text's walks alone
set_option linter.unusedVariables false
set_option linter.unusedSimpArgs false
/-! ### least_alike: function 119 -/
def least_alike.l0 : Nat → List Bool → Int → Int → Int → Int → List (List Int) → Int → Int → Option (List Int)
 | 0,_,_,_,_,_,_,_,_=>none
 | k + 1,x3,x6,x7,x166000,x166001,x166002,x166003,x166004=>if x7 < x6 then (if 0 ≤ x7 then (if x3.length < 140737488355328 then (least_alike.l0 k (x3 ++ [((Go.bits .and .u32 (shr .u32 x166004 x7) 1) == 1)]) x6 (wrap64 (x7 + 1)) x166000 x166001 x166002 x166003 x166004) else (none)) else (none)) else ((least_parts.f k x166000 x166001 x166002 x166003 x166004 x3).bind fun t169=>(some t169))
def least_alike.f (k : Nat) (a0_0 : Int) (a0_1 : Int) (l0_2 : List (List Int)) (a0_3 : Int) (a0_4 : Int) : Option (List Int):=least_alike.l0 k ([] : List Bool) a0_0 0 a0_0 a0_1 l0_2 a0_3 a0_4
theorem least_alike.mono_l : ∀ k,(∀ y0 y1 y2 y3 y4 y5 y6 y7,LeO (least_alike.l0 k y0 y1 y2 y3 y4 y5 y6 y7) (least_alike.l0 (k + 1) y0 y1 y2 y3 y4 y5 y6 y7))
 | 0=>fun _ _ _ _ _ _ _ _ r h=>by simp [least_alike.l0] at h
 | k + 1=>by
  have ih0:=least_alike.mono_l k
  ·intro y0 y1 y2 y3 y4 y5 y6 y7
   unfold least_alike.l0
   repeat' first
   | (with_reducible exact ih0 _ _ _ _ _ _ _ _)
   | (with_reducible exact least_parts.mono _ _ _ _ _ _ _)
   | (with_reducible exact LeO.refl _)
   | (with_reducible exact LeO.none _)
   | (with_reducible refine LeO.ite ?_ ?_)
   | (with_reducible refine LeO.bind ?_ (fun _=>?_))
   | exact ih0 _ _ _ _ _ _ _ _
   | exact least_parts.mono _ _ _ _ _ _ _
   | exact LeO.none _
   | refine LeO.ite ?_ ?_
   | refine LeO.bind ?_ (fun _=>?_)
theorem least_alike.mono : ∀ a0 a1 a2 a3 a4 k,LeO (least_alike.f k a0 a1 a2 a3 a4) (least_alike.f (k + 1) a0 a1 a2 a3 a4):=by
 intro a0 a1 a2 a3 a4 k
 have ih0:=least_alike.mono_l k
 unfold least_alike.f
 repeat' first
   | (with_reducible exact ih0 _ _ _ _ _ _ _ _)
   | (with_reducible exact least_parts.mono _ _ _ _ _ _ _)
   | (with_reducible exact LeO.refl _)
   | (with_reducible exact LeO.none _)
   | (with_reducible refine LeO.ite ?_ ?_)
   | (with_reducible refine LeO.bind ?_ (fun _=>?_))
   | exact ih0 _ _ _ _ _ _ _ _
   | exact least_parts.mono _ _ _ _ _ _ _
   | exact LeO.none _
   | refine LeO.ite ?_ ?_
   | refine LeO.bind ?_ (fun _=>?_)
set_option maxHeartbeats 8000000 in
set_option maxRecDepth 100000 in
theorem least_alike.calls (k : Nat) (a0_0 : Int) (a0_1 : Int) (A0_2 : Option Addr) (c0_2 : Nat) (l0_2 : List (List Int)) (a0_3 : Int) (a0_4 : Int) (r : List Int) (w : World) (hr0_2 : Kd.C (Kd.slice 3 (Kd.int .i64)) w A0_2 l0_2.length l0_2) (hc0_2 : l0_2.length ≤ c0_2) (h : least_alike.f k a0_0 a0_1 l0_2 a0_3 a0_4 = some r) :
  Calls Try.prog 119 #[.agg #[.int .i64 a0_0,.int .i64 a0_1,.slice A0_2 l0_2.length c0_2,.int .i64 a0_3,.int .u32 a0_4]] w fun e w'=>∃ v0_ : Value,e = .returned (v0_) ∧ Kd.R (Kd.int .i64) 3 w' w.heap.size (fun _=>True) v0_ r ∧ Below w.heap.size w w':=by
 have hu63:=Try.underlying63
 have HR0_2:=Aside0.mk hr0_2
 have HC0_2:=Aside0.mk hc0_2
 clear hr0_2 hc0_2
 have HB:=Aside0.mk (Below.refl w.heap.size w)
 have H : (least_alike.l0 k ([] : List Bool) a0_0 0 a0_0 a0_1 l0_2 a0_3 a0_4) = some r:=h
 clear h
 have H':=Aside0.mk H
 clear H
 go_enter Try.func119,Try.ntmps119
 go_wp2_with (first|((with_reducible refine gate_dst (N:=1) rfl ?_);refine box_event ?hg (N:=1) ?hd (cs:=#[.int .i64 a0_0,.int .i64 a0_1,.slice A0_2 l0_2.length c0_2,.int .i64 a0_3,.int .u32 a0_4]) (t:=63) ?hr ?_;(case hd=>rfl);(case hg=>rfl);(case hr=>first|(go_simp;done)|(go_simp;rfl));intro gb165 hg w2 hbox hb;have n0_:=Aside0.mk (below_step (by repeat (first|(with_reducible first|exact HB.out|apply below_alloc|apply pw_below_drewN|apply below_drew1)|exact HB.out)) hb);have n1_:=Aside0.mk (hbox);have n2_:=Aside0.mk ((by rw [hg];exact (below_size (by repeat (first|(with_reducible first|exact HB.out|apply below_alloc|apply pw_below_drewN|apply below_drew1)|exact HB.out))) : w.heap.size ≤ gb165));have n3_:=Aside0.mk ((by rw [hg];exact (below_size (by repeat (first|(with_reducible first|exact HB.out|apply below_alloc|apply pw_below_drewN|apply below_drew1)|exact HB.out))) : w.heap.size ≤ gb165));clear HB;have HB:=n0_;have BK165:=n1_;have GW165:=n2_;have GE165:=n3_;clear n0_ n1_ n2_ n3_;clear hb hbox hg;have hcz3_0 : w2.cell? ⟨gb165,0,none⟩ = some (.int .i64 a0_0):=(blk_cell BK165.out 0).trans rfl;have hcz3_1 : w2.cell? ⟨gb165,1,none⟩ = some (.int .i64 a0_1):=(blk_cell BK165.out 1).trans rfl;have hcz3_2 : w2.cell? ⟨gb165,2,none⟩ = some (.slice A0_2 l0_2.length c0_2):=(blk_cell BK165.out 2).trans rfl;have hcz3_3 : w2.cell? ⟨gb165,3,none⟩ = some (.int .i64 a0_3):=(blk_cell BK165.out 3).trans rfl;have hcz3_4 : w2.cell? ⟨gb165,4,none⟩ = some (.int .u32 a0_4):=(blk_cell BK165.out 4).trans rfl;have hfz3_0:=blk_frozen BK165.out 0;have hfz3_1:=blk_frozen BK165.out 1;have hfz3_2:=blk_frozen BK165.out 2;have hfz3_3:=blk_frozen BK165.out 3;have hfz3_4:=blk_frozen BK165.out 4))
 go_loopg [3,7] k (fun kq v3 v7 w'=>∃ (x3_1 : List Bool) (x7_1 : Int),v7 = .int .i64 x7_1 ∧ Aside0 (least_alike.l0 kq x3_1 a0_0 x7_1 a0_0 a0_1 l0_2 a0_3 a0_4 = some r) ∧ Aside0 (kq ≤ k) ∧ Aside0 (Kd.R Kd.bool 4 w' w.heap.size (fun _=>True) v3 x3_1) ∧ Aside0 (w'.heap[gb165]? = some (.cells #[.int .i64 a0_0,.int .i64 a0_1,(.slice A0_2 l0_2.length c0_2),.int .i64 a0_3,.int .u32 a0_4] 63 (0,0))) ∧ Aside0 (Below w.heap.size w w'))
 case atStart=>exact ⟨(([] : List Bool)),(0),(by first|rfl|(simp;done)|(simp [*];done)),H',⟨Nat.le_refl _⟩,⟨by first|exact Kd.R_nil _ _ _ _ _|exact Kd.N_nil _ _ _ _ _|exact Kd.V_nil _ _ _ _ _|exact Kd.Q_nil _ _ _ _ _|exact Kd.S_nil _ _ _ _ _⟩,⟨by (with_reducible repeat (first|refine blk_drewN ?_ _|refine blk_drew ?_|refine blk_alloc ?_ _));exact BK165.out⟩,⟨by repeat (first|(with_reducible first|exact HB.out|apply below_alloc|apply pw_below_drewN|apply below_drew1|refine below_set ?_ GE165.out)|exact HB.out)⟩⟩
 case round =>
  clear H'
  try clear c1
  try clear p2
  try clear hcz3_0
  try clear hcz3_1
  try clear hcz3_2
  try clear hcz3_3
  try clear hcz3_4
  try clear hfz3_0
  try clear hfz3_1
  try clear hfz3_2
  try clear hfz3_3
  try clear hfz3_4
  obtain ⟨x3_1,x7_1,rfl,HA,HK1,HO_3,BK165,HB⟩:=hrel
  cases gk with
  | zero=>exact absurd HA.out (by simp [least_alike.l0])
  | succ k1 =>
   have H:=HA.out
   clear HA
   simp only [least_alike.l0] at H
   by_cases c4 : x7_1 < a0_0
   ·rw [if_pos c4] at H
    have c4b0 : decide (x7_1 < a0_0) = true:=decide_eq_true c4
    clear c4
    by_cases c5 : 0 ≤ x7_1
    ·rw [if_pos c5] at H
     have c5b0:=eq_true c5
     have c5b1 : decide (0 ≤ x7_1) = true:=decide_eq_true c5
     clear c5
     obtain ⟨ji6,hji6⟩ : ∃ j_ : Int,(shr .u32 a0_4 x7_1) = j_:=⟨_,rfl⟩
     replace H : (if x3_1.length < 140737488355328 then (least_alike.l0 k1 (x3_1 ++ [((Go.bits .and .u32 (ji6) 1) == 1)]) a0_0 (wrap64 (x7_1 + 1)) a0_0 a0_1 l0_2 a0_3 a0_4) else (none)) = some r:=by first|(rw [hji6] at H;exact H)|(simp only [hji6] at H ⊢;exact H)
     have hji6_ : (a0_4 / 2 ^ min x7_1.toNat 32) = ji6:=hji6
     have hji6z : x7_1 ≤ 32 → (a0_4 / 2 ^ x7_1.toNat) = ji6:=shr_small hji6
     by_cases c7 : x3_1.length < 140737488355328
     ·rw [if_pos c7] at H
      have LMc7:=Aside0.mk c7
      clear c7
      obtain ⟨y166,hy166⟩ : ∃ y_ : List Bool,y_ = (x3_1 ++ [((Go.bits .and .u32 (ji6) 1) == 1)]):=⟨_,rfl⟩
      replace H : (least_alike.l0 k1 y166 a0_0 (wrap64 (x7_1 + 1)) a0_0 a0_1 l0_2 a0_3 a0_4) = some r:=by first|(rw [hy166];with_reducible exact H)|(have H2_:=(Option.bind_some _ _).symm.trans H;rw [hy166];with_reducible exact H2_)|(have H2_:=(Option.bind_some _ _).symm.trans H;with_reducible exact H2_)|with_reducible exact H|(rw [hy166];exact H)|exact H
      have Ny166:=Aside0.mk hy166
      clear hy166
      have H':=Aside0.mk H
      clear H
      have hcz8_0 : wr.cell? ⟨gb165,0,none⟩ = some (.int .i64 a0_0):=(blk_cell BK165.out 0).trans rfl
      have hcz8_1 : wr.cell? ⟨gb165,1,none⟩ = some (.int .i64 a0_1):=(blk_cell BK165.out 1).trans rfl
      have hcz8_2 : wr.cell? ⟨gb165,2,none⟩ = some (.slice A0_2 l0_2.length c0_2):=(blk_cell BK165.out 2).trans rfl
      have hcz8_3 : wr.cell? ⟨gb165,3,none⟩ = some (.int .i64 a0_3):=(blk_cell BK165.out 3).trans rfl
      have hcz8_4 : wr.cell? ⟨gb165,4,none⟩ = some (.int .u32 a0_4):=(blk_cell BK165.out 4).trans rfl
      have hfz8_0:=blk_frozen BK165.out 0
      have hfz8_1:=blk_frozen BK165.out 1
      have hfz8_2:=blk_frozen BK165.out 2
      have hfz8_3:=blk_frozen BK165.out 3
      have hfz8_4:=blk_frozen BK165.out 4
      go_wp2_with (first|((with_reducible refine gate_builtin (b:=.append) (xs:=#[.tmp 10,.tmp 17]) rfl ?_);at_builtin;refine Kd.R_append Kd.bool (w0:=w) w.heap.size rfl (.tmp 10) (.tmp 17) 199 4 (.bool false) 1 rfl Try.underlying199 info4 rfl (by decide) (by omega) u3 x3_1 ((Go.bits .and .u32 (ji6) 1) == 1) [.bool ((Go.bits .and .u32 (ji6) 1) == 1)] (fun _=>True) (fun _=>False) rfl rfl ?aP (fun _ hk=>hk.elim) ?aF ?aO ?aB ?aS ?aL ?_;(case aP=>exact rfl);(case aB=>exact (by repeat (first|(with_reducible first|exact HB.out|apply below_alloc|apply pw_below_drewN|apply below_drew1|refine below_set ?_ GE165.out)|exact HB.out)));(case aF=>exact (fun _ _=>trivial));(case aO=>exact (by (with_reducible repeat (first|apply Kd.R_alloc|apply Kd.R_drewN|apply Kd.R_drew));exact HO_3.out));(case aS=>exact (below_size (by repeat (first|(with_reducible first|exact HB.out|apply below_alloc|apply pw_below_drewN|apply below_drew1|refine below_set ?_ GE165.out)|exact HB.out))));(case aL=>have:=LMc7.out;omega);intro v167 w9 ho hb hg hat;rw [← Ny166.out] at ho;have n0_:=Aside0.mk (blk_grown (g:=gb165) (o:=.cells #[.int .i64 a0_0,.int .i64 a0_1,.slice A0_2 l0_2.length c0_2,.int .i64 a0_3,.int .u32 a0_4] 63 (0,0)) (by (with_reducible repeat (first|refine blk_drewN ?_ _|refine blk_drew ?_|refine blk_alloc ?_ _));exact BK165.out) hg (Kd.R_ne HO_3.out BK165.out (by decide)));have n1_:=Aside0.mk (hb);have n2_:=Aside0.mk (ho);clear BK165;clear HB;clear HO_3;have BK165:=n0_;have HB:=n1_;have HO168:=n2_;clear n0_ n1_ n2_;clear ho hb hg hat))
      first|go_roundg k1|((simp only [← hji6]);go_roundg k1)
      case measure=>have:=HK1.out;omega
      case rel=>exact ⟨(y166),(wrap64 (x7_1 + 1)),(by first|rfl|(simp;done)|(simp [*];done)),(by first|exact H'|((simp only [hji6]);exact H')|(have h_:=H'.out;simp only [← hji6] at h_ ⊢;exact ⟨h_⟩)),⟨by have:=HK1.out;omega⟩,⟨by (with_reducible repeat (first|apply Kd.R_alloc|apply Kd.R_drewN|apply Kd.R_drew));exact HO168.out⟩,⟨by (with_reducible repeat (first|refine blk_drewN ?_ _|refine blk_drew ?_|refine blk_alloc ?_ _));(first|exact BK165.out|(have h_:=BK165.out;simp only [← hji6] at h_;exact h_))⟩,⟨by repeat (first|(with_reducible first|exact HB.out|apply below_alloc|apply pw_below_drewN|apply below_drew1|refine below_set ?_ GE165.out)|exact HB.out)⟩⟩
     ·rw [if_neg c7] at H
      exact absurd H (by simp)
    ·rw [if_neg c5] at H
     exact absurd H (by simp)
   ·rw [if_neg c4] at H
    have c4b0 : decide (x7_1 < a0_0) = false:=decide_eq_false c4
    clear c4
    replace H:=Option.bind_eq_some_iff.mp H
    obtain ⟨t169,A100,H⟩:=H
    replace H : (some t169) = some r:=H
    have A10:=Aside0.mk A100
    clear A100
    obtain rfl:=Option.some.inj H
    have hcz11_0 : wr.cell? ⟨gb165,0,none⟩ = some (.int .i64 a0_0):=(blk_cell BK165.out 0).trans rfl
    have hcz11_1 : wr.cell? ⟨gb165,1,none⟩ = some (.int .i64 a0_1):=(blk_cell BK165.out 1).trans rfl
    have hcz11_2 : wr.cell? ⟨gb165,2,none⟩ = some (.slice A0_2 l0_2.length c0_2):=(blk_cell BK165.out 2).trans rfl
    have hcz11_3 : wr.cell? ⟨gb165,3,none⟩ = some (.int .i64 a0_3):=(blk_cell BK165.out 3).trans rfl
    have hcz11_4 : wr.cell? ⟨gb165,4,none⟩ = some (.int .u32 a0_4):=(blk_cell BK165.out 4).trans rfl
    have hfz11_0:=blk_frozen BK165.out 0
    have hfz11_1:=blk_frozen BK165.out 1
    have hfz11_2:=blk_frozen BK165.out 2
    have hfz11_3:=blk_frozen BK165.out 3
    have hfz11_4:=blk_frozen BK165.out 4
    obtain ⟨Ao12,co12,eo12⟩:=Kd.R_slice HO_3.out
    subst eo12
    go_wp2_with (first|((with_reducible refine gate_callee (f:=139) rfl ?_);refine goesL_ (some 22) rfl rfl Try.func139 (by kernel_rfl) rfl #[.agg #[.int .i64 a0_0,.int .i64 a0_1,.slice A0_2 l0_2.length c0_2,.int .i64 a0_3,.int .u32 a0_4],.slice Ao12 x3_1.length co12] rfl (by (try simp only [List.map_toArray,List.map_cons,List.map_nil]);first|done|rfl|(simp only [List.length_drop,List.length_take];rfl)) ?_;(with_reducible refine (least_parts.calls k1 a0_0 a0_1 _ _ l0_2 a0_3 a0_4 _ _ x3_1 t169 _ ?side1 ?side2 ?side3 ?side4 A10.out).mono ?_);(case side1=>repeat (first|exact (Kd.C_below HR0_2.out HB.out)|(with_reducible refine Kd.C_alloc ?_ _)|(with_reducible refine Kd.C_drewN ?_ _)|(with_reducible refine Kd.C_drew ?_)));(case side2=>exact HC0_2.out);(case side3=>repeat (first|exact (Kd.R_reads' HO_3.out).2.2|(with_reducible refine Kd.C_alloc ?_ _)|(with_reducible refine Kd.C_drewN ?_ _)|(with_reducible refine Kd.C_drew ?_)));(case side4=>exact (Kd.R_reads' HO_3.out).2.1);rintro e w13 ⟨v170,rfl,ho0,hb⟩;refine ⟨_,rfl,?_⟩;have n0_:=Aside0.mk (Kd.R_below (by (with_reducible repeat (first|apply Kd.R_alloc|apply Kd.R_drewN|apply Kd.R_drew));exact HO_3.out) hb);have n1_:=Aside0.mk (Kd.R_lower ho0 (below_size (by repeat (first|(with_reducible first|exact HB.out|apply below_alloc|apply pw_below_drewN|apply below_drew1|refine below_set ?_ GE165.out)|exact HB.out))));have n2_:=Aside0.mk (blk_below (g:=gb165) (o:=.cells #[.int .i64 a0_0,.int .i64 a0_1,.slice A0_2 l0_2.length c0_2,.int .i64 a0_3,.int .u32 a0_4] 63 (0,0)) (by (with_reducible repeat (first|refine blk_drewN ?_ _|refine blk_drew ?_|refine blk_alloc ?_ _));exact BK165.out) hb);have n3_:=Aside0.mk (below_step (by repeat (first|(with_reducible first|exact HB.out|apply below_alloc|apply pw_below_drewN|apply below_drew1|refine below_set ?_ GE165.out)|exact HB.out)) hb);clear HO_3;clear BK165;clear HB;have HO_3:=n0_;have HO171:=n1_;have BK165:=n2_;have HB:=n3_;clear n0_ n1_ n2_ n3_;(try clear hb);(try clear hb2);(try clear hk);(try clear hi);(try clear ho0)))
    go_ret
    exact ⟨_,by first|rfl|(simp [errW_none,errW_some] <;> rfl)|(simp [*,errW_none,errW_some] <;> rfl),by (with_reducible repeat (first|apply Kd.R_alloc|apply Kd.R_drewN|apply Kd.R_drew));exact HO171.out,by repeat (first|(with_reducible first|exact HB.out|apply below_alloc|apply pw_below_drewN|apply below_drew1|refine below_set ?_ GE165.out)|exact HB.out)⟩
end Go.Proofs.Ythgiiikjcfhgjaa.GV
