-- Written by ext.py, a program of this session.
import Derived.Test.YtkalcljgcigdgaaGS0
namespace Go.Proofs.Ytkalcljgcigdgaa.GS
open Go.RowKit Go.Proofs.YtkalcljgcigdgaaW.PrintWords Go.Proofs.YtkalcljgcigdgaaW.PrintLast Go.Proofs.YtkalcljgcigdgaaW.PrintMore
attribute [local go_sem] max2_int min2_int max_two min_two max_three min_three max_four min_four cellIs_set   -- for this text's walks alone
set_option linter.unusedVariables false
set_option linter.unusedSimpArgs false
/-! ### sentence_spans_1: function 95 -/
mutual
def sentence_spans_1.l0 : Nat → List Int → List Int → Int → List Int → Int → Int → Option (List Int)
 | 0,_,_,_,_,_,_=>none
 | k + 1,x0,x1,x2,x6,x11,x12=>if x12 < x11 then (sentence_spans_1.l1 k x0 x1 x2 x6 x12 x11 x12 x2 0) else (some x6)
def sentence_spans_1.l1 : Nat → List Int → List Int → Int → List Int → Int → Int → Int → Int → Int → Option (List Int)
 | 0,_,_,_,_,_,_,_,_,_=>none
 | k + 1,x0,x1,x2,x6,x7,x11,x12,x15,x16=>if x16 < x15 then (if 0 ≤ x7 then (if x7 < (x0.length : Int) then (if 0 ≤ x16 then (if (Go.bits .and .u32 (shr .u32 (rd x0 x7) x16) 1) = 1 then (if x7 < (x6.length : Int) then (if x16 < (x1.length : Int) then (sentence_spans_1.l1 k x0 x1 x2 (x6.set (x7 : Int).toNat (Go.bits .or .u32 (rd x6 x7) (rd x1 x16))) x7 x11 x12 x15 (wrap64 (x16 + 1))) else (none)) else (none)) else (sentence_spans_1.l1 k x0 x1 x2 x6 x7 x11 x12 x15 (wrap64 (x16 + 1)))) else (none)) else (none)) else (none)) else (sentence_spans_1.l0 k x0 x1 x2 x6 x11 (wrap64 (x12 + 1)))
end
def sentence_spans_1.f (k : Nat) (l0 : List Int) (l1 : List Int) (a2 : Int) : Option (List Int):=if 0 ≤ a2 then (if (a2 : Int).toNat ≤ 70368744177664 then (sentence_spans_1.l0 k l0 l1 a2 (List.replicate (a2 : Int).toNat 0) a2 0) else (none)) else (none)
theorem sentence_spans_1.mono_l : ∀ k,(∀ y0 y1 y2 y3 y4 y5,LeO (sentence_spans_1.l0 k y0 y1 y2 y3 y4 y5) (sentence_spans_1.l0 (k + 1) y0 y1 y2 y3 y4 y5)) ∧ (∀ y0 y1 y2 y3 y4 y5 y6 y7 y8,LeO (sentence_spans_1.l1 k y0 y1 y2 y3 y4 y5 y6 y7 y8) (sentence_spans_1.l1 (k + 1) y0 y1 y2 y3 y4 y5 y6 y7 y8))
 | 0=>⟨fun _ _ _ _ _ _ r h=>by simp [sentence_spans_1.l0] at h,fun _ _ _ _ _ _ _ _ _ r h=>by simp [sentence_spans_1.l1] at h⟩
 | k + 1=>by
  obtain ⟨ih0,ih1⟩:=sentence_spans_1.mono_l k
  refine ⟨?_,?_⟩
  ·intro y0 y1 y2 y3 y4 y5
   unfold sentence_spans_1.l0
   repeat' first
   | (with_reducible exact ih0 _ _ _ _ _ _)
   | (with_reducible exact ih1 _ _ _ _ _ _ _ _ _)
   | (with_reducible exact LeO.refl _)
   | (with_reducible exact LeO.none _)
   | (with_reducible refine LeO.ite ?_ ?_)
   | (with_reducible refine LeO.bind ?_ (fun _=>?_))
   | exact ih0 _ _ _ _ _ _
   | exact ih1 _ _ _ _ _ _ _ _ _
   | exact LeO.none _
   | refine LeO.ite ?_ ?_
   | refine LeO.bind ?_ (fun _=>?_)
  ·intro y0 y1 y2 y3 y4 y5 y6 y7 y8
   unfold sentence_spans_1.l1
   repeat' first
   | (with_reducible exact ih0 _ _ _ _ _ _)
   | (with_reducible exact ih1 _ _ _ _ _ _ _ _ _)
   | (with_reducible exact LeO.refl _)
   | (with_reducible exact LeO.none _)
   | (with_reducible refine LeO.ite ?_ ?_)
   | (with_reducible refine LeO.bind ?_ (fun _=>?_))
   | exact ih0 _ _ _ _ _ _
   | exact ih1 _ _ _ _ _ _ _ _ _
   | exact LeO.none _
   | refine LeO.ite ?_ ?_
   | refine LeO.bind ?_ (fun _=>?_)
theorem sentence_spans_1.mono : ∀ a0 a1 a2 k,LeO (sentence_spans_1.f k a0 a1 a2) (sentence_spans_1.f (k + 1) a0 a1 a2):=by
 intro a0 a1 a2 k
 obtain ⟨ih0,ih1⟩:=sentence_spans_1.mono_l k
 unfold sentence_spans_1.f
 repeat' first
   | (with_reducible exact ih0 _ _ _ _ _ _)
   | (with_reducible exact ih1 _ _ _ _ _ _ _ _ _)
   | (with_reducible exact LeO.refl _)
   | (with_reducible exact LeO.none _)
   | (with_reducible refine LeO.ite ?_ ?_)
   | (with_reducible refine LeO.bind ?_ (fun _=>?_))
   | exact ih0 _ _ _ _ _ _
   | exact ih1 _ _ _ _ _ _ _ _ _
   | exact LeO.none _
   | refine LeO.ite ?_ ?_
   | refine LeO.bind ?_ (fun _=>?_)
def sentence_spans_1.T9 : Bool × List (List Nat × List Nat):=(true,[([],[]),([],[]),([0,1],[0,1]),([2],[2]),([],[]),([],[]),([4,5],[4,5]),([6],[6]),([3,7],[3,7]),([0,1,0,1,2,3,4,5,6,7,8],[0,1]),([9,8,0,1,2,3,4,5,6,7,8],[8,9])])
def sentence_spans_1.B9 : List Nat:=[0,0,3,7,0,0,48,112,255,511,1023]
theorem sentence_spans_1.tab9 : rtab .any (opsOf Try.f95 9) = sentence_spans_1.T9:=by kernel_rfl
theorem sentence_spans_1.bits9 : waitsOk sentence_spans_1.T9.2 sentence_spans_1.B9 = true:=by kernel_rfl
set_option maxHeartbeats 8000000 in
set_option maxRecDepth 100000 in
theorem sentence_spans_1.calls (k : Nat) (A0 : Option Addr) (c0 : Nat) (l0 : List Int) (A1 : Option Addr) (c1 : Nat) (l1 : List Int) (g2 : Nat) (cs2 : Array Value) (a2 : Int) (r : List Int) (w : World) (hr0 : Kd.C (Kd.int .u32) w A0 l0.length l0) (hc0 : l0.length ≤ c0) (hr1 : Kd.C (Kd.int .u32) w A1 l1.length l1) (hc1 : l1.length ≤ c1) (hB2 : w.heap[g2]? = some (.cells cs2 3 (0,0))) (hv2 : cs2[0]? = some (.int .i64 a2)) (h : sentence_spans_1.f k l0 l1 a2 = some r) :
  Calls Try.prog 95 #[.slice A0 l0.length c0,.slice A1 l1.length c1,.pointer (some ⟨g2,0,none⟩)] w fun e w'=>∃ v0_ : Value,e = .returned (v0_) ∧ Kd.R (Kd.int .u32) 33 w' w.heap.size (fun _=>True) v0_ r ∧ Below w.heap.size w w':=by
 have HQ2_:=Aside0.mk ((blk_cell hB2 0).trans hv2 : w.cell? ⟨g2,0,none⟩ = some (.int .i64 a2))
 clear hB2 hv2
 have HR0:=Aside0.mk hr0
 have HC0:=Aside0.mk hc0
 clear hr0 hc0
 have HR1:=Aside0.mk hr1
 have HC1:=Aside0.mk hc1
 clear hr1 hc1
 have HB:=Aside0.mk (Below.refl w.heap.size w)
 have H : (if 0 ≤ a2 then (if (a2 : Int).toNat ≤ 70368744177664 then (sentence_spans_1.l0 k l0 l1 a2 (List.replicate (a2 : Int).toNat 0) a2 0) else (none)) else (none)) = some r:=h
 clear h
 by_cases c4 : 0 ≤ a2
 ·rw [if_pos c4] at H
  have c4b0:=eq_true c4
  have c4b1 : decide (0 ≤ a2) = true:=decide_eq_true c4
  clear c4
  by_cases c5 : (a2 : Int).toNat ≤ 70368744177664
  ·rw [if_pos c5] at H
   have c5b0:=eq_true c5
   have c5b1 : decide ((a2 : Int).toNat ≤ 70368744177664) = true:=decide_eq_true c5
   clear c5
   obtain ⟨y127,hy127⟩ : ∃ y_ : List Int,y_ = (List.replicate (a2 : Int).toNat 0):=⟨_,rfl⟩
   replace H : (sentence_spans_1.l0 k l0 l1 a2 y127 a2 0) = some r:=by first|(rw [hy127];with_reducible exact H)|(have H2_:=(Option.bind_some _ _).symm.trans H;rw [hy127];with_reducible exact H2_)|(have H2_:=(Option.bind_some _ _).symm.trans H;with_reducible exact H2_)|with_reducible exact H|(rw [hy127];exact H)|exact H
   have Ny127:=Aside0.mk hy127
   clear hy127
   have H':=Aside0.mk H
   clear H
   go_enter Try.func95,Try.ntmps95
   have hcap2_:=pw_cell_below HB.out HQ2_.out
   go_wp2_with (first|((with_reducible refine gate_dst (N:=10) rfl ?_);refine Kd.R_make (Kd.int .u32) _ 33 rfl (N:=10) rfl 133 _ _ rfl a2 rfl rfl Try.underlying133 (.int .u32 0) 4 info33 rfl (by decide) (by omega) 0 (ok:=fun _=>True) (okp:=fun _=>True) rfl (fun _ hk=>hk) trivial (of_decide_eq_true (by first|(with_reducible assumption)|assumption)) (Nat.le_trans (Nat.mul_le_mul_right _ (of_decide_eq_true (by first|(with_reducible assumption)|assumption) : a2.toNat ≤ 70368744177664)) (by omega)) (Below.refl _ _) (Nat.le_refl _) ?_;intro v128 w6 ho7 hb hg_ hnew_;clear hg_ hnew_;(first|rw [← Ny127.out] at ho7|(simp only [Int.reduceToNat] at ho7;rw [← Ny127.out] at ho7));have n0_:=Aside0.mk (Kd.R_lower ho7 (below_size (by repeat (first|(with_reducible first|exact HB.out|apply below_alloc|apply pw_below_drewN|apply below_drew1)|exact HB.out))));have n1_:=Aside0.mk (below_step (by repeat (first|(with_reducible first|exact HB.out|apply below_alloc|apply pw_below_drewN|apply below_drew1)|exact HB.out)) hb);clear HB;have HO129:=n0_;have HB:=n1_;(try clear hcap2_);have hcap2_:=pw_cell_below HB.out HQ2_.out;clear n0_ n1_;clear hb ho7))
   (try clear hcap2_)
   go_loopg [12] k (fun kq v12 w'=>∃ (x6_1 : List Int) (x12_1 : Int),v12 = .int .i64 x12_1 ∧ Aside0 (sentence_spans_1.l0 kq l0 l1 a2 x6_1 a2 x12_1 = some r) ∧ Aside0 (kq ≤ k) ∧ Aside0 (Kd.R (Kd.int .u32) 33 w' w.heap.size (fun _=>True) v128 x6_1) ∧ Aside0 (Below w.heap.size w w'))
   case atStart=>exact ⟨(y127),(0),(by first|rfl|(simp;done)|(simp [*];done)),H',⟨Nat.le_refl _⟩,⟨by (with_reducible repeat (first|apply Kd.R_alloc|apply Kd.R_drewN|apply Kd.R_drew));exact HO129.out⟩,⟨by repeat (first|(with_reducible first|exact HB.out|apply below_alloc|apply pw_below_drewN|apply below_drew1)|exact HB.out)⟩⟩
   case round =>
    clear H'
    try clear c1
    try clear p2
    try clear c4
    try clear c4b0
    try clear c4b1
    try clear c5
    try clear c5b0
    try clear c5b1
    obtain ⟨x6_1,x12_1,rfl,HA,HK1,HO_6,HB⟩:=hrel
    cases gk with
    | zero=>exact absurd HA.out (by simp [sentence_spans_1.l0])
    | succ k1 =>
     have H:=HA.out
     clear HA
     simp only [sentence_spans_1.l0] at H
     by_cases c8 : x12_1 < a2
     ·rw [if_pos c8] at H
      have c8b0 : decide (x12_1 < a2) = true:=decide_eq_true c8
      clear c8
      have H':=Aside0.mk H
      clear H
      have hcap2_:=pw_cell_below HB.out HQ2_.out
      go_wp2
      (try clear hcap2_)
      go_loopg [16] k1 (fun kq v16 w'=>∃ (x6_2 : List Int) (x16_2 : Int),v16 = .int .i64 x16_2 ∧ Aside0 (sentence_spans_1.l1 kq l0 l1 a2 x6_2 x12_1 a2 x12_1 a2 x16_2 = some r) ∧ Aside0 (kq ≤ k1) ∧ Aside0 (Kd.R (Kd.int .u32) 33 w' w.heap.size (fun _=>True) v128 x6_2) ∧ Aside0 (Below w.heap.size w w'))
      case atStart=>exact ⟨(x6_1),(0),(by first|rfl|(simp;done)|(simp [*];done)),H',⟨Nat.le_refl _⟩,⟨by (with_reducible repeat (first|apply Kd.R_alloc|apply Kd.R_drewN|apply Kd.R_drew));exact HO_6.out⟩,⟨by repeat (first|(with_reducible first|exact HB.out|apply below_alloc|apply pw_below_drewN|apply below_drew1)|exact HB.out)⟩⟩
      case round =>
       clear H'
       try clear c1
       try clear p2
       try clear c4
       try clear c4b0
       try clear c4b1
       try clear c5
       try clear c5b0
       try clear c5b1
       try clear c8
       try clear c8b0
       try clear p2
       obtain ⟨x6_2,x16_2,rfl,HA,HK2,HO_6,HB⟩:=hrel
       cases gk with
       | zero=>exact absurd HA.out (by simp [sentence_spans_1.l1])
       | succ k2 =>
        have H:=HA.out
        clear HA
        simp only [sentence_spans_1.l1] at H
        by_cases c9 : x16_2 < a2
        ·rw [if_pos c9] at H
         have c9b0 : decide (x16_2 < a2) = true:=decide_eq_true c9
         clear c9
         by_cases c10 : 0 ≤ x12_1
         ·rw [if_pos c10] at H
          have c10b0 : decide (0 ≤ x12_1) = true:=decide_eq_true c10
          clear c10
          by_cases c11 : x12_1 < (l0.length : Int)
          ·rw [if_pos c11] at H
           have c11b0 : decide (x12_1 < (l0.length : Int)) = true:=decide_eq_true c11
           clear c11
           by_cases c12 : 0 ≤ x16_2
           ·rw [if_pos c12] at H
            have c12b0:=eq_true c12
            have c12b1 : decide (0 ≤ x16_2) = true:=decide_eq_true c12
            clear c12
            obtain ⟨ji13,hji13⟩ : ∃ j_ : Int,(shr .u32 (rd l0 x12_1) x16_2) = j_:=⟨_,rfl⟩
            replace H : (if (Go.bits .and .u32 (ji13) 1) = 1 then (if x12_1 < (x6_2.length : Int) then (if x16_2 < (l1.length : Int) then (sentence_spans_1.l1 k2 l0 l1 a2 (x6_2.set (x12_1 : Int).toNat (Go.bits .or .u32 (rd x6_2 x12_1) (rd l1 x16_2))) x12_1 a2 x12_1 a2 (wrap64 (x16_2 + 1))) else (none)) else (none)) else (sentence_spans_1.l1 k2 l0 l1 a2 x6_2 x12_1 a2 x12_1 a2 (wrap64 (x16_2 + 1)))) = some r:=by first|(rw [hji13] at H;exact H)|(simp only [hji13] at H ⊢;exact H)
            have hji13_ : ((rd l0 x12_1) / 2 ^ min x16_2.toNat 32) = ji13:=hji13
            have hji13z : x16_2 ≤ 32 → ((rd l0 x12_1) / 2 ^ x16_2.toNat) = ji13:=shr_small hji13
            by_cases c14 : (Go.bits .and .u32 (ji13) 1) = 1
            ·rw [if_pos c14] at H
             have c14b0 : ((Go.bits .and .u32 (ji13) 1) == 1) = true:=beq_iff_eq.mpr c14
             have c14b1 : ((Go.bits .and .u32 (ji13) 1) != 1) = false:=bne_eq_false_iff_eq.mpr c14
             clear c14
             by_cases c15 : x12_1 < (x6_2.length : Int)
             ·rw [if_pos c15] at H
              have c15b0 : decide (x12_1 < (x6_2.length : Int)) = true:=decide_eq_true c15
              clear c15
              by_cases c16 : x16_2 < (l1.length : Int)
              ·rw [if_pos c16] at H
               have c16b0 : decide (x16_2 < (l1.length : Int)) = true:=decide_eq_true c16
               clear c16
               obtain ⟨y133,hy133⟩ : ∃ y_ : List Int,y_ = (x6_2.set (x12_1 : Int).toNat (Go.bits .or .u32 (rd x6_2 x12_1) (rd l1 x16_2))):=⟨_,rfl⟩
               replace H : (sentence_spans_1.l1 k2 l0 l1 a2 y133 x12_1 a2 x12_1 a2 (wrap64 (x16_2 + 1))) = some r:=by first|(rw [hy133];with_reducible exact H)|(have H2_:=(Option.bind_some _ _).symm.trans H;rw [hy133];with_reducible exact H2_)|(have H2_:=(Option.bind_some _ _).symm.trans H;with_reducible exact H2_)|with_reducible exact H|(rw [hy133];exact H)|exact H
               have Ny133:=Aside0.mk hy133
               clear hy133
               have H':=Aside0.mk H
               clear H
               have p130 : 0 ≤ (x12_1 : Int):=of_decide_eq_true (by first|(with_reducible assumption)|assumption)
               have q130 : x12_1 < (l0.length : Int):=of_decide_eq_true (by first|(with_reducible assumption)|assumption)
               obtain ⟨ad130,e130,hx130_0⟩:=Kd.at_int HR0.out x12_1 p130 q130
               cases e130
               replace hx130_0:=(HB.out.cell (World.block_lt_of_cell? w _ hx130_0)).trans hx130_0
               replace p130:=eq_true p130
               replace q130:=eq_true q130
               have hcap2_:=pw_cell_below HB.out HQ2_.out
               try go_wp2
               (try clear hcap2_)
               have n0_:=Aside0.mk (Kd.R_drew HO_6.out)
               have n1_:=Aside0.mk (below_drew1 HB.out)
               clear HO_6
               clear HB
               have HO_6:=n0_
               have HB:=n1_
               clear n0_ n1_
               obtain ⟨Ao19,co19,eo19⟩:=Kd.R_slice HO_6.out
               (first|subst eo19|(injection eo19 with f1_ f2_ f3_;have f4_:=f1_.symm;have f5_:=f3_.symm;clear f1_ f2_ f3_;subst f4_;subst f5_))
               have p131 : 0 ≤ (x12_1 : Int):=of_decide_eq_true (by first|(with_reducible assumption)|assumption)
               have q131 : x12_1 < (x6_2.length : Int):=of_decide_eq_true (by first|(with_reducible assumption)|assumption)
               obtain ⟨ad131,e131,hx131_0⟩:=Kd.at_int (Kd.R_reads' HO_6.out).2.2 x12_1 p131 q131
               cases e131
               replace p131:=eq_true p131
               replace q131:=eq_true q131
               have p132 : 0 ≤ (x16_2 : Int):=of_decide_eq_true (by first|(with_reducible assumption)|assumption)
               have q132 : x16_2 < (l1.length : Int):=of_decide_eq_true (by first|(with_reducible assumption)|assumption)
               obtain ⟨ad132,e132,hx132_0⟩:=Kd.at_int HR1.out x16_2 p132 q132
               have hw132_0:=hx132_0
               cases e132
               replace hx132_0:=(HB.out.cell (World.block_lt_of_cell? w _ hx132_0)).trans hx132_0
               replace p132:=eq_true p132
               replace q132:=eq_true q132
               have p17 : 0 ≤ (x12_1 : Int):=of_decide_eq_true (by first|(with_reducible assumption)|assumption)
               have q17 : (x12_1 : Int) < ((x6_2.length : Int) : Int):=of_decide_eq_true (by first|(with_reducible assumption)|assumption)
               obtain ⟨go17,co17,eo17,gb17,gl17,cl17,HG17⟩:=Kd.R_form HO_6.out (by omega)
               (first|cases eo17|(injection eo17 with ea_ en_ ec_;(first|subst ea_|(injection ea_ with ea_;subst ea_));subst ec_;clear en_))
               have GB17:=Aside0.mk gb17
               have GG17:=Aside0.mk HG17
               clear gb17 gl17 HG17
               (first|simp only [add_plain] at hx131_0|skip)
               obtain ⟨hx17_0,hf17_0⟩:=Kd.R_celln 0 HO_6.out (x12_1 : Int) p17 q17
               replace p17:=eq_true p17
               replace q17:=eq_true q17
               have HP20:=Kd.R_putn HO_6.out (x12_1 : Int) (Go.bits .or .u32 (rd x6_2 x12_1) (rd l1 x16_2))
               rw [← Ny133.out] at HP20
               have HQ20:=Aside0.mk HP20
               clear HP20
               refine start_ (n:=11) (S:=fun w'=>w'.cell? ⟨go17,(x12_1).toNat,none⟩ = some (.int .u32 (rd x6_2 x12_1)) ∧ w'.cell? (ad132.add (x16_2).toNat) = some (.int .u32 (rd l1 x16_2))) (ds:=[10]) #[false,false,false,false,false,false,false,false,false,false,false] (by kernel_rfl) rfl rfl ⟨hx131_0,((HB.out.cell (World.block_lt_of_cell? w _ hw132_0)).trans hw132_0)⟩ (fun hHeld=>?_);refine with_tabW sentence_spans_1.tab9 sentence_spans_1.bits9 (fun HT_ HW_=>?_)
               generalize wr.drew = w18 at HO_6 HB GG17 HQ20 hf17_0 hx131_0 hx132_0 hx17_0 hHeld ⊢
               refine pure_ (i:=0) (N:=some 27) (v:=?_) (a':=?_) #[true,false,false,false,false,false,false,false,false,false,false] rfl rfl (any_of HT_.out (by kernel_rfl)) (fun _ _ _ h=>h) (Or.inl ⟨by rfl,?_⟩) ?_ ?_
               rotate_left
               ·intro w'
                go_simp
                with_reducible rfl
               rotate_left
               ·simp only [Act.put,List.setIfInBounds_toArray,List.set_cons_zero,List.set_cons_succ,i64_w,i32_w]
                rfl
               refine pure_ (i:=1) (N:=some 28) (v:=?_) (a':=?_) #[true,true,false,false,false,false,false,false,false,false,false] rfl rfl (any_of HT_.out (by kernel_rfl)) (fun _ _ _ h=>h) (Or.inl ⟨by rfl,?_⟩) ?_ ?_
               rotate_left
               ·intro w'
                go_simp
                with_reducible rfl
               rotate_left
               ·simp only [Act.put,List.setIfInBounds_toArray,List.set_cons_zero,List.set_cons_succ,i64_w,i32_w]
                rfl
               refine pure_ (i:=2) (N:=some 29) (v:=?_) (a':=?_) #[true,true,true,false,false,false,false,false,false,false,false] rfl rfl (any_of HT_.out (by kernel_rfl)) (fun _ _ _ h=>h) (Or.inl ⟨by rfl,?_⟩) ?_ ?_
               rotate_left
               ·intro w'
                go_simp
                with_reducible rfl
               rotate_left
               ·simp only [Act.put,List.setIfInBounds_toArray,List.set_cons_zero,List.set_cons_succ,i64_w,i32_w]
                rfl
               refine pure_ (i:=4) (N:=some 31) (v:=?_) (a':=?_) #[true,true,true,false,true,false,false,false,false,false,false] rfl rfl (any_of HT_.out (by kernel_rfl)) (fun _ _ _ h=>h) (Or.inl ⟨by rfl,?_⟩) ?_ ?_
               rotate_left
               ·intro w'
                go_simp
                with_reducible rfl
               rotate_left
               ·simp only [Act.put,List.setIfInBounds_toArray,List.set_cons_zero,List.set_cons_succ,i64_w,i32_w]
                rfl
               refine pure_ (i:=5) (N:=some 32) (v:=?_) (a':=?_) #[true,true,true,false,true,true,false,false,false,false,false] rfl rfl (any_of HT_.out (by kernel_rfl)) (fun _ _ _ h=>h) (Or.inl ⟨by rfl,?_⟩) ?_ ?_
               rotate_left
               ·intro w'
                go_simp
                with_reducible rfl
               rotate_left
               ·simp only [Act.put,List.setIfInBounds_toArray,List.set_cons_zero,List.set_cons_succ,i64_w,i32_w]
                rfl
               refine pure_ (i:=6) (N:=some 33) (v:=?_) (a':=?_) #[true,true,true,false,true,true,true,false,false,false,false] rfl rfl (any_of HT_.out (by kernel_rfl)) (fun _ _ _ h=>h) (Or.inl ⟨by rfl,?_⟩) ?_ ?_
               rotate_left
               ·intro w'
                go_simp
                with_reducible rfl
               rotate_left
               ·simp only [Act.put,List.setIfInBounds_toArray,List.set_cons_zero,List.set_cons_succ,i64_w,i32_w]
                rfl
               refine take_ (i:=3) (N:=some 30) (v:=?_) (a':=?_) #[true,true,true,true,true,true,true,false,false,false,false] rfl rfl (take_ofW HT_.out HW_.out (by kernel_rfl)) (fun _ _ _ h=>h) (Or.inl ⟨by rfl,?_⟩) hHeld ?_ ?_
               rotate_left
               ·rintro w' ⟨s0,s1⟩
                go_simp
                with_reducible rfl
               rotate_left
               ·simp only [Act.put,List.setIfInBounds_toArray,List.set_cons_zero,List.set_cons_succ,i64_w,i32_w]
                rfl
               refine take_ (i:=7) (N:=some 34) (v:=?_) (a':=?_) #[true,true,true,true,true,true,true,true,false,false,false] rfl rfl (take_ofW HT_.out HW_.out (by kernel_rfl)) (fun _ _ _ h=>h) (Or.inl ⟨by rfl,?_⟩) hHeld ?_ ?_
               rotate_left
               ·rintro w' ⟨s0,s1⟩
                go_simp
                with_reducible rfl
               rotate_left
               ·simp only [Act.put,List.setIfInBounds_toArray,List.set_cons_zero,List.set_cons_succ,i64_w,i32_w]
                rfl
               refine pure_ (i:=8) (N:=some 35) (v:=?_) (a':=?_) #[true,true,true,true,true,true,true,true,true,false,false] rfl rfl (any_of HT_.out (by kernel_rfl)) (fun _ _ _ h=>h) (Or.inl ⟨by rfl,?_⟩) ?_ ?_
               rotate_left
               ·intro w'
                go_simp
                with_reducible rfl
               rotate_left
               ·simp only [Act.put,List.setIfInBounds_toArray,List.set_cons_zero,List.set_cons_succ,i64_w,i32_w]
                rfl
               refine pure_ (i:=9) (N:=some 36) (v:=?_) (a':=?_) #[true,true,true,true,true,true,true,true,true,true,false] rfl rfl (any_of HT_.out (by kernel_rfl)) (fun _ _ _ h=>h) (Or.inl ⟨by rfl,?_⟩) ?_ ?_
               rotate_left
               ·intro w'
                go_simp
                with_reducible rfl
               rotate_left
               ·simp only [Act.put,List.setIfInBounds_toArray,List.set_cons_zero,List.set_cons_succ,i64_w,i32_w]
                rfl
               refine last_ (i:=10) (N:=none) #[true,true,true,true,true,true,true,true,true,true,true] rfl rfl (one_of HT_.out (by kernel_rfl)) (by decide) (fun K hK=>?_)
               refine skip_ (w1:=?_) (by rfl) rfl ?_ ?_
               rotate_left
               ·go_simp
                rfl
               refine hK.out _ _ ?_
               clear hK K
               refine done_ (done_of HT_.out (by kernel_rfl)) ?_
               have hcap2_:=pw_cell_below HB.out HQ2_.out
               try go_wp2
               (try clear hcap2_)
               first|go_roundg k2|((simp only [← hji13]);go_roundg k2)
               case measure=>have:=HK1.out;have:=HK2.out;omega
               case rel=>exact ⟨(y133),(wrap64 (x16_2 + 1)),(by first|rfl|(simp;done)|(simp [*];done)),(by first|exact H'|((simp only [hji13]);exact H')|(have h_:=H'.out;simp only [← hji13] at h_ ⊢;exact ⟨h_⟩)),⟨by have:=HK1.out;have:=HK2.out;omega⟩,⟨by (with_reducible repeat (first|apply Kd.R_alloc|apply Kd.R_drewN|apply Kd.R_drew));exact HQ20.out⟩,⟨by repeat (first|(with_reducible first|exact HB.out|apply below_alloc|apply pw_below_drewN|apply below_drew1|refine below_set ?_ GB17.out)|exact HB.out)⟩⟩
              ·rw [if_neg c16] at H
               exact absurd H (by simp)
             ·rw [if_neg c15] at H
              exact absurd H (by simp)
            ·rw [if_neg c14] at H
             have c14b0 : ((Go.bits .and .u32 (ji13) 1) == 1) = false:=beq_eq_false_iff_ne.mpr c14
             have c14b1 : ((Go.bits .and .u32 (ji13) 1) != 1) = true:=bne_iff_ne.mpr c14
             have H':=Aside0.mk H
             clear H
             have p130 : 0 ≤ (x12_1 : Int):=of_decide_eq_true (by first|(with_reducible assumption)|assumption)
             have q130 : x12_1 < (l0.length : Int):=of_decide_eq_true (by first|(with_reducible assumption)|assumption)
             obtain ⟨ad130,e130,hx130_0⟩:=Kd.at_int HR0.out x12_1 p130 q130
             cases e130
             replace hx130_0:=(HB.out.cell (World.block_lt_of_cell? w _ hx130_0)).trans hx130_0
             replace p130:=eq_true p130
             replace q130:=eq_true q130
             have hcap2_:=pw_cell_below HB.out HQ2_.out
             go_wp2
             (try clear hcap2_)
             first|go_roundg k2|((simp only [← hji13]);go_roundg k2)
             case measure=>have:=HK1.out;have:=HK2.out;omega
             case rel=>exact ⟨(x6_2),(wrap64 (x16_2 + 1)),(by first|rfl|(simp;done)|(simp [*];done)),(by first|exact H'|((simp only [hji13]);exact H')|(have h_:=H'.out;simp only [← hji13] at h_ ⊢;exact ⟨h_⟩)),⟨by have:=HK1.out;have:=HK2.out;omega⟩,⟨by (with_reducible repeat (first|apply Kd.R_alloc|apply Kd.R_drewN|apply Kd.R_drew));exact HO_6.out⟩,⟨by repeat (first|(with_reducible first|exact HB.out|apply below_alloc|apply pw_below_drewN|apply below_drew1)|exact HB.out)⟩⟩
           ·rw [if_neg c12] at H
            exact absurd H (by simp)
          ·rw [if_neg c11] at H
           exact absurd H (by simp)
         ·rw [if_neg c10] at H
          exact absurd H (by simp)
        ·rw [if_neg c9] at H
         have c9b0 : decide (x16_2 < a2) = false:=decide_eq_false c9
         clear c9
         have H':=Aside0.mk H
         clear H
         have hcap2_:=pw_cell_below HB.out HQ2_.out
         go_wp2
         (try clear hcap2_)
         go_roundg k2
         case measure=>have:=HK1.out;have:=HK2.out;omega
         case rel=>exact ⟨(x6_2),(wrap64 (x12_1 + 1)),(by first|rfl|(simp;done)|(simp [*];done)),H',⟨by have:=HK1.out;have:=HK2.out;omega⟩,⟨by (with_reducible repeat (first|apply Kd.R_alloc|apply Kd.R_drewN|apply Kd.R_drew));exact HO_6.out⟩,⟨by repeat (first|(with_reducible first|exact HB.out|apply below_alloc|apply pw_below_drewN|apply below_drew1)|exact HB.out)⟩⟩
     ·rw [if_neg c8] at H
      have c8b0 : decide (x12_1 < a2) = false:=decide_eq_false c8
      clear c8
      obtain rfl:=Option.some.inj H
      have hcap2_:=pw_cell_below HB.out HQ2_.out
      go_wp2
      (try clear hcap2_)
      go_ret
      exact ⟨_,by first|rfl|(simp [errW_none,errW_some] <;> rfl)|(simp [*,errW_none,errW_some] <;> rfl),by (with_reducible repeat (first|apply Kd.R_alloc|apply Kd.R_drewN|apply Kd.R_drew));exact HO_6.out,by repeat (first|(with_reducible first|exact HB.out|apply below_alloc|apply pw_below_drewN|apply below_drew1)|exact HB.out)⟩
  ·rw [if_neg c5] at H
   exact absurd H (by simp)
 ·rw [if_neg c4] at H
  exact absurd H (by simp)
end Go.Proofs.Ytkalcljgcigdgaa.GS
