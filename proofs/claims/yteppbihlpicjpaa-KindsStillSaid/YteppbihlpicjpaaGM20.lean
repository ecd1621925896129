-- Written by ext.py, a program of this session.
import Derived.Test.YteppbihlpicjpaaGM0
import Derived.Test.YteppbihlpicjpaaGM3
import Derived.Test.YteppbihlpicjpaaGM19
namespace Go.Proofs.Yteppbihlpicjpaa.GM
open Go.RowKit Go.Proofs.YteppbihlpicjpaaW.PrintWords Go.Proofs.YteppbihlpicjpaaW.PrintLast Go.Proofs.YteppbihlpicjpaaW.PrintMore
attribute [local go_sem] max2_int min2_int max_two min_two max_three min_three max_four min_four cellIs_set   -- for this text's walks alone
set_option linter.unusedVariables false
set_option linter.unusedSimpArgs false
/-! ### machine_Not: function 11 -/
def machine_Not.f (k : Nat) (a0_0 : Int) (a0_1 : Int) (l0_2 : List (List Int)) (a0_3 : Int) (a0_4 : Int) : Option (Int × Int × (List (List Int)) × Int × Int × Int):=(machine_Check.f k a0_0 a0_1 l0_2 a0_3 a0_4).bind fun t339=>(if t339 = 0 then ((machine_Copy.f k a0_0 a0_1 l0_2 a0_3 a0_4).bind fun bt340=>(if 0 ≤ a0_0 then (some (bt340.1,bt340.2.1,bt340.2.2.1,bt340.2.2.2.1,Go.bits .xor .u32 bt340.2.2.2.2 (((shl .u32 1 a0_0) - 1) % 4294967296),0)) else (none))) else (some (0,0,([] : List (List Int)),0,0,t339)))
theorem machine_Not.mono : ∀ a0 a1 a2 a3 a4 k,LeO (machine_Not.f k a0 a1 a2 a3 a4) (machine_Not.f (k + 1) a0 a1 a2 a3 a4):=by
 intro a0 a1 a2 a3 a4 k
 unfold machine_Not.f
 repeat' first
   | (with_reducible exact machine_Check.mono _ _ _ _ _ _)
   | (with_reducible exact machine_Copy.mono _ _ _ _ _ _)
   | (with_reducible exact LeO.refl _)
   | (with_reducible exact LeO.none _)
   | (with_reducible refine LeO.ite ?_ ?_)
   | (with_reducible refine LeO.bind ?_ (fun _=>?_))
   | exact machine_Check.mono _ _ _ _ _ _
   | exact machine_Copy.mono _ _ _ _ _ _
   | exact LeO.none _
   | refine LeO.ite ?_ ?_
   | refine LeO.bind ?_ (fun _=>?_)
def machine_Not.T5 : Bool × List (List Nat × List Nat):=(true,[([],[]),([0],[0]),([],[]),([2],[2]),([3],[3]),([4],[4]),([1,5],[1,5]),([0,1,2,3,4,5,6],[]),([7,6,0,1,2,3,4,5,6],[6,7])])
def machine_Not.B5 : List Nat:=[0,1,0,4,12,28,63,127,255]
theorem machine_Not.tab5 : rtab .any (opsOf Try.f11 5) = machine_Not.T5:=by kernel_rfl
theorem machine_Not.bits5 : waitsOk machine_Not.T5.2 machine_Not.B5 = true:=by kernel_rfl
set_option maxHeartbeats 8000000 in
set_option maxRecDepth 100000 in
theorem machine_Not.calls (k : Nat) (a0_0 : Int) (a0_1 : Int) (A0_2 : Option Addr) (c0_2 : Nat) (l0_2 : List (List Int)) (a0_3 : Int) (a0_4 : Int) (r1 : Int) (r2 : Int) (r3 : List (List Int)) (r4 : Int) (r5 : Int) (r6 : Int) (w : World) (hr0_2 : Kd.C (Kd.slice 3 (Kd.int .i64)) w A0_2 l0_2.length l0_2) (hc0_2 : l0_2.length ≤ c0_2) (h : machine_Not.f k a0_0 a0_1 l0_2 a0_3 a0_4 = some (r1,r2,r3,r4,r5,r6)) :
  Calls Try.prog 11 #[.agg #[.int .i64 a0_0,.int .i64 a0_1,.slice A0_2 l0_2.length c0_2,.int .i64 a0_3,.int .u32 a0_4]] w fun e w'=>∃ v2_ : Value,e = .returned (.tuple #[.agg #[.int .i64 r1,.int .i64 r2,v2_,.int .i64 r4,.int .u32 r5],.int .i64 r6]) ∧ Kd.S (Kd.slice 3 (Kd.int .i64)) 26 w' w.heap.size (fun _=>True) v2_ r3 ∧ Below w.heap.size w w':=by
 have hu25:=Try.underlying25
 have HR0_2:=Aside0.mk hr0_2
 have HC0_2:=Aside0.mk hc0_2
 clear hr0_2 hc0_2
 have HB:=Aside0.mk (Below.refl w.heap.size w)
 have H : ((machine_Check.f k a0_0 a0_1 l0_2 a0_3 a0_4).bind fun t339=>(if t339 = 0 then ((machine_Copy.f k a0_0 a0_1 l0_2 a0_3 a0_4).bind fun bt340=>(if 0 ≤ a0_0 then (some (bt340.1,bt340.2.1,bt340.2.2.1,bt340.2.2.2.1,Go.bits .xor .u32 bt340.2.2.2.2 (((shl .u32 1 a0_0) - 1) % 4294967296),0)) else (none))) else (some (0,0,([] : List (List Int)),0,0,t339)))) = some (r1,r2,r3,r4,r5,r6):=h
 clear h
 replace H:=Option.bind_eq_some_iff.mp H
 obtain ⟨t339,A20,H⟩:=H
 replace H : (if t339 = 0 then ((machine_Copy.f k a0_0 a0_1 l0_2 a0_3 a0_4).bind fun bt340=>(if 0 ≤ a0_0 then (some (bt340.1,bt340.2.1,bt340.2.2.1,bt340.2.2.2.1,Go.bits .xor .u32 bt340.2.2.2.2 (((shl .u32 1 a0_0) - 1) % 4294967296),0)) else (none))) else (some (0,0,([] : List (List Int)),0,0,t339))) = some (r1,r2,r3,r4,r5,r6):=H
 have A2:=Aside0.mk A20
 clear A20
 by_cases c3 : t339 = 0
 ·rw [if_pos c3] at H
  have c3b0 : (t339 == 0) = true:=beq_iff_eq.mpr c3
  have c3b1 : (t339 != 0) = false:=bne_eq_false_iff_eq.mpr c3
  clear c3
  replace H:=Option.bind_eq_some_iff.mp H
  obtain ⟨⟨t340,t341,t342,t345,t346⟩,A40,H⟩:=H
  replace H : (if 0 ≤ a0_0 then (some (t340,t341,t342,t345,Go.bits .xor .u32 t346 (((shl .u32 1 a0_0) - 1) % 4294967296),0)) else (none)) = some (r1,r2,r3,r4,r5,r6):=H
  have A4:=Aside0.mk A40
  clear A40
  by_cases c5 : 0 ≤ a0_0
  ·rw [if_pos c5] at H
   have c5b0:=eq_true c5
   have c5b1 : decide (0 ≤ a0_0) = true:=decide_eq_true c5
   clear c5
   obtain ⟨ji6,hji6⟩ : ∃ j_ : Int,(shl .u32 1 a0_0) = j_:=⟨_,rfl⟩
   replace H : (some (t340,t341,t342,t345,Go.bits .xor .u32 t346 (((ji6) - 1) % 4294967296),0)) = some (r1,r2,r3,r4,r5,r6):=by first|(rw [hji6] at H;exact H)|(simp only [hji6] at H ⊢;exact H)
   (try rw [hji6] at A2)
   (try rw [hji6] at A4)
   have hji6_ : (IntKind.u32.wrap (1 * 2 ^ min a0_0.toNat 32)) = ji6:=hji6
   have hji6z : a0_0 ≤ 32 → (IntKind.u32.wrap (1 * 2 ^ a0_0.toNat)) = ji6:=shl_small hji6
   have hji6u : (IntKind.u32.wrap (2 ^ min a0_0.toNat 32)) = ji6:=by have h_:=hji6_;rw [Int.one_mul] at h_;exact h_
   have hji6v : a0_0 ≤ 32 → (IntKind.u32.wrap (2 ^ a0_0.toNat)) = ji6:=fun hle_=>by have h_:=hji6z hle_;rw [Int.one_mul] at h_;exact h_
   simp only [Option.some.injEq,Prod.mk.injEq] at H
   obtain ⟨rfl,rfl,rfl,rfl,rfl,rfl⟩:=H
   go_enter Try.func11,Try.ntmps11
   try go_wp2_with (first|((with_reducible refine gate_dst (N:=1) rfl ?_);refine box_event ?hg (N:=1) ?hd (cs:=#[.int .i64 a0_0,.int .i64 a0_1,.slice A0_2 l0_2.length c0_2,.int .i64 a0_3,.int .u32 a0_4]) (t:=25) ?hr ?_;(case hd=>rfl);(case hg=>rfl);(case hr=>first|(go_simp;done)|(go_simp;rfl));intro gb337 hg w7 hbox hb;have n0_:=Aside0.mk (below_step (by repeat (first|(with_reducible first|exact HB.out|apply below_alloc|apply pw_below_drewN|apply below_drew1)|exact HB.out)) hb);have n1_:=Aside0.mk (hbox);have n2_:=Aside0.mk ((by rw [hg];exact (below_size (by repeat (first|(with_reducible first|exact HB.out|apply below_alloc|apply pw_below_drewN|apply below_drew1)|exact HB.out))) : w.heap.size ≤ gb337));have n3_:=Aside0.mk ((by rw [hg];exact (below_size (by repeat (first|(with_reducible first|exact HB.out|apply below_alloc|apply pw_below_drewN|apply below_drew1)|exact HB.out))) : w.heap.size ≤ gb337));clear HB;have HB:=n0_;have BK337:=n1_;have GW337:=n2_;have GE337:=n3_;clear n0_ n1_ n2_ n3_;clear hb hbox hg)|((with_reducible refine gate_dst (N:=2) rfl ?_);refine box_event ?hg (N:=2) ?hd (cs:=#[.int .i64 0,.int .i64 0,.slice none 0 0,.int .i64 0,.int .u32 0]) (t:=25) ?hr ?_;(case hd=>rfl);(case hg=>rfl);(case hr=>first|(go_simp;done)|(go_simp;rfl));intro gb338 hg w8 hbox hb;have n0_:=Aside0.mk (blk_below (g:=gb337) (o:=.cells #[.int .i64 a0_0,.int .i64 a0_1,.slice A0_2 l0_2.length c0_2,.int .i64 a0_3,.int .u32 a0_4] 25 (0,0)) (by (with_reducible repeat (first|refine blk_drewN ?_ _|refine blk_drew ?_|refine blk_alloc ?_ _));exact BK337.out) hb);have n1_:=Aside0.mk (below_step (by repeat (first|(with_reducible first|exact HB.out|apply below_alloc|apply pw_below_drewN|apply below_drew1|refine below_set ?_ GE337.out)|exact HB.out)) hb);have n2_:=Aside0.mk (hbox);have n3_:=Aside0.mk ((by rw [hg];exact (below_size (by repeat (first|(with_reducible first|exact HB.out|apply below_alloc|apply pw_below_drewN|apply below_drew1|refine below_set ?_ GE337.out)|exact HB.out))) : w.heap.size ≤ gb338));have n4_:=Aside0.mk ((by rw [hg];exact (below_size (by repeat (first|(with_reducible first|exact HB.out|apply below_alloc|apply pw_below_drewN|apply below_drew1|refine below_set ?_ GE337.out)|exact HB.out))) : w.heap.size ≤ gb338));have n5_:=Aside0.mk ((by rw [hg];exact Nat.ne_of_lt (blk_lt (g:=gb337) (o:=.cells #[.int .i64 a0_0,.int .i64 a0_1,.slice A0_2 l0_2.length c0_2,.int .i64 a0_3,.int .u32 a0_4] 25 (0,0)) (by (with_reducible repeat (first|refine blk_drewN ?_ _|refine blk_drew ?_|refine blk_alloc ?_ _));exact BK337.out)) : gb337 ≠ gb338));have n6_:=Aside0.mk ((by rw [hg];exact Nat.ne_of_gt (blk_lt (g:=gb337) (o:=.cells #[.int .i64 a0_0,.int .i64 a0_1,.slice A0_2 l0_2.length c0_2,.int .i64 a0_3,.int .u32 a0_4] 25 (0,0)) (by (with_reducible repeat (first|refine blk_drewN ?_ _|refine blk_drew ?_|refine blk_alloc ?_ _));exact BK337.out)) : gb338 ≠ gb337));clear BK337;clear HB;have BK337:=n0_;have HB:=n1_;have BK338:=n2_;have GW338:=n3_;have GE338:=n4_;have NB337_338:=n5_;have NB338_337:=n6_;clear n0_ n1_ n2_ n3_ n4_ n5_ n6_;clear hb hbox hg;have hnb9:=NB337_338.out;have hnc9:=NB338_337.out;have hcz10_0 : w8.cell? ⟨gb337,0,none⟩ = some (.int .i64 a0_0):=(blk_cell BK337.out 0).trans rfl;have hcz10_1 : w8.cell? ⟨gb337,1,none⟩ = some (.int .i64 a0_1):=(blk_cell BK337.out 1).trans rfl;have hcz10_2 : w8.cell? ⟨gb337,2,none⟩ = some (.slice A0_2 l0_2.length c0_2):=(blk_cell BK337.out 2).trans rfl;have hcz10_3 : w8.cell? ⟨gb337,3,none⟩ = some (.int .i64 a0_3):=(blk_cell BK337.out 3).trans rfl;have hcz10_4 : w8.cell? ⟨gb337,4,none⟩ = some (.int .u32 a0_4):=(blk_cell BK337.out 4).trans rfl;have hfz10_0:=blk_frozen BK337.out 0;have hfz10_1:=blk_frozen BK337.out 1;have hfz10_2:=blk_frozen BK337.out 2;have hfz10_3:=blk_frozen BK337.out 3;have hfz10_4:=blk_frozen BK337.out 4)|((with_reducible refine gate_callee (f:=13) rfl ?_);refine goesL_ (some 7) rfl rfl Try.func13 (by kernel_rfl) rfl #[.agg #[.int .i64 a0_0,.int .i64 a0_1,.slice A0_2 l0_2.length c0_2,.int .i64 a0_3,.int .u32 a0_4]] rfl (by (try simp only [List.map_toArray,List.map_cons,List.map_nil]);first|done|rfl|(simp only [List.length_drop,List.length_take];rfl)) ?_;(with_reducible refine (machine_Check.calls k a0_0 a0_1 _ _ l0_2 a0_3 a0_4 t339 _ ?side1 ?side2 A2.out).mono ?_);(case side1=>repeat (first|exact (Kd.C_below HR0_2.out HB.out)|(with_reducible refine Kd.C_alloc ?_ _)|(with_reducible refine Kd.C_drewN ?_ _)|(with_reducible refine Kd.C_drew ?_)));(case side2=>exact HC0_2.out);rintro e w11 ⟨rfl,hb⟩;refine ⟨_,rfl,?_⟩;have n0_:=Aside0.mk (blk_below (g:=gb337) (o:=.cells #[.int .i64 a0_0,.int .i64 a0_1,.slice A0_2 l0_2.length c0_2,.int .i64 a0_3,.int .u32 a0_4] 25 (0,0)) (by (with_reducible repeat (first|refine blk_drewN ?_ _|refine blk_drew ?_|refine blk_alloc ?_ _));exact BK337.out) hb);have n1_:=Aside0.mk (blk_below (g:=gb338) (o:=.cells #[.int .i64 0,.int .i64 0,.slice none 0 0,.int .i64 0,.int .u32 0] 25 (0,0)) (by (with_reducible repeat (first|refine blk_drewN ?_ _|refine blk_drew ?_|refine blk_alloc ?_ _));exact BK338.out) hb);have n2_:=Aside0.mk (below_step (by repeat (first|(with_reducible first|exact HB.out|apply below_alloc|apply pw_below_drewN|apply below_drew1|refine below_set ?_ GE337.out|refine below_set ?_ GE338.out)|exact HB.out)) hb);clear BK337;clear BK338;clear HB;have BK337:=n0_;have BK338:=n1_;have HB:=n2_;clear n0_ n1_ n2_;(try clear hb);(try clear hb2);(try clear hk);(try clear hi);have hcz12_0 : w11.cell? ⟨gb337,0,none⟩ = some (.int .i64 a0_0):=(blk_cell BK337.out 0).trans rfl;have hcz12_1 : w11.cell? ⟨gb337,1,none⟩ = some (.int .i64 a0_1):=(blk_cell BK337.out 1).trans rfl;have hcz12_2 : w11.cell? ⟨gb337,2,none⟩ = some (.slice A0_2 l0_2.length c0_2):=(blk_cell BK337.out 2).trans rfl;have hcz12_3 : w11.cell? ⟨gb337,3,none⟩ = some (.int .i64 a0_3):=(blk_cell BK337.out 3).trans rfl;have hcz12_4 : w11.cell? ⟨gb337,4,none⟩ = some (.int .u32 a0_4):=(blk_cell BK337.out 4).trans rfl;have hfz12_0:=blk_frozen BK337.out 0;have hfz12_1:=blk_frozen BK337.out 1;have hfz12_2:=blk_frozen BK337.out 2;have hfz12_3:=blk_frozen BK337.out 3;have hfz12_4:=blk_frozen BK337.out 4)|((with_reducible refine gate_callee (f:=21) rfl ?_);refine goesL_ (some 13) rfl rfl Try.func21 (by kernel_rfl) rfl #[.agg #[.int .i64 a0_0,.int .i64 a0_1,.slice A0_2 l0_2.length c0_2,.int .i64 a0_3,.int .u32 a0_4]] rfl (by (try simp only [List.map_toArray,List.map_cons,List.map_nil]);first|done|rfl|(simp only [List.length_drop,List.length_take];rfl)) ?_;(with_reducible refine (machine_Copy.calls k a0_0 a0_1 _ _ l0_2 a0_3 a0_4 t340 t341 t342 t345 t346 _ ?side1 ?side2 A4.out).mono ?_);(case side1=>repeat (first|exact (Kd.C_below HR0_2.out HB.out)|(with_reducible refine Kd.C_alloc ?_ _)|(with_reducible refine Kd.C_drewN ?_ _)|(with_reducible refine Kd.C_drew ?_)));(case side2=>exact HC0_2.out);rintro e w13 ⟨v343,rfl,ho0,hb⟩;refine ⟨_,rfl,?_⟩;have n0_:=Aside0.mk (Kd.S_lower ho0 (below_size (by repeat (first|(with_reducible first|exact HB.out|apply below_alloc|apply pw_below_drewN|apply below_drew1|refine below_set ?_ GE337.out|refine below_set ?_ GE338.out)|exact HB.out))));have n1_:=Aside0.mk (blk_below (g:=gb337) (o:=.cells #[.int .i64 a0_0,.int .i64 a0_1,.slice A0_2 l0_2.length c0_2,.int .i64 a0_3,.int .u32 a0_4] 25 (0,0)) (by (with_reducible repeat (first|refine blk_drewN ?_ _|refine blk_drew ?_|refine blk_alloc ?_ _));exact BK337.out) hb);have n2_:=Aside0.mk (blk_below (g:=gb338) (o:=.cells #[.int .i64 0,.int .i64 0,.slice none 0 0,.int .i64 0,.int .u32 0] 25 (0,0)) (by (with_reducible repeat (first|refine blk_drewN ?_ _|refine blk_drew ?_|refine blk_alloc ?_ _));exact BK338.out) hb);have n3_:=Aside0.mk (below_step (by repeat (first|(with_reducible first|exact HB.out|apply below_alloc|apply pw_below_drewN|apply below_drew1|refine below_set ?_ GE337.out|refine below_set ?_ GE338.out)|exact HB.out)) hb);clear BK337;clear BK338;clear HB;have HO344:=n0_;have BK337:=n1_;have BK338:=n2_;have HB:=n3_;clear n0_ n1_ n2_ n3_;(try clear hb);(try clear hb2);(try clear hk);(try clear hi);(try clear ho0))|((with_reducible refine gate_dst (N:=5) rfl ?_);refine box_event ?hg (N:=5) ?hd (cs:=#[.int .i64 0,.int .i64 0,.slice none 0 0,.int .i64 0,.int .u32 0]) (t:=25) ?hr ?_;(case hd=>rfl);(case hg=>rfl);(case hr=>first|(go_simp;done)|(go_simp;rfl));intro gb347 hg w14 hbox hb;have n0_:=Aside0.mk (Kd.S_below (by (with_reducible repeat (first|apply Kd.S_alloc|apply Kd.S_drewN|apply Kd.S_drew));exact HO344.out) hb);have n1_:=Aside0.mk (blk_below (g:=gb337) (o:=.cells #[.int .i64 a0_0,.int .i64 a0_1,.slice A0_2 l0_2.length c0_2,.int .i64 a0_3,.int .u32 a0_4] 25 (0,0)) (by (with_reducible repeat (first|refine blk_drewN ?_ _|refine blk_drew ?_|refine blk_alloc ?_ _));exact BK337.out) hb);have n2_:=Aside0.mk (blk_below (g:=gb338) (o:=.cells #[.int .i64 0,.int .i64 0,.slice none 0 0,.int .i64 0,.int .u32 0] 25 (0,0)) (by (with_reducible repeat (first|refine blk_drewN ?_ _|refine blk_drew ?_|refine blk_alloc ?_ _));exact BK338.out) hb);have n3_:=Aside0.mk (below_step (by repeat (first|(with_reducible first|exact HB.out|apply below_alloc|apply pw_below_drewN|apply below_drew1|refine below_set ?_ GE337.out|refine below_set ?_ GE338.out)|exact HB.out)) hb);have n4_:=Aside0.mk (hbox);have n5_:=Aside0.mk ((by rw [hg];exact (below_size (by repeat (first|(with_reducible first|exact HB.out|apply below_alloc|apply pw_below_drewN|apply below_drew1|refine below_set ?_ GE337.out|refine below_set ?_ GE338.out)|exact HB.out))) : w.heap.size ≤ gb347));have n6_:=Aside0.mk ((by rw [hg];exact (below_size (by repeat (first|(with_reducible first|exact HB.out|apply below_alloc|apply pw_below_drewN|apply below_drew1|refine below_set ?_ GE337.out|refine below_set ?_ GE338.out)|exact HB.out))) : w.heap.size ≤ gb347));have n7_:=Aside0.mk ((by rw [hg];exact Nat.ne_of_lt (blk_lt (g:=gb337) (o:=.cells #[.int .i64 a0_0,.int .i64 a0_1,.slice A0_2 l0_2.length c0_2,.int .i64 a0_3,.int .u32 a0_4] 25 (0,0)) (by (with_reducible repeat (first|refine blk_drewN ?_ _|refine blk_drew ?_|refine blk_alloc ?_ _));exact BK337.out)) : gb337 ≠ gb347));have n8_:=Aside0.mk ((by rw [hg];exact Nat.ne_of_gt (blk_lt (g:=gb337) (o:=.cells #[.int .i64 a0_0,.int .i64 a0_1,.slice A0_2 l0_2.length c0_2,.int .i64 a0_3,.int .u32 a0_4] 25 (0,0)) (by (with_reducible repeat (first|refine blk_drewN ?_ _|refine blk_drew ?_|refine blk_alloc ?_ _));exact BK337.out)) : gb347 ≠ gb337));have n9_:=Aside0.mk ((by rw [hg];exact Nat.ne_of_lt (blk_lt (g:=gb338) (o:=.cells #[.int .i64 0,.int .i64 0,.slice none 0 0,.int .i64 0,.int .u32 0] 25 (0,0)) (by (with_reducible repeat (first|refine blk_drewN ?_ _|refine blk_drew ?_|refine blk_alloc ?_ _));exact BK338.out)) : gb338 ≠ gb347));have n10_:=Aside0.mk ((by rw [hg];exact Nat.ne_of_gt (blk_lt (g:=gb338) (o:=.cells #[.int .i64 0,.int .i64 0,.slice none 0 0,.int .i64 0,.int .u32 0] 25 (0,0)) (by (with_reducible repeat (first|refine blk_drewN ?_ _|refine blk_drew ?_|refine blk_alloc ?_ _));exact BK338.out)) : gb347 ≠ gb338));clear HO344;clear BK337;clear BK338;clear HB;have HO344:=n0_;have BK337:=n1_;have BK338:=n2_;have HB:=n3_;have BK347:=n4_;have GW347:=n5_;have GE347:=n6_;have NB337_347:=n7_;have NB347_337:=n8_;have NB338_347:=n9_;have NB347_338:=n10_;clear n0_ n1_ n2_ n3_ n4_ n5_ n6_ n7_ n8_ n9_ n10_;clear hb hbox hg;have hnb15:=NB347_337.out;have hnc15:=NB337_347.out;have hnb16:=NB347_338.out;have hnc16:=NB338_347.out;have hcz17_0 : w14.cell? ⟨gb347,0,none⟩ = some (.int .i64 0):=(blk_cell BK347.out 0).trans rfl;have hcz17_1 : w14.cell? ⟨gb347,1,none⟩ = some (.int .i64 0):=(blk_cell BK347.out 1).trans rfl;have hcz17_2 : w14.cell? ⟨gb347,2,none⟩ = some (.slice none 0 0):=(blk_cell BK347.out 2).trans rfl;have hcz17_3 : w14.cell? ⟨gb347,3,none⟩ = some (.int .i64 0):=(blk_cell BK347.out 3).trans rfl;have hcz17_4 : w14.cell? ⟨gb347,4,none⟩ = some (.int .u32 0):=(blk_cell BK347.out 4).trans rfl;have hfz17_0:=blk_frozen BK347.out 0;have hfz17_1:=blk_frozen BK347.out 1;have hfz17_2:=blk_frozen BK347.out 2;have hfz17_3:=blk_frozen BK347.out 3;have hfz17_4:=blk_frozen BK347.out 4;obtain ⟨Ao18,co18,eo18⟩:=Kd.S_slice HO344.out;subst eo18))
   have n0_ : Aside0 (Kd.S (Kd.slice 3 (Kd.int .i64)) 26 (((((w14.setCell ⟨gb347,0,none⟩ (.int .i64 t340)).setCell ⟨gb347,1,none⟩ (.int .i64 t341)).setCell ⟨gb347,2,none⟩ (.slice Ao18 t342.length co18)).setCell ⟨gb347,3,none⟩ (.int .i64 t345)).setCell ⟨gb347,4,none⟩ (.int .u32 t346)) w.heap.size (fun _=>True) (.slice Ao18 t342.length co18) t342):=⟨by (with_reducible repeat (first|apply Kd.S_alloc|apply Kd.S_drewN|apply Kd.S_drew));exact Kd.S_mono (Kd.S_far (p:=⟨gb347,4,none⟩) (Kd.S_far (p:=⟨gb347,3,none⟩) (Kd.S_far (p:=⟨gb347,2,none⟩) (Kd.S_far (p:=⟨gb347,1,none⟩) (Kd.S_far (p:=⟨gb347,0,none⟩) (Kd.S_types HO344.out BK347.out (by decide)) (fun _ hk=>hk.2) (.int .i64 t340)) (fun _ hk=>hk.2) (.int .i64 t341)) (fun _ hk=>hk.2) (.slice Ao18 t342.length co18)) (fun _ hk=>hk.2) (.int .i64 t345)) (fun _ hk=>hk.2) (.int .u32 t346)) (fun _ hk=>trivial)⟩
   have n1_ : Aside0 ((((((w14.setCell ⟨gb347,0,none⟩ (.int .i64 t340)).setCell ⟨gb347,1,none⟩ (.int .i64 t341)).setCell ⟨gb347,2,none⟩ (.slice Ao18 t342.length co18)).setCell ⟨gb347,3,none⟩ (.int .i64 t345)).setCell ⟨gb347,4,none⟩ (.int .u32 t346)).heap[gb337]? = some (.cells #[.int .i64 a0_0,.int .i64 a0_1,.slice A0_2 l0_2.length c0_2,.int .i64 a0_3,.int .u32 a0_4] 25 (0,0))):=⟨by (with_reducible repeat (first|refine blk_drewN ?_ _|refine blk_drew ?_|refine blk_alloc ?_ _));refine blk_far ?_ NB337_347.out _;(with_reducible repeat (first|refine blk_drewN ?_ _|refine blk_drew ?_|refine blk_alloc ?_ _));refine blk_far ?_ NB337_347.out _;(with_reducible repeat (first|refine blk_drewN ?_ _|refine blk_drew ?_|refine blk_alloc ?_ _));refine blk_far ?_ NB337_347.out _;(with_reducible repeat (first|refine blk_drewN ?_ _|refine blk_drew ?_|refine blk_alloc ?_ _));refine blk_far ?_ NB337_347.out _;(with_reducible repeat (first|refine blk_drewN ?_ _|refine blk_drew ?_|refine blk_alloc ?_ _));refine blk_far ?_ NB337_347.out _;(with_reducible repeat (first|refine blk_drewN ?_ _|refine blk_drew ?_|refine blk_alloc ?_ _));exact BK337.out⟩
   have n2_ : Aside0 ((((((w14.setCell ⟨gb347,0,none⟩ (.int .i64 t340)).setCell ⟨gb347,1,none⟩ (.int .i64 t341)).setCell ⟨gb347,2,none⟩ (.slice Ao18 t342.length co18)).setCell ⟨gb347,3,none⟩ (.int .i64 t345)).setCell ⟨gb347,4,none⟩ (.int .u32 t346)).heap[gb338]? = some (.cells #[.int .i64 0,.int .i64 0,.slice none 0 0,.int .i64 0,.int .u32 0] 25 (0,0))):=⟨by (with_reducible repeat (first|refine blk_drewN ?_ _|refine blk_drew ?_|refine blk_alloc ?_ _));refine blk_far ?_ NB338_347.out _;(with_reducible repeat (first|refine blk_drewN ?_ _|refine blk_drew ?_|refine blk_alloc ?_ _));refine blk_far ?_ NB338_347.out _;(with_reducible repeat (first|refine blk_drewN ?_ _|refine blk_drew ?_|refine blk_alloc ?_ _));refine blk_far ?_ NB338_347.out _;(with_reducible repeat (first|refine blk_drewN ?_ _|refine blk_drew ?_|refine blk_alloc ?_ _));refine blk_far ?_ NB338_347.out _;(with_reducible repeat (first|refine blk_drewN ?_ _|refine blk_drew ?_|refine blk_alloc ?_ _));refine blk_far ?_ NB338_347.out _;(with_reducible repeat (first|refine blk_drewN ?_ _|refine blk_drew ?_|refine blk_alloc ?_ _));exact BK338.out⟩
   have n3_ : Aside0 ((((((w14.setCell ⟨gb347,0,none⟩ (.int .i64 t340)).setCell ⟨gb347,1,none⟩ (.int .i64 t341)).setCell ⟨gb347,2,none⟩ (.slice Ao18 t342.length co18)).setCell ⟨gb347,3,none⟩ (.int .i64 t345)).setCell ⟨gb347,4,none⟩ (.int .u32 t346)).heap[gb347]? = some (.cells #[.int .i64 t340,.int .i64 t341,.slice Ao18 t342.length co18,.int .i64 t345,.int .u32 t346] 25 (0,0))):=⟨by (with_reducible repeat (first|refine blk_drewN ?_ _|refine blk_drew ?_|refine blk_alloc ?_ _));refine blk_put (cs:=#[.int .i64 t340,.int .i64 t341,.slice Ao18 t342.length co18,.int .i64 t345,.int .u32 0]) ?_ 4 _ rfl;(with_reducible repeat (first|refine blk_drewN ?_ _|refine blk_drew ?_|refine blk_alloc ?_ _));refine blk_put (cs:=#[.int .i64 t340,.int .i64 t341,.slice Ao18 t342.length co18,.int .i64 0,.int .u32 0]) ?_ 3 _ rfl;(with_reducible repeat (first|refine blk_drewN ?_ _|refine blk_drew ?_|refine blk_alloc ?_ _));refine blk_put (cs:=#[.int .i64 t340,.int .i64 t341,.slice none 0 0,.int .i64 0,.int .u32 0]) ?_ 2 _ rfl;(with_reducible repeat (first|refine blk_drewN ?_ _|refine blk_drew ?_|refine blk_alloc ?_ _));refine blk_put (cs:=#[.int .i64 t340,.int .i64 0,.slice none 0 0,.int .i64 0,.int .u32 0]) ?_ 1 _ rfl;(with_reducible repeat (first|refine blk_drewN ?_ _|refine blk_drew ?_|refine blk_alloc ?_ _));refine blk_put (cs:=#[.int .i64 0,.int .i64 0,.slice none 0 0,.int .i64 0,.int .u32 0]) ?_ 0 _ rfl;(with_reducible repeat (first|refine blk_drewN ?_ _|refine blk_drew ?_|refine blk_alloc ?_ _));exact BK347.out⟩
   have n4_ : Aside0 (Below w.heap.size w (((((w14.setCell ⟨gb347,0,none⟩ (.int .i64 t340)).setCell ⟨gb347,1,none⟩ (.int .i64 t341)).setCell ⟨gb347,2,none⟩ (.slice Ao18 t342.length co18)).setCell ⟨gb347,3,none⟩ (.int .i64 t345)).setCell ⟨gb347,4,none⟩ (.int .u32 t346))):=⟨by repeat (first|(with_reducible first|exact HB.out|apply below_alloc|apply pw_below_drewN|apply below_drew1|refine below_set ?_ GE337.out|refine below_set ?_ GE338.out|refine below_set ?_ GE347.out)|exact HB.out)⟩
   (try clear HO344)
   (try clear BK337)
   (try clear BK338)
   (try clear BK347)
   (try clear HB)
   generalize (((((w14.setCell ⟨gb347,0,none⟩ (.int .i64 t340)).setCell ⟨gb347,1,none⟩ (.int .i64 t341)).setCell ⟨gb347,2,none⟩ (.slice Ao18 t342.length co18)).setCell ⟨gb347,3,none⟩ (.int .i64 t345)).setCell ⟨gb347,4,none⟩ (.int .u32 t346)) = w19 at n0_ n1_ n2_ n3_ n4_ ⊢
   have HO344:=n0_
   have BK337:=n1_
   have BK338:=n2_
   have BK347:=n3_
   have HB:=n4_
   clear n0_ n1_ n2_ n3_ n4_
   have n0_:=Aside0.mk (Kd.S_drew HO344.out)
   have n1_:=Aside0.mk (blk_drew BK337.out)
   have n2_:=Aside0.mk (blk_drew BK338.out)
   have n3_:=Aside0.mk (blk_drew BK347.out)
   have n4_:=Aside0.mk (below_drew1 HB.out)
   clear HO344
   clear BK337
   clear BK338
   clear BK347
   clear HB
   have HO344:=n0_
   have BK337:=n1_
   have BK338:=n2_
   have BK347:=n3_
   have HB:=n4_
   clear n0_ n1_ n2_ n3_ n4_
   refine start_ (n:=9) (S:=fun w'=>w'.cell? ⟨gb347,0,none⟩ = some (.int .i64 t340) ∧ w'.cell? ⟨gb347,1,none⟩ = some (.int .i64 t341) ∧ w'.cell? ⟨gb347,2,none⟩ = some (.slice Ao18 t342.length co18) ∧ w'.cell? ⟨gb347,3,none⟩ = some (.int .i64 t345) ∧ w'.cell? ⟨gb347,4,none⟩ = some (.int .u32 t346) ∧ w'.cell? ⟨gb337,0,none⟩ = some (.int .i64 a0_0) ∧ w'.cell? ⟨gb337,1,none⟩ = some (.int .i64 a0_1) ∧ w'.cell? ⟨gb337,2,none⟩ = some (.slice A0_2 l0_2.length c0_2) ∧ w'.cell? ⟨gb337,3,none⟩ = some (.int .i64 a0_3) ∧ w'.cell? ⟨gb337,4,none⟩ = some (.int .u32 a0_4)) (ds:=[8]) #[false,false,false,false,false,false,false,false,false] (by kernel_rfl) rfl rfl ⟨(blk_cell BK347.out 0).trans rfl,(blk_cell BK347.out 1).trans rfl,(blk_cell BK347.out 2).trans rfl,(blk_cell BK347.out 3).trans rfl,(blk_cell BK347.out 4).trans rfl,(blk_cell BK337.out 0).trans rfl,(blk_cell BK337.out 1).trans rfl,(blk_cell BK337.out 2).trans rfl,(blk_cell BK337.out 3).trans rfl,(blk_cell BK337.out 4).trans rfl⟩ (fun hHeld=>?_);refine with_tabW machine_Not.tab5 machine_Not.bits5 (fun HT_ HW_=>?_)
   generalize w19.drew = w20 at HO344 BK337 BK338 BK347 HB hHeld ⊢
   refine pure_ (i:=0) (N:=some 14) (v:=?_) (a':=?_) #[true,false,false,false,false,false,false,false,false] rfl rfl (any_of HT_.out (by kernel_rfl)) (fun _ _ _ h=>h) (Or.inl ⟨by rfl,?_⟩) ?_ ?_
   rotate_left
   ·intro w'
    go_simp
    with_reducible rfl
   rotate_left
   ·simp only [Act.put,List.setIfInBounds_toArray,List.set_cons_zero,List.set_cons_succ,i64_w,i32_w]
    rfl
   refine pure_ (i:=2) (N:=some 16) (v:=?_) (a':=?_) #[true,false,true,false,false,false,false,false,false] rfl rfl (any_of HT_.out (by kernel_rfl)) (fun _ _ _ h=>h) (Or.inl ⟨by rfl,?_⟩) ?_ ?_
   rotate_left
   ·intro w'
    go_simp
    with_reducible rfl
   rotate_left
   ·simp only [Act.put,List.setIfInBounds_toArray,List.set_cons_zero,List.set_cons_succ,i64_w,i32_w]
    rfl
   refine take_ (i:=1) (N:=some 15) (v:=?_) (a':=?_) #[true,true,true,false,false,false,false,false,false] rfl rfl (take_ofW HT_.out HW_.out (by kernel_rfl)) (fun _ _ _ h=>h) (Or.inl ⟨by rfl,?_⟩) hHeld ?_ ?_
   rotate_left
   ·rintro w' ⟨s0,s1,s2,s3,s4,s5,s6,s7,s8,s9⟩
    go_simp
    with_reducible rfl
   rotate_left
   ·simp only [Act.put,List.setIfInBounds_toArray,List.set_cons_zero,List.set_cons_succ,i64_w,i32_w]
    rfl
   refine take_ (i:=3) (N:=some 17) (v:=?_) (a':=?_) #[true,true,true,true,false,false,false,false,false] rfl rfl (take_ofW HT_.out HW_.out (by kernel_rfl)) (fun _ _ _ h=>h) (Or.inl ⟨by rfl,?_⟩) hHeld ?_ ?_
   rotate_left
   ·rintro w' ⟨s0,s1,s2,s3,s4,s5,s6,s7,s8,s9⟩
    go_simp
    with_reducible rfl
   rotate_left
   ·simp only [Act.put,List.setIfInBounds_toArray,List.set_cons_zero,List.set_cons_succ,i64_w,i32_w]
    rfl
   refine pure_ (i:=4) (N:=some 18) (v:=?_) (a':=?_) #[true,true,true,true,true,false,false,false,false] rfl rfl (any_of HT_.out (by kernel_rfl)) (fun _ _ _ h=>h) (Or.inl ⟨by rfl,?_⟩) ?_ ?_
   rotate_left
   ·intro w'
    go_simp
    with_reducible rfl
   rotate_left
   ·simp only [Act.put,List.setIfInBounds_toArray,List.set_cons_zero,List.set_cons_succ,i64_w,i32_w]
    rfl
   refine pure_ (i:=5) (N:=some 19) (v:=?_) (a':=?_) #[true,true,true,true,true,true,false,false,false] rfl rfl (any_of HT_.out (by kernel_rfl)) (fun _ _ _ h=>h) (Or.inl ⟨by rfl,?_⟩) ?_ ?_
   rotate_left
   ·intro w'
    go_simp
    with_reducible rfl
   rotate_left
   ·simp only [Act.put,List.setIfInBounds_toArray,List.set_cons_zero,List.set_cons_succ,i64_w,i32_w]
    rfl
   refine pure_ (i:=6) (N:=some 20) (v:=?_) (a':=?_) #[true,true,true,true,true,true,true,false,false] rfl rfl (any_of HT_.out (by kernel_rfl)) (fun _ _ _ h=>h) (Or.inl ⟨by rfl,?_⟩) ?_ ?_
   rotate_left
   ·intro w'
    go_simp
    with_reducible rfl
   rotate_left
   ·simp only [Act.put,List.setIfInBounds_toArray,List.set_cons_zero,List.set_cons_succ,i64_w,i32_w]
    rfl
   refine pure_ (i:=7) (N:=some 21) (v:=?_) (a':=?_) #[true,true,true,true,true,true,true,true,false] rfl rfl (any_of HT_.out (by kernel_rfl)) (fun _ _ _ h=>h) (Or.inl ⟨by rfl,?_⟩) ?_ ?_
   rotate_left
   ·intro w'
    go_simp
    with_reducible rfl
   rotate_left
   ·simp only [Act.put,List.setIfInBounds_toArray,List.set_cons_zero,List.set_cons_succ,i64_w,i32_w]
    rfl
   refine last_ (i:=8) (N:=none) #[true,true,true,true,true,true,true,true,true] rfl rfl (one_of HT_.out (by kernel_rfl)) (by decide) (fun K hK=>?_)
   have hs21 : w20.cell? ⟨gb347,4,none⟩ = some (.int .u32 t346):=(blk_cell BK347.out 4).trans rfl
   have hfs21:=blk_frozen BK347.out 4
   have hns21_0:=NB337_347.out
   have hns21_1:=NB338_347.out
   have hms21_0:=NB347_337.out
   have hms21_1:=NB347_338.out
   refine skip_ (w1:=?_) (by rfl) rfl ?_ ?_
   rotate_left
   ·go_simp
    rfl
   refine hK.out _ _ ?_
   clear hK K
   refine done_ (done_of HT_.out (by kernel_rfl)) ?_
   have hcz22_0 : w20.cell? ⟨gb347,0,none⟩ = some (.int .i64 t340):=(blk_cell BK347.out 0).trans rfl
   have hcz22_1 : w20.cell? ⟨gb347,1,none⟩ = some (.int .i64 t341):=(blk_cell BK347.out 1).trans rfl
   have hcz22_2 : w20.cell? ⟨gb347,2,none⟩ = some (.slice Ao18 t342.length co18):=(blk_cell BK347.out 2).trans rfl
   have hcz22_3 : w20.cell? ⟨gb347,3,none⟩ = some (.int .i64 t345):=(blk_cell BK347.out 3).trans rfl
   have hcz22_4 : w20.cell? ⟨gb347,4,none⟩ = some (.int .u32 t346):=(blk_cell BK347.out 4).trans rfl
   have hfz22_0:=blk_frozen BK347.out 0
   have hfz22_1:=blk_frozen BK347.out 1
   have hfz22_2:=blk_frozen BK347.out 2
   have hfz22_3:=blk_frozen BK347.out 3
   have hfz22_4:=blk_frozen BK347.out 4
   have hcz23_0 : w20.cell? ⟨gb338,0,none⟩ = some (.int .i64 0):=(blk_cell BK338.out 0).trans rfl
   have hcz23_1 : w20.cell? ⟨gb338,1,none⟩ = some (.int .i64 0):=(blk_cell BK338.out 1).trans rfl
   have hcz23_2 : w20.cell? ⟨gb338,2,none⟩ = some (.slice none 0 0):=(blk_cell BK338.out 2).trans rfl
   have hcz23_3 : w20.cell? ⟨gb338,3,none⟩ = some (.int .i64 0):=(blk_cell BK338.out 3).trans rfl
   have hcz23_4 : w20.cell? ⟨gb338,4,none⟩ = some (.int .u32 0):=(blk_cell BK338.out 4).trans rfl
   have hfz23_0:=blk_frozen BK338.out 0
   have hfz23_1:=blk_frozen BK338.out 1
   have hfz23_2:=blk_frozen BK338.out 2
   have hfz23_3:=blk_frozen BK338.out 3
   have hfz23_4:=blk_frozen BK338.out 4
   try go_wp2
   refine bodyPost_ret (results_ct rfl _ _ gb338 25 #[.int .i64 t340,.int .i64 t341,.slice Ao18 t342.length co18,.int .i64 t345,.int .u32 (Go.bits .xor .u32 t346 (((ji6) - 1) % 4294967296))] (0,0) _ rfl (by (with_reducible repeat (first|refine blk_drewN ?_ _|refine blk_drew ?_|refine blk_alloc ?_ _));refine blk_put (cs:=#[.int .i64 t340,.int .i64 t341,.slice Ao18 t342.length co18,.int .i64 t345,.int .u32 0]) ?_ 4 _ rfl;(with_reducible repeat (first|refine blk_drewN ?_ _|refine blk_drew ?_|refine blk_alloc ?_ _));refine blk_put (cs:=#[.int .i64 t340,.int .i64 t341,.slice Ao18 t342.length co18,.int .i64 0,.int .u32 0]) ?_ 3 _ rfl;(with_reducible repeat (first|refine blk_drewN ?_ _|refine blk_drew ?_|refine blk_alloc ?_ _));refine blk_put (cs:=#[.int .i64 t340,.int .i64 t341,.slice none 0 0,.int .i64 0,.int .u32 0]) ?_ 2 _ rfl;(with_reducible repeat (first|refine blk_drewN ?_ _|refine blk_drew ?_|refine blk_alloc ?_ _));refine blk_put (cs:=#[.int .i64 t340,.int .i64 0,.slice none 0 0,.int .i64 0,.int .u32 0]) ?_ 1 _ rfl;(with_reducible repeat (first|refine blk_drewN ?_ _|refine blk_drew ?_|refine blk_alloc ?_ _));refine blk_put (cs:=#[.int .i64 0,.int .i64 0,.slice none 0 0,.int .i64 0,.int .u32 0]) ?_ 0 _ rfl;(with_reducible repeat (first|refine blk_drewN ?_ _|refine blk_drew ?_|refine blk_alloc ?_ _));refine blk_far ?_ NB338_347.out _;(with_reducible repeat (first|refine blk_drewN ?_ _|refine blk_drew ?_|refine blk_alloc ?_ _));exact BK338.out) Try.underlying25 rfl (by kernel_rfl)) rfl ?_
   exact ⟨_,by first|rfl|(simp [errW_none,errW_some] <;> rfl)|(simp only [← hji6];first|rfl|(simp [errW_none,errW_some] <;> rfl))|(simp [*,errW_none,errW_some] <;> rfl),by (with_reducible repeat (first|apply Kd.S_alloc|apply Kd.S_drewN|apply Kd.S_drew));exact Kd.S_mono (Kd.S_far (p:=⟨gb338,4,none⟩) (Kd.S_far (p:=⟨gb338,3,none⟩) (Kd.S_far (p:=⟨gb338,2,none⟩) (Kd.S_far (p:=⟨gb338,1,none⟩) (Kd.S_far (p:=⟨gb338,0,none⟩) (Kd.S_far (p:=⟨gb347,4,none⟩) (Kd.S_types (Kd.S_types HO344.out BK347.out (by decide)) BK338.out (by decide)) (fun _ hk=>hk.1.2) (.int .u32 (Go.bits .xor .u32 t346 (((ji6) - 1) % 4294967296)))) (fun _ hk=>hk.2) (.int .i64 t340)) (fun _ hk=>hk.2) (.int .i64 t341)) (fun _ hk=>hk.2) (.slice Ao18 t342.length co18)) (fun _ hk=>hk.2) (.int .i64 t345)) (fun _ hk=>hk.2) (.int .u32 (Go.bits .xor .u32 t346 (((ji6) - 1) % 4294967296)))) (fun _ hk=>trivial),by repeat (first|(with_reducible first|exact HB.out|apply below_alloc|apply pw_below_drewN|apply below_drew1|refine below_set ?_ GE337.out|refine below_set ?_ GE338.out|refine below_set ?_ GE347.out)|exact HB.out)⟩
  ·rw [if_neg c5] at H
   exact absurd H (by simp)
 ·rw [if_neg c3] at H
  have c3b0 : (t339 == 0) = false:=beq_eq_false_iff_ne.mpr c3
  have c3b1 : (t339 != 0) = true:=bne_iff_ne.mpr c3
  simp only [Option.some.injEq,Prod.mk.injEq] at H
  obtain ⟨rfl,rfl,rfl,rfl,rfl,rfl⟩:=H
  go_enter Try.func11,Try.ntmps11
  go_wp2_with (first|((with_reducible refine gate_dst (N:=1) rfl ?_);refine box_event ?hg (N:=1) ?hd (cs:=#[.int .i64 a0_0,.int .i64 a0_1,.slice A0_2 l0_2.length c0_2,.int .i64 a0_3,.int .u32 a0_4]) (t:=25) ?hr ?_;(case hd=>rfl);(case hg=>rfl);(case hr=>first|(go_simp;done)|(go_simp;rfl));intro gb337 hg w24 hbox hb;have n0_:=Aside0.mk (below_step (by repeat (first|(with_reducible first|exact HB.out|apply below_alloc|apply pw_below_drewN|apply below_drew1)|exact HB.out)) hb);have n1_:=Aside0.mk (hbox);have n2_:=Aside0.mk ((by rw [hg];exact (below_size (by repeat (first|(with_reducible first|exact HB.out|apply below_alloc|apply pw_below_drewN|apply below_drew1)|exact HB.out))) : w.heap.size ≤ gb337));have n3_:=Aside0.mk ((by rw [hg];exact (below_size (by repeat (first|(with_reducible first|exact HB.out|apply below_alloc|apply pw_below_drewN|apply below_drew1)|exact HB.out))) : w.heap.size ≤ gb337));clear HB;have HB:=n0_;have BK337:=n1_;have GW337:=n2_;have GE337:=n3_;clear n0_ n1_ n2_ n3_;clear hb hbox hg)|((with_reducible refine gate_dst (N:=2) rfl ?_);refine box_event ?hg (N:=2) ?hd (cs:=#[.int .i64 0,.int .i64 0,.slice none 0 0,.int .i64 0,.int .u32 0]) (t:=25) ?hr ?_;(case hd=>rfl);(case hg=>rfl);(case hr=>first|(go_simp;done)|(go_simp;rfl));intro gb338 hg w25 hbox hb;have n0_:=Aside0.mk (blk_below (g:=gb337) (o:=.cells #[.int .i64 a0_0,.int .i64 a0_1,.slice A0_2 l0_2.length c0_2,.int .i64 a0_3,.int .u32 a0_4] 25 (0,0)) (by (with_reducible repeat (first|refine blk_drewN ?_ _|refine blk_drew ?_|refine blk_alloc ?_ _));exact BK337.out) hb);have n1_:=Aside0.mk (below_step (by repeat (first|(with_reducible first|exact HB.out|apply below_alloc|apply pw_below_drewN|apply below_drew1|refine below_set ?_ GE337.out)|exact HB.out)) hb);have n2_:=Aside0.mk (hbox);have n3_:=Aside0.mk ((by rw [hg];exact (below_size (by repeat (first|(with_reducible first|exact HB.out|apply below_alloc|apply pw_below_drewN|apply below_drew1|refine below_set ?_ GE337.out)|exact HB.out))) : w.heap.size ≤ gb338));have n4_:=Aside0.mk ((by rw [hg];exact (below_size (by repeat (first|(with_reducible first|exact HB.out|apply below_alloc|apply pw_below_drewN|apply below_drew1|refine below_set ?_ GE337.out)|exact HB.out))) : w.heap.size ≤ gb338));have n5_:=Aside0.mk ((by rw [hg];exact Nat.ne_of_lt (blk_lt (g:=gb337) (o:=.cells #[.int .i64 a0_0,.int .i64 a0_1,.slice A0_2 l0_2.length c0_2,.int .i64 a0_3,.int .u32 a0_4] 25 (0,0)) (by (with_reducible repeat (first|refine blk_drewN ?_ _|refine blk_drew ?_|refine blk_alloc ?_ _));exact BK337.out)) : gb337 ≠ gb338));have n6_:=Aside0.mk ((by rw [hg];exact Nat.ne_of_gt (blk_lt (g:=gb337) (o:=.cells #[.int .i64 a0_0,.int .i64 a0_1,.slice A0_2 l0_2.length c0_2,.int .i64 a0_3,.int .u32 a0_4] 25 (0,0)) (by (with_reducible repeat (first|refine blk_drewN ?_ _|refine blk_drew ?_|refine blk_alloc ?_ _));exact BK337.out)) : gb338 ≠ gb337));clear BK337;clear HB;have BK337:=n0_;have HB:=n1_;have BK338:=n2_;have GW338:=n3_;have GE338:=n4_;have NB337_338:=n5_;have NB338_337:=n6_;clear n0_ n1_ n2_ n3_ n4_ n5_ n6_;clear hb hbox hg;have hnb26:=NB337_338.out;have hnc26:=NB338_337.out;have hcz27_0 : w25.cell? ⟨gb337,0,none⟩ = some (.int .i64 a0_0):=(blk_cell BK337.out 0).trans rfl;have hcz27_1 : w25.cell? ⟨gb337,1,none⟩ = some (.int .i64 a0_1):=(blk_cell BK337.out 1).trans rfl;have hcz27_2 : w25.cell? ⟨gb337,2,none⟩ = some (.slice A0_2 l0_2.length c0_2):=(blk_cell BK337.out 2).trans rfl;have hcz27_3 : w25.cell? ⟨gb337,3,none⟩ = some (.int .i64 a0_3):=(blk_cell BK337.out 3).trans rfl;have hcz27_4 : w25.cell? ⟨gb337,4,none⟩ = some (.int .u32 a0_4):=(blk_cell BK337.out 4).trans rfl;have hfz27_0:=blk_frozen BK337.out 0;have hfz27_1:=blk_frozen BK337.out 1;have hfz27_2:=blk_frozen BK337.out 2;have hfz27_3:=blk_frozen BK337.out 3;have hfz27_4:=blk_frozen BK337.out 4)|((with_reducible refine gate_callee (f:=13) rfl ?_);refine goesL_ (some 7) rfl rfl Try.func13 (by kernel_rfl) rfl #[.agg #[.int .i64 a0_0,.int .i64 a0_1,.slice A0_2 l0_2.length c0_2,.int .i64 a0_3,.int .u32 a0_4]] rfl (by (try simp only [List.map_toArray,List.map_cons,List.map_nil]);first|done|rfl|(simp only [List.length_drop,List.length_take];rfl)) ?_;(with_reducible refine (machine_Check.calls k a0_0 a0_1 _ _ l0_2 a0_3 a0_4 t339 _ ?side1 ?side2 A2.out).mono ?_);(case side1=>repeat (first|exact (Kd.C_below HR0_2.out HB.out)|(with_reducible refine Kd.C_alloc ?_ _)|(with_reducible refine Kd.C_drewN ?_ _)|(with_reducible refine Kd.C_drew ?_)));(case side2=>exact HC0_2.out);rintro e w28 ⟨rfl,hb⟩;refine ⟨_,rfl,?_⟩;have n0_:=Aside0.mk (blk_below (g:=gb337) (o:=.cells #[.int .i64 a0_0,.int .i64 a0_1,.slice A0_2 l0_2.length c0_2,.int .i64 a0_3,.int .u32 a0_4] 25 (0,0)) (by (with_reducible repeat (first|refine blk_drewN ?_ _|refine blk_drew ?_|refine blk_alloc ?_ _));exact BK337.out) hb);have n1_:=Aside0.mk (blk_below (g:=gb338) (o:=.cells #[.int .i64 0,.int .i64 0,.slice none 0 0,.int .i64 0,.int .u32 0] 25 (0,0)) (by (with_reducible repeat (first|refine blk_drewN ?_ _|refine blk_drew ?_|refine blk_alloc ?_ _));exact BK338.out) hb);have n2_:=Aside0.mk (below_step (by repeat (first|(with_reducible first|exact HB.out|apply below_alloc|apply pw_below_drewN|apply below_drew1|refine below_set ?_ GE337.out|refine below_set ?_ GE338.out)|exact HB.out)) hb);clear BK337;clear BK338;clear HB;have BK337:=n0_;have BK338:=n1_;have HB:=n2_;clear n0_ n1_ n2_;(try clear hb);(try clear hb2);(try clear hk);(try clear hi);have hcz29_0 : w28.cell? ⟨gb338,0,none⟩ = some (.int .i64 0):=(blk_cell BK338.out 0).trans rfl;have hcz29_1 : w28.cell? ⟨gb338,1,none⟩ = some (.int .i64 0):=(blk_cell BK338.out 1).trans rfl;have hcz29_2 : w28.cell? ⟨gb338,2,none⟩ = some (.slice none 0 0):=(blk_cell BK338.out 2).trans rfl;have hcz29_3 : w28.cell? ⟨gb338,3,none⟩ = some (.int .i64 0):=(blk_cell BK338.out 3).trans rfl;have hcz29_4 : w28.cell? ⟨gb338,4,none⟩ = some (.int .u32 0):=(blk_cell BK338.out 4).trans rfl;have hfz29_0:=blk_frozen BK338.out 0;have hfz29_1:=blk_frozen BK338.out 1;have hfz29_2:=blk_frozen BK338.out 2;have hfz29_3:=blk_frozen BK338.out 3;have hfz29_4:=blk_frozen BK338.out 4))
  refine bodyPost_ret (results_ct rfl _ _ gb338 25 #[.int .i64 0,.int .i64 0,.slice none 0 0,.int .i64 0,.int .u32 0] (0,0) _ rfl (by (with_reducible repeat (first|refine blk_drewN ?_ _|refine blk_drew ?_|refine blk_alloc ?_ _));refine blk_put (cs:=#[.int .i64 0,.int .i64 0,.slice none 0 0,.int .i64 0,.int .u32 0]) ?_ 4 _ rfl;(with_reducible repeat (first|refine blk_drewN ?_ _|refine blk_drew ?_|refine blk_alloc ?_ _));refine blk_put (cs:=#[.int .i64 0,.int .i64 0,.slice none 0 0,.int .i64 0,.int .u32 0]) ?_ 3 _ rfl;(with_reducible repeat (first|refine blk_drewN ?_ _|refine blk_drew ?_|refine blk_alloc ?_ _));refine blk_put (cs:=#[.int .i64 0,.int .i64 0,.slice none 0 0,.int .i64 0,.int .u32 0]) ?_ 2 _ rfl;(with_reducible repeat (first|refine blk_drewN ?_ _|refine blk_drew ?_|refine blk_alloc ?_ _));refine blk_put (cs:=#[.int .i64 0,.int .i64 0,.slice none 0 0,.int .i64 0,.int .u32 0]) ?_ 1 _ rfl;(with_reducible repeat (first|refine blk_drewN ?_ _|refine blk_drew ?_|refine blk_alloc ?_ _));refine blk_put (cs:=#[.int .i64 0,.int .i64 0,.slice none 0 0,.int .i64 0,.int .u32 0]) ?_ 0 _ rfl;(with_reducible repeat (first|refine blk_drewN ?_ _|refine blk_drew ?_|refine blk_alloc ?_ _));exact BK338.out) Try.underlying25 rfl (by kernel_rfl)) rfl ?_
  exact ⟨_,by first|rfl|(simp [errW_none,errW_some] <;> rfl)|(simp [*,errW_none,errW_some] <;> rfl),by first|exact Kd.S_nil _ _ _ _ _|exact Kd.N_nil _ _ _ _ _|exact Kd.V_nil _ _ _ _ _|exact Kd.Q_nil _ _ _ _ _|exact Kd.R_nil _ _ _ _ _,by repeat (first|(with_reducible first|exact HB.out|apply below_alloc|apply pw_below_drewN|apply below_drew1|refine below_set ?_ GE337.out|refine below_set ?_ GE338.out)|exact HB.out)⟩
/-! ### coppicerref_Again: function 12 -/
def coppicerref_Again.l0 : Nat → List Int → Int → List Int → Int → Option (List Int)
 | 0,_,_,_,_=>none
 | k + 1,x0,x1,x5,x6=>if x6 < x1 then (if x5.length + x0.length < 17592186044416 then (coppicerref_Again.l0 k x0 x1 (x5 ++ x0) (wrap64 (x6 + 1))) else (none)) else (some x5)
def coppicerref_Again.f (k : Nat) (l0 : List Int) (a1 : Int) : Option (List Int):=coppicerref_Again.l0 k l0 a1 ([] : List Int) 0
theorem coppicerref_Again.mono_l : ∀ k,(∀ y0 y1 y2 y3,LeO (coppicerref_Again.l0 k y0 y1 y2 y3) (coppicerref_Again.l0 (k + 1) y0 y1 y2 y3))
 | 0=>fun _ _ _ _ r h=>by simp [coppicerref_Again.l0] at h
 | k + 1=>by
  have ih0:=coppicerref_Again.mono_l k
  ·intro y0 y1 y2 y3
   unfold coppicerref_Again.l0
   repeat' first
   | (with_reducible exact ih0 _ _ _ _)
   | (with_reducible exact LeO.refl _)
   | (with_reducible exact LeO.none _)
   | (with_reducible refine LeO.ite ?_ ?_)
   | (with_reducible refine LeO.bind ?_ (fun _=>?_))
   | exact ih0 _ _ _ _
   | exact LeO.none _
   | refine LeO.ite ?_ ?_
   | refine LeO.bind ?_ (fun _=>?_)
theorem coppicerref_Again.mono : ∀ a0 a1 k,LeO (coppicerref_Again.f k a0 a1) (coppicerref_Again.f (k + 1) a0 a1):=by
 intro a0 a1 k
 have ih0:=coppicerref_Again.mono_l k
 unfold coppicerref_Again.f
 repeat' first
   | (with_reducible exact ih0 _ _ _ _)
   | (with_reducible exact LeO.refl _)
   | (with_reducible exact LeO.none _)
   | (with_reducible refine LeO.ite ?_ ?_)
   | (with_reducible refine LeO.bind ?_ (fun _=>?_))
   | exact ih0 _ _ _ _
   | exact LeO.none _
   | refine LeO.ite ?_ ?_
   | refine LeO.bind ?_ (fun _=>?_)
set_option maxHeartbeats 8000000 in
set_option maxRecDepth 100000 in
theorem coppicerref_Again.calls (k : Nat) (A0 : Option Addr) (c0 : Nat) (l0 : List Int) (a1 : Int) (r : List Int) (w : World) (hr0 : Kd.C (Kd.int .i64) w A0 l0.length l0) (hc0 : l0.length ≤ c0) (h : coppicerref_Again.f k l0 a1 = some r) :
  Calls Try.prog 12 #[.slice A0 l0.length c0,.int .i64 a1] w fun e w'=>∃ v0_ : Value,e = .returned (v0_) ∧ Kd.R (Kd.int .i64) 3 w' w.heap.size (fun _=>True) v0_ r ∧ Below w.heap.size w w':=by
 have HR0:=Aside0.mk hr0
 have HC0:=Aside0.mk hc0
 clear hr0 hc0
 have HB:=Aside0.mk (Below.refl w.heap.size w)
 have H : (coppicerref_Again.l0 k l0 a1 ([] : List Int) 0) = some r:=h
 clear h
 have H':=Aside0.mk H
 clear H
 go_enter Try.func12,Try.ntmps12
 go_wp2
 go_loopg [5,6] k (fun kq v5 v6 w'=>∃ (x5_1 : List Int) (x6_1 : Int),v6 = .int .i64 x6_1 ∧ Aside0 (coppicerref_Again.l0 kq l0 a1 x5_1 x6_1 = some r) ∧ Aside0 (kq ≤ k) ∧ Aside0 (Kd.R (Kd.int .i64) 3 w' w.heap.size (fun _=>True) v5 x5_1) ∧ Aside0 (Below w.heap.size w w'))
 case atStart=>exact ⟨(([] : List Int)),(0),(by first|rfl|(simp;done)|(simp [*];done)),H',⟨Nat.le_refl _⟩,⟨by first|exact Kd.R_nil _ _ _ _ _|exact Kd.N_nil _ _ _ _ _|exact Kd.V_nil _ _ _ _ _|exact Kd.Q_nil _ _ _ _ _|exact Kd.S_nil _ _ _ _ _⟩,⟨by repeat (first|(with_reducible first|exact HB.out|apply below_alloc|apply pw_below_drewN|apply below_drew1)|exact HB.out)⟩⟩
 case round =>
  clear H'
  try clear c1
  try clear p2
  obtain ⟨x5_1,x6_1,rfl,HA,HK1,HO_5,HB⟩:=hrel
  cases gk with
  | zero=>exact absurd HA.out (by simp [coppicerref_Again.l0])
  | succ k1 =>
   have H:=HA.out
   clear HA
   simp only [coppicerref_Again.l0] at H
   by_cases c3 : x6_1 < a1
   ·rw [if_pos c3] at H
    have c3b0 : decide (x6_1 < a1) = true:=decide_eq_true c3
    clear c3
    by_cases c4 : x5_1.length + l0.length < 17592186044416
    ·rw [if_pos c4] at H
     have LMc4:=Aside0.mk c4
     clear c4
     obtain ⟨y348,hy348⟩ : ∃ y_ : List Int,y_ = (x5_1 ++ l0):=⟨_,rfl⟩
     replace H : (coppicerref_Again.l0 k1 l0 a1 y348 (wrap64 (x6_1 + 1))) = some r:=by first|(rw [hy348];with_reducible exact H)|(have H2_:=(Option.bind_some _ _).symm.trans H;rw [hy348];with_reducible exact H2_)|(have H2_:=(Option.bind_some _ _).symm.trans H;with_reducible exact H2_)|with_reducible exact H|(rw [hy348];exact H)|exact H
     have Ny348:=Aside0.mk hy348
     clear hy348
     have H':=Aside0.mk H
     clear H
     go_wp2_with (first|((with_reducible refine gate_builtin (b:=.append) (xs:=#[.tmp 12,.tmp 13]) rfl ?_);at_builtin;refine Kd.R_append_rows (Kd.int .i64) (w0:=w) w.heap.size rfl (.tmp 12) (.tmp 13) 26 3 (.int .i64 0) 8 rfl Try.underlying26 info3 rfl (by decide) (by omega) u5 x5_1 l0 _ _ _ (fun _=>True) (fun _=>False) rfl rfl ?aO ?aR (fun _ _ h=>h) (fun _ h=>h.elim) ?aF ?aB ?aS ?aL ?_;(case aR=>repeat (first|exact (Kd.C_below HR0.out HB.out)|(with_reducible refine Kd.C_alloc ?_ _)|(with_reducible refine Kd.C_drewN ?_ _)|(with_reducible refine Kd.C_drew ?_)));(case aB=>exact (by repeat (first|(with_reducible first|exact HB.out|apply below_alloc|apply pw_below_drewN|apply below_drew1)|exact HB.out)));(case aF=>exact (fun _ _=>trivial));(case aO=>exact (by (with_reducible repeat (first|apply Kd.R_alloc|apply Kd.R_drewN|apply Kd.R_drew));exact HO_5.out));(case aS=>exact (below_size (by repeat (first|(with_reducible first|exact HB.out|apply below_alloc|apply pw_below_drewN|apply below_drew1)|exact HB.out))));(case aL=>have:=LMc4.out;omega);intro v349 w5 ho hb hg hat;rw [← Ny348.out] at ho;have n0_:=Aside0.mk (hb);have n1_:=Aside0.mk (ho);clear HB;clear HO_5;have HB:=n0_;have HO350:=n1_;clear n0_ n1_;clear ho hb hg hat))
     go_roundg k1
     case measure=>have:=HK1.out;omega
     case rel=>exact ⟨(y348),(wrap64 (x6_1 + 1)),(by first|rfl|(simp;done)|(simp [*];done)),H',⟨by have:=HK1.out;omega⟩,⟨by (with_reducible repeat (first|apply Kd.R_alloc|apply Kd.R_drewN|apply Kd.R_drew));exact HO350.out⟩,⟨by repeat (first|(with_reducible first|exact HB.out|apply below_alloc|apply pw_below_drewN|apply below_drew1)|exact HB.out)⟩⟩
    ·rw [if_neg c4] at H
     exact absurd H (by simp)
   ·rw [if_neg c3] at H
    have c3b0 : decide (x6_1 < a1) = false:=decide_eq_false c3
    clear c3
    obtain rfl:=Option.some.inj H
    go_wp2
    go_ret
    exact ⟨_,by first|rfl|(simp [errW_none,errW_some] <;> rfl)|(simp [*,errW_none,errW_some] <;> rfl),by (with_reducible repeat (first|apply Kd.R_alloc|apply Kd.R_drewN|apply Kd.R_drew));exact HO_5.out,by repeat (first|(with_reducible first|exact HB.out|apply below_alloc|apply pw_below_drewN|apply below_drew1)|exact HB.out)⟩
end Go.Proofs.Yteppbihlpicjpaa.GM
