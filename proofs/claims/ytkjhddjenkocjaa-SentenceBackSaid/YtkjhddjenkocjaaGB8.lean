-- Written by ext.py, a program of this session.
import Derived.Test.YtkjhddjenkocjaaGB0
import Derived.Test.YtkjhddjenkocjaaGB6
import Derived.Test.YtkjhddjenkocjaaGB7
namespace Go.Proofs.Ytkjhddjenkocjaa.GB
open Go.RowKit Go.Proofs.YtkjhddjenkocjaaW.PrintWords Go.Proofs.YtkjhddjenkocjaaW.PrintLast Go.Proofs.YtkjhddjenkocjaaW.PrintMore
attribute [local go_sem] max2_int min2_int max_two min_two max_three min_three max_four min_four cellIs_set   -- for this text's walks alone
set_option linter.unusedVariables false
set_option linter.unusedSimpArgs false
/-! ### coppicerref_SentenceCheck: function 50 -/
def coppicerref_SentenceCheck.f (k : Nat) (a0 : Int) (l1 : List (S25)) : Option (Int):=if a0 < 1 then (some 1) else (if a0 > 3 then (some 1) else (if (l1.length : Int) = 0 then (some 1) else (if (l1.length : Int) > 9 then (some 1) else ((coppicerref_Right.f k a0 l1).bind fun t162=>(some t162)))))
theorem coppicerref_SentenceCheck.mono : ∀ a0 a1 k,LeO (coppicerref_SentenceCheck.f k a0 a1) (coppicerref_SentenceCheck.f (k + 1) a0 a1):=by
 intro a0 a1 k
 unfold coppicerref_SentenceCheck.f
 repeat' first
   | (with_reducible exact coppicerref_Right.mono _ _ _)
   | (with_reducible exact LeO.refl _)
   | (with_reducible exact LeO.none _)
   | (with_reducible refine LeO.ite ?_ ?_)
   | (with_reducible refine LeO.bind ?_ (fun _=>?_))
   | exact coppicerref_Right.mono _ _ _
   | exact LeO.none _
   | refine LeO.ite ?_ ?_
   | refine LeO.bind ?_ (fun _=>?_)
set_option maxHeartbeats 8000000 in
set_option maxRecDepth 100000 in
theorem coppicerref_SentenceCheck.calls (k : Nat) (a0 : Int) (A1 : Option Addr) (c1 : Nat) (l1 : List (S25)) (r : Int) (w : World) (hr1 : Kd.C k25 w A1 l1.length l1) (hc1 : l1.length ≤ c1) (h : coppicerref_SentenceCheck.f k a0 l1 = some r) :
  Calls Try.prog 50 #[.int .i64 a0,.slice A1 l1.length c1] w fun e w'=>e = .returned (.int .i64 r) ∧ Below w.heap.size w w':=by
 have HR1:=Aside0.mk hr1
 have HC1:=Aside0.mk hc1
 clear hr1 hc1
 have HB:=Aside0.mk (Below.refl w.heap.size w)
 have H : (if a0 < 1 then (some 1) else (if a0 > 3 then (some 1) else (if (l1.length : Int) = 0 then (some 1) else (if (l1.length : Int) > 9 then (some 1) else ((coppicerref_Right.f k a0 l1).bind fun t162=>(some t162)))))) = some r:=h
 clear h
 by_cases c3 : a0 < 1
 ·rw [if_pos c3] at H
  have c3b0 : decide (a0 < 1) = true:=decide_eq_true c3
  clear c3
  obtain rfl:=Option.some.inj H
  go_enter Try.func50,Try.ntmps50
  go_wp2
  go_ret
  exact ⟨by first|rfl|(simp [errW_none,errW_some] <;> rfl)|(simp [*,errW_none,errW_some] <;> rfl),by repeat (first|(with_reducible first|exact HB.out|apply below_alloc|apply pw_below_drewN|apply below_drew1)|exact HB.out)⟩
 ·rw [if_neg c3] at H
  have c3b0 : decide (a0 < 1) = false:=decide_eq_false c3
  clear c3
  by_cases c4 : a0 > 3
  ·rw [if_pos c4] at H
   have c4b0 : decide (3 < a0) = true:=decide_eq_true c4
   clear c4
   obtain rfl:=Option.some.inj H
   go_enter Try.func50,Try.ntmps50
   go_wp2
   go_ret
   exact ⟨by first|rfl|(simp [errW_none,errW_some] <;> rfl)|(simp [*,errW_none,errW_some] <;> rfl),by repeat (first|(with_reducible first|exact HB.out|apply below_alloc|apply pw_below_drewN|apply below_drew1)|exact HB.out)⟩
  ·rw [if_neg c4] at H
   have c4b0 : decide (3 < a0) = false:=decide_eq_false c4
   clear c4
   by_cases c5 : (l1.length : Int) = 0
   ·rw [if_pos c5] at H
    have c5b0 : ((l1.length : Int) == 0) = true:=beq_iff_eq.mpr c5
    have c5b1 : ((l1.length : Int) != 0) = false:=bne_eq_false_iff_eq.mpr c5
    clear c5
    obtain rfl:=Option.some.inj H
    go_enter Try.func50,Try.ntmps50
    go_wp2
    go_ret
    exact ⟨by first|rfl|(simp [errW_none,errW_some] <;> rfl)|(simp [*,errW_none,errW_some] <;> rfl),by repeat (first|(with_reducible first|exact HB.out|apply below_alloc|apply pw_below_drewN|apply below_drew1)|exact HB.out)⟩
   ·rw [if_neg c5] at H
    have c5b0 : ((l1.length : Int) == 0) = false:=beq_eq_false_iff_ne.mpr c5
    have c5b1 : ((l1.length : Int) != 0) = true:=bne_iff_ne.mpr c5
    have c5b2 : ¬ (l1 = []):=fun h_=>c5 (by rw [h_];rfl)
    by_cases c6 : (l1.length : Int) > 9
    ·rw [if_pos c6] at H
     have c6b0 : decide (9 < (l1.length : Int)) = true:=decide_eq_true c6
     have c6b1 : decide (9 < l1.length) = true:=decide_eq_true (by omega)
     clear c6
     obtain rfl:=Option.some.inj H
     go_enter Try.func50,Try.ntmps50
     go_wp2
     go_ret
     exact ⟨by first|rfl|(simp [errW_none,errW_some] <;> rfl)|(simp [*,errW_none,errW_some] <;> rfl),by repeat (first|(with_reducible first|exact HB.out|apply below_alloc|apply pw_below_drewN|apply below_drew1)|exact HB.out)⟩
    ·rw [if_neg c6] at H
     have c6b0 : decide (9 < (l1.length : Int)) = false:=decide_eq_false c6
     have c6b1 : decide (9 < l1.length) = false:=decide_eq_false (by omega)
     clear c6
     replace H:=Option.bind_eq_some_iff.mp H
     obtain ⟨t162,A70,H⟩:=H
     replace H : (some t162) = some r:=H
     have A7:=Aside0.mk A70
     clear A70
     obtain rfl:=Option.some.inj H
     go_enter Try.func50,Try.ntmps50
     go_wp2_with (first|((with_reducible refine gate_callee (f:=87) rfl ?_);refine goesL_ (some 23) rfl rfl Try.func87 (by kernel_rfl) rfl #[.int .i64 a0,.slice A1 l1.length c1] rfl (by (try simp only [List.map_toArray,List.map_cons,List.map_nil]);first|done|rfl|(simp only [List.length_drop,List.length_take];rfl)) ?_;(with_reducible refine (coppicerref_Right.calls k a0 _ _ l1 t162 _ ?side1 ?side2 A7.out).mono ?_);(case side1=>repeat (first|exact HR1.out|(with_reducible refine Kd.C_alloc ?_ _)|(with_reducible refine Kd.C_drewN ?_ _)|(with_reducible refine Kd.C_drew ?_)));(case side2=>exact HC1.out);rintro e w8 ⟨rfl,hb⟩;refine ⟨_,rfl,?_⟩;have n0_:=Aside0.mk (below_step (by repeat (first|(with_reducible first|exact HB.out|apply below_alloc|apply pw_below_drewN|apply below_drew1)|exact HB.out)) hb);clear HB;have HB:=n0_;clear n0_;(try clear hb);(try clear hb2);(try clear hk);(try clear hi)))
     go_ret
     exact ⟨by first|rfl|(simp [errW_none,errW_some] <;> rfl)|(simp [*,errW_none,errW_some] <;> rfl),by repeat (first|(with_reducible first|exact HB.out|apply below_alloc|apply pw_below_drewN|apply below_drew1)|exact HB.out)⟩
/-! ### coppicerkeep_said: function 16 -/
def coppicerkeep_said.f (k : Nat) (a0 : Int) (l1 : List (S25)) (l2 : List Int) : Option (Bool):=(coppicerref_SentenceCheck.f k a0 l1).bind fun t163=>(if t163 = 0 then ((coppicerref_WordCheck.f k a0 l2).bind fun t164=>(some (t164 == 0))) else (some false))
theorem coppicerkeep_said.mono : ∀ a0 a1 a2 k,LeO (coppicerkeep_said.f k a0 a1 a2) (coppicerkeep_said.f (k + 1) a0 a1 a2):=by
 intro a0 a1 a2 k
 unfold coppicerkeep_said.f
 repeat' first
   | (with_reducible exact coppicerref_SentenceCheck.mono _ _ _)
   | (with_reducible exact coppicerref_WordCheck.mono _ _ _)
   | (with_reducible exact LeO.refl _)
   | (with_reducible exact LeO.none _)
   | (with_reducible refine LeO.ite ?_ ?_)
   | (with_reducible refine LeO.bind ?_ (fun _=>?_))
   | exact coppicerref_SentenceCheck.mono _ _ _
   | exact coppicerref_WordCheck.mono _ _ _
   | exact LeO.none _
   | refine LeO.ite ?_ ?_
   | refine LeO.bind ?_ (fun _=>?_)
set_option maxHeartbeats 8000000 in
set_option maxRecDepth 100000 in
theorem coppicerkeep_said.calls (k : Nat) (a0 : Int) (A1 : Option Addr) (c1 : Nat) (l1 : List (S25)) (A2 : Option Addr) (c2 : Nat) (l2 : List Int) (r : Bool) (w : World) (hr1 : Kd.C k25 w A1 l1.length l1) (hc1 : l1.length ≤ c1) (hr2 : Kd.C (Kd.int .i64) w A2 l2.length l2) (hc2 : l2.length ≤ c2) (h : coppicerkeep_said.f k a0 l1 l2 = some r) :
  Calls Try.prog 16 #[.int .i64 a0,.slice A1 l1.length c1,.slice A2 l2.length c2] w fun e w'=>e = .returned (.bool r) ∧ Below w.heap.size w w':=by
 have HR1:=Aside0.mk hr1
 have HC1:=Aside0.mk hc1
 clear hr1 hc1
 have HR2:=Aside0.mk hr2
 have HC2:=Aside0.mk hc2
 clear hr2 hc2
 have HB:=Aside0.mk (Below.refl w.heap.size w)
 have H : ((coppicerref_SentenceCheck.f k a0 l1).bind fun t163=>(if t163 = 0 then ((coppicerref_WordCheck.f k a0 l2).bind fun t164=>(some (t164 == 0))) else (some false))) = some r:=h
 clear h
 replace H:=Option.bind_eq_some_iff.mp H
 obtain ⟨t163,A40,H⟩:=H
 replace H : (if t163 = 0 then ((coppicerref_WordCheck.f k a0 l2).bind fun t164=>(some (t164 == 0))) else (some false)) = some r:=H
 have A4:=Aside0.mk A40
 clear A40
 by_cases c5 : t163 = 0
 ·rw [if_pos c5] at H
  have c5b0 : (t163 == 0) = true:=beq_iff_eq.mpr c5
  have c5b1 : (t163 != 0) = false:=bne_eq_false_iff_eq.mpr c5
  clear c5
  replace H:=Option.bind_eq_some_iff.mp H
  obtain ⟨t164,A60,H⟩:=H
  replace H : (some (t164 == 0)) = some r:=H
  have A6:=Aside0.mk A60
  clear A60
  obtain rfl:=Option.some.inj H
  go_enter Try.func16,Try.ntmps16
  go_wp2_with (first|((with_reducible refine gate_callee (f:=50) rfl ?_);refine goesL_ (some 9) rfl rfl Try.func50 (by kernel_rfl) rfl #[.int .i64 a0,.slice A1 l1.length c1] rfl (by (try simp only [List.map_toArray,List.map_cons,List.map_nil]);first|done|rfl|(simp only [List.length_drop,List.length_take];rfl)) ?_;(with_reducible refine (coppicerref_SentenceCheck.calls k a0 _ _ l1 t163 _ ?side1 ?side2 A4.out).mono ?_);(case side1=>repeat (first|exact HR1.out|(with_reducible refine Kd.C_alloc ?_ _)|(with_reducible refine Kd.C_drewN ?_ _)|(with_reducible refine Kd.C_drew ?_)));(case side2=>exact HC1.out);rintro e w7 ⟨rfl,hb⟩;refine ⟨_,rfl,?_⟩;have n0_:=Aside0.mk (below_step (by repeat (first|(with_reducible first|exact HB.out|apply below_alloc|apply pw_below_drewN|apply below_drew1)|exact HB.out)) hb);clear HB;have HB:=n0_;clear n0_;(try clear hb);(try clear hb2);(try clear hk);(try clear hi))|(go_at_call 28;(with_reducible refine (coppicerref_WordCheck.calls k a0 _ _ l2 t164 _ ?side1 ?side2 A6.out).mono ?_);(case side1=>repeat (first|exact (Kd.C_below HR2.out HB.out)|(with_reducible refine Kd.C_alloc ?_ _)|(with_reducible refine Kd.C_drewN ?_ _)|(with_reducible refine Kd.C_drew ?_)));(case side2=>exact HC2.out);rintro e w' ⟨rfl,⟨nd,rfl⟩⟩))
  go_ret
  exact ⟨by first|rfl|(simp [errW_none,errW_some] <;> rfl)|(simp [*,errW_none,errW_some] <;> rfl),by repeat (first|(with_reducible first|exact HB.out|apply below_alloc|apply pw_below_drewN|apply below_drew1)|exact HB.out)⟩
 ·rw [if_neg c5] at H
  have c5b0 : (t163 == 0) = false:=beq_eq_false_iff_ne.mpr c5
  have c5b1 : (t163 != 0) = true:=bne_iff_ne.mpr c5
  obtain rfl:=Option.some.inj H
  go_enter Try.func16,Try.ntmps16
  go_wp2_with (first|((with_reducible refine gate_callee (f:=50) rfl ?_);refine goesL_ (some 9) rfl rfl Try.func50 (by kernel_rfl) rfl #[.int .i64 a0,.slice A1 l1.length c1] rfl (by (try simp only [List.map_toArray,List.map_cons,List.map_nil]);first|done|rfl|(simp only [List.length_drop,List.length_take];rfl)) ?_;(with_reducible refine (coppicerref_SentenceCheck.calls k a0 _ _ l1 t163 _ ?side1 ?side2 A4.out).mono ?_);(case side1=>repeat (first|exact HR1.out|(with_reducible refine Kd.C_alloc ?_ _)|(with_reducible refine Kd.C_drewN ?_ _)|(with_reducible refine Kd.C_drew ?_)));(case side2=>exact HC1.out);rintro e w8 ⟨rfl,hb⟩;refine ⟨_,rfl,?_⟩;have n0_:=Aside0.mk (below_step (by repeat (first|(with_reducible first|exact HB.out|apply below_alloc|apply pw_below_drewN|apply below_drew1)|exact HB.out)) hb);clear HB;have HB:=n0_;clear n0_;(try clear hb);(try clear hb2);(try clear hk);(try clear hi)))
  go_ret
  exact ⟨by first|rfl|(simp [errW_none,errW_some] <;> rfl)|(simp [*,errW_none,errW_some] <;> rfl),by repeat (first|(with_reducible first|exact HB.out|apply below_alloc|apply pw_below_drewN|apply below_drew1)|exact HB.out)⟩
/-! ### api_Node: function 51 -/
def api_Node.f (l0 : List S25) : Option (List S25):=if l0.length < 5864062014805 then some l0 else none
theorem api_Node.info : (Try.prog.info? 25).map (fun i=>(i.zero,i.size,i.bytes)) = some (some (.agg #[(.int .i64 0),(.int .i64 0),(.int .i64 0)]),3,24):=by kernel_rfl
set_option maxHeartbeats 8000000 in
set_option maxRecDepth 100000 in
theorem api_Node.calls (A0 : Option Addr) (c0 : Nat) (l0 : List (S25)) (r : List (S25)) (w : World) (hr0 : Kd.C k25 w A0 l0.length l0) (hc0 : l0.length ≤ c0) (h : api_Node.f l0 = some r) :
  Calls Try.prog 51 #[.slice A0 l0.length c0] w fun e w'=>∃ v0_ : Value,e = .returned (v0_) ∧ Kd.R k25 25 w' w.heap.size (fun _=>True) v0_ r ∧ Below w.heap.size w w':=by
 have HB:=Aside0.mk (Below.refl w.heap.size w)
 unfold api_Node.f at h
 by_cases c : l0.length < 5864062014805
 ·rw [if_pos c] at h
  obtain rfl:=Option.some.inj h
  clear h
  have LM:=Aside0.mk c
  clear c
  have qn : ∀ (w : World) (a : Option Addr) (n c n' c' : Nat),(binOp .eql 22 (.slice a n c) (.slice none n' c')).run Try.prog w = .ok (.bool a.isNone) w:=fun w a n c n' c'=>Lib.run_eql_slice_nil w _ _ a n c n' c' Try.underlying22
  cases A0 with
  | none =>
   obtain rfl : l0 = []:=by
    rcases Nat.eq_zero_or_pos l0.length with h0|h0
    ·exact List.eq_nil_of_length_eq_zero h0
    ·obtain ⟨ad,e,_⟩:=hr0.2.2 h0
     cases e
   clear hr0 hc0 LM
   go_enter Try.func51,Try.ntmps51
   go_wp2
   go_ret
   exact ⟨_,rfl,Kd.R_nil _ _ _ _ _,HB.out⟩
  | some ad =>
   have HR0:=Aside0.mk hr0
   clear hr0 hc0
   obtain ⟨y1,hy1⟩ : ∃ y_ : List S25,y_ = ([] : List S25):=⟨_,rfl⟩
   have Ny1:=Aside0.mk hy1
   clear hy1
   obtain ⟨y2,hy2⟩ : ∃ y_ : List S25,y_ = y1 ++ l0:=⟨_,rfl⟩
   have Ny2:=Aside0.mk hy2
   clear hy2
   go_enter Try.func51,Try.ntmps51
   go_wp2_with (first|((with_reducible refine gate_dst (N:=5) rfl ?_);refine Kd.R_lit k25 _ 25 ?hg (N:=5) ?hd (xs:=([] : List S25)) (inner:=[]) (ok:=fun _=>True) (okp:=fun _=>True) ?hr ?hp (fun _ hk=>hk) trivial (Below.refl _ _) (Nat.le_refl _) (by simp) ?_;(case hd=>rfl);(case hg=>rfl);(case hr=>first|(go_simp;done)|(go_simp;rfl));(case hp=>exact (Reps.none _ _));intro v1 w5 ho1 hb hg_ hnew_;clear hg_ hnew_;(first|rw [← Ny1.out] at ho1|(simp only [Int.reduceToNat] at ho1;rw [← Ny1.out] at ho1));have n0_:=Aside0.mk (Kd.R_lower ho1 (below_size (by repeat (first|(with_reducible first|exact HB.out|apply below_alloc|apply pw_below_drewN|apply below_drew1)|exact HB.out))));have n1_:=Aside0.mk (below_step (by repeat (first|(with_reducible first|exact HB.out|apply below_alloc|apply pw_below_drewN|apply below_drew1)|exact HB.out)) hb);clear HB;have HO1:=n0_;have HB:=n1_;clear n0_ n1_;clear hb ho1)|((with_reducible refine gate_builtin (b:=.append) (xs:=#[.tmp 5,.tmp 6]) rfl ?_);at_builtin;refine Kd.R_append_rows k25 (w0:=w) w.heap.size rfl (.tmp 5) (.tmp 6) 22 25 (.agg #[(.int .i64 0),(.int .i64 0),(.int .i64 0)]) 24 rfl Try.underlying22 api_Node.info rfl (by decide) (by omega) v1 y1 l0 _ _ _ (fun _=>True) (fun _=>False) rfl rfl ?aO ?aR (fun _ _ h=>h) (fun _ h=>h.elim) ?aF ?aB ?aS ?aL ?_;(case aR=>repeat (first|exact (Kd.C_below HR0.out HB.out)|(with_reducible refine Kd.C_alloc ?_ _)|(with_reducible refine Kd.C_drewN ?_ _)|(with_reducible refine Kd.C_drew ?_)));(case aB=>exact (by repeat (first|(with_reducible first|exact HB.out|apply below_alloc|apply pw_below_drewN|apply below_drew1)|exact HB.out)));(case aF=>exact (fun _ _=>trivial));(case aO=>exact (by (with_reducible repeat (first|apply Kd.R_alloc|apply Kd.R_drewN|apply Kd.R_drew));exact HO1.out));(case aS=>exact (below_size (by repeat (first|(with_reducible first|exact HB.out|apply below_alloc|apply pw_below_drewN|apply below_drew1)|exact HB.out))));(case aL=>have:=LM.out;have:=Ny1.out;subst this;simp only [List.length_nil];omega);intro v2 w7 ho hb hg hat;rw [← Ny2.out] at ho;have n0_:=Aside0.mk (hb);have n1_:=Aside0.mk (ho);clear HB;clear HO1;have HB:=n0_;have HO2:=n1_;clear n0_ n1_;clear ho hb hg hat))
   go_ret
   have e2 : y2 = l0:=by rw [Ny2.out,Ny1.out];rfl
   refine ⟨_,rfl,?_,HB.out⟩
   rw [← e2]
   exact HO2.out
 ·rw [if_neg c] at h
  exact absurd h (by simp)
end Go.Proofs.Ytkjhddjenkocjaa.GB
