-- Written by ext.py, a program of this session.
import Derived.Test.YtllnipefceonmaaGA0
namespace Go.Proofs.Ytllnipefceonmaa.GA
open Go.RowKit Go.Proofs.YtllnipefceonmaaW.PrintWords Go.Proofs.YtllnipefceonmaaW.PrintLast Go.Proofs.YtllnipefceonmaaW.PrintMore
attribute [local go_sem] max2_int min2_int max_two min_two max_three min_three max_four min_four cellIs_set   -- for this text's walks alone
set_option linter.unusedVariables false
set_option linter.unusedSimpArgs false
/-! ### api_Arc: function 13 -/
def api_Arc.f (l0 : List S45) : Option (List S45):=if l0.length < 5864062014805 then some l0 else none
theorem api_Arc.info : (Try.prog.info? 45).map (fun i=>(i.zero,i.size,i.bytes)) = some (some (.agg #[.int .i64 0,.int .i64 0,.int .i64 0]),3,24):=by kernel_rfl
set_option maxHeartbeats 8000000 in
set_option maxRecDepth 100000 in
theorem api_Arc.calls (A0 : Option Addr) (c0 : Nat) (l0 : List (S45)) (r : List (S45)) (w : World) (hr0 : Kd.C k45 w A0 l0.length l0) (hc0 : l0.length ≤ c0) (h : api_Arc.f l0 = some r) :
  Calls Try.prog 13 #[.slice A0 l0.length c0] w fun e w'=>∃ v0_ : Value,e = .returned (v0_) ∧ Kd.R k45 45 w' w.heap.size (fun _=>True) v0_ r ∧ Below w.heap.size w w':=by
 have HB:=Aside0.mk (Below.refl w.heap.size w)
 unfold api_Arc.f at h
 by_cases c : l0.length < 5864062014805
 ·rw [if_pos c] at h
  obtain rfl:=Option.some.inj h
  clear h
  have LM:=Aside0.mk c
  clear c
  have qn : ∀ (w : World) (a : Option Addr) (n c n' c' : Nat),(binOp .eql 30 (.slice a n c) (.slice none n' c')).run Try.prog w = .ok (.bool a.isNone) w:=fun w a n c n' c'=>Lib.run_eql_slice_nil w _ _ a n c n' c' Try.underlying30
  cases A0 with
  | none =>
   obtain rfl : l0 = []:=by
    rcases Nat.eq_zero_or_pos l0.length with h0|h0
    ·exact List.eq_nil_of_length_eq_zero h0
    ·obtain ⟨ad,e,_⟩:=hr0.2.2 h0
     cases e
   clear hr0 hc0 LM
   go_enter Try.func13,Try.ntmps13
   go_wp2
   go_ret
   exact ⟨_,rfl,Kd.R_nil _ _ _ _ _,HB.out⟩
  | some ad =>
   have HR0:=Aside0.mk hr0
   clear hr0 hc0
   obtain ⟨y1,hy1⟩ : ∃ y_ : List S45,y_ = ([] : List S45):=⟨_,rfl⟩
   have Ny1:=Aside0.mk hy1
   clear hy1
   obtain ⟨y2,hy2⟩ : ∃ y_ : List S45,y_ = y1 ++ l0:=⟨_,rfl⟩
   have Ny2:=Aside0.mk hy2
   clear hy2
   go_enter Try.func13,Try.ntmps13
   go_wp2_with (first|((with_reducible refine gate_dst (N:=5) rfl ?_);refine Kd.R_lit k45 _ 45 ?hg (N:=5) ?hd (xs:=([] : List S45)) (inner:=[]) (ok:=fun _=>True) (okp:=fun _=>True) ?hr ?hp (fun _ hk=>hk) trivial (Below.refl _ _) (Nat.le_refl _) (by simp) ?_;(case hd=>rfl);(case hg=>rfl);(case hr=>first|(go_simp;done)|(go_simp;rfl));(case hp=>exact (Reps.none _ _));intro v1 w5 ho1 hb hg_ hnew_;clear hg_ hnew_;(first|rw [← Ny1.out] at ho1|(simp only [Int.reduceToNat] at ho1;rw [← Ny1.out] at ho1));have n0_:=Aside0.mk (Kd.R_lower ho1 (below_size (by repeat (first|(with_reducible first|exact HB.out|apply below_alloc|apply pw_below_drewN|apply below_drew1)|exact HB.out))));have n1_:=Aside0.mk (below_step (by repeat (first|(with_reducible first|exact HB.out|apply below_alloc|apply pw_below_drewN|apply below_drew1)|exact HB.out)) hb);clear HB;have HO1:=n0_;have HB:=n1_;clear n0_ n1_;clear hb ho1)|((with_reducible refine gate_builtin (b:=.append) (xs:=#[.tmp 5,.tmp 6]) rfl ?_);at_builtin;refine Kd.R_append_rows k45 (w0:=w) w.heap.size rfl (.tmp 5) (.tmp 6) 30 45 (.agg #[.int .i64 0,.int .i64 0,.int .i64 0]) 24 rfl Try.underlying30 api_Arc.info rfl (by decide) (by omega) v1 y1 l0 _ _ _ (fun _=>True) (fun _=>False) rfl rfl ?aO ?aR (fun _ _ h=>h) (fun _ h=>h.elim) ?aF ?aB ?aS ?aL ?_;(case aR=>repeat (first|exact (Kd.C_below HR0.out HB.out)|(with_reducible refine Kd.C_alloc ?_ _)|(with_reducible refine Kd.C_drewN ?_ _)|(with_reducible refine Kd.C_drew ?_)));(case aB=>exact (by repeat (first|(with_reducible first|exact HB.out|apply below_alloc|apply pw_below_drewN|apply below_drew1)|exact HB.out)));(case aF=>exact (fun _ _=>trivial));(case aO=>exact (by (with_reducible repeat (first|apply Kd.R_alloc|apply Kd.R_drewN|apply Kd.R_drew));exact HO1.out));(case aS=>exact (below_size (by repeat (first|(with_reducible first|exact HB.out|apply below_alloc|apply pw_below_drewN|apply below_drew1)|exact HB.out))));(case aL=>have:=LM.out;have:=Ny1.out;subst this;simp only [List.length_nil];omega);intro v2 w7 ho hb hg hat;rw [← Ny2.out] at ho;have n0_:=Aside0.mk (hb);have n1_:=Aside0.mk (ho);clear HB;clear HO1;have HB:=n0_;have HO2:=n1_;clear n0_ n1_;clear ho hb hg hat))
   go_ret
   have e2 : y2 = l0:=by rw [Ny2.out,Ny1.out];rfl
   refine ⟨_,rfl,?_,HB.out⟩
   rw [← e2]
   exact HO2.out
 ·rw [if_neg c] at h
  exact absurd h (by simp)
end Go.Proofs.Ytllnipefceonmaa.GA
