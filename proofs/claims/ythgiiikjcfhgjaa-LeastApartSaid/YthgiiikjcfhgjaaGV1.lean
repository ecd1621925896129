-- Written by ext.py, a program of this session.
import Derived.Test.YthgiiikjcfhgjaaGV0
namespace Go.Proofs.Ythgiiikjcfhgjaa.GV
open Go.RowKit Go.Proofs.YthgiiikjcfhgjaaW.PrintWords Go.Proofs.YthgiiikjcfhgjaaW.PrintLast Go.Proofs.YthgiiikjcfhgjaaW.PrintMore
attribute [local go_sem] max2_int min2_int max_two min_two max_three min_three max_four min_four cellIs_set   -- for this text's walks alone
set_option linter.unusedVariables false
set_option linter.unusedSimpArgs false
-- NOT PRINTED: function 109 (slices_Grow_int_int)
/-! ### slices_Concat_int_int: function 59 -/
def slices_Concat_int_int.f (l0 : List (List Int)) : Option (List Int):=if l0.length < 1000000 ∧ l0.flatten.length < 1000000000 then some l0.flatten else none
theorem slices_Concat_int_int.info : (Try.prog.info? 3).map (fun i=>(i.zero,i.size,i.bytes)) = some (some (.int .i64 0),1,8):=by kernel_rfl
set_option maxHeartbeats 1000000 in
theorem slices_Concat_int_int.grow (n : Nat) (w : World) (hn : n * 8 ≤ 140737488355328) :
  Calls Try.prog 109 #[.slice none 0 0,.int .i64 n] w fun e w'=>∃ v : Value,e = .returned v ∧ Kd.R (Kd.int .i64) 3 w' w.heap.size (fun _=>True) v [] ∧ Below w.heap.size w w':=by
 have HB:=Aside0.mk (Below.refl w.heap.size w)
 have e0 : ((n : Int) < 0) = False:=eq_false (by omega)
 rcases Nat.eq_zero_or_pos n with rfl|hp
 ·go_enter Try.func109,Try.ntmps109
  go_wp2
  go_ret
  exact ⟨_,rfl,Kd.R_nil _ _ _ _ _,by repeat (first|exact HB.out|apply below_alloc|apply pw_below_drewN)⟩
 ·have e1 : ((n : Int) > 0) = True:=eq_true (by omega)
  have e2 : IntKind.i64.wrap ((n : Int) - IntKind.i64.wrap (0 - 0)) = (n : Int):=by rw [i64_w,i64_w];unfold wrap64;omega
  have e3 : ((n : Int) - 0) = (n : Int):=Int.sub_zero _
  have e4 : IntKind.i64.wrap (n : Int) = (n : Int):=by rw [i64_w];unfold wrap64;omega
  go_enter Try.func109,Try.ntmps109
  go_wp2_with ((with_reducible refine gate_builtin (b:=.append) (xs:=#[.tmp 20,.tmp 21]) rfl ?_);at_builtin;go_loud (refine Kd.R_append_zeros (Kd.int .i64) (w0:=w) w.heap.size rfl (.tmp 20) (.tmp 21) 23 3 3 (.int .i64 0) 8 rfl Try.underlying23 Try.underlying3 slices_Concat_int_int.info rfl (by decide) (by omega) _ [] (0) (n : Int) (fun _=>True) rfl rfl ?zz (fun _ _=>trivial) (Kd.R_nil _ _ _ _ _) (by omega) ?zB ?zS (by simp;omega) ?_);(case zz=>exact rfl);(case zB=>repeat (first|exact HB.out|apply below_alloc|apply pw_below_drewN));(case zS=>exact (below_size (by repeat (first|exact HB.out|apply below_alloc|apply pw_below_drewN))));intro v1 w1 h1 hb hg hat;obtain ⟨A1,d1,rfl,hd1,hr1⟩:=Kd.R_reads h1;have H1:=Aside0.mk h1;have HB1:=Aside0.mk hb;obtain ⟨ad1,rfl,_⟩:=hr1.2.2 (by simp;omega);clear h1 hb hg hat hr1)
  go_ret
  exact ⟨_,rfl,by have:=Kd.R_take (m:=0) H1.out (by simp);simpa using this,by repeat (first|exact HB1.out|apply below_alloc|apply pw_below_drewN)⟩
set_option maxHeartbeats 8000000 in
set_option maxRecDepth 100000 in
theorem slices_Concat_int_int.calls (A0 : Option Addr) (c0 : Nat) (l0 : List (List Int)) (r : List Int) (w : World) (hr0 : Kd.C (Kd.slice 3 (Kd.int .i64)) w A0 l0.length l0) (hc0 : l0.length ≤ c0) (h : slices_Concat_int_int.f l0 = some r) :
  Calls Try.prog 59 #[.slice A0 l0.length c0] w fun e w'=>∃ v0_ : Value,e = .returned (v0_) ∧ Kd.R (Kd.int .i64) 3 w' w.heap.size (fun _=>True) v0_ r ∧ Below w.heap.size w w':=by
 unfold slices_Concat_int_int.f at h
 by_cases c : l0.length < 1000000 ∧ l0.flatten.length < 1000000000
 ·rw [if_pos c] at h
  obtain rfl:=Option.some.inj h
  obtain ⟨cA,cB⟩:=c
  clear h
  have HB:=Aside0.mk (Below.refl w.heap.size w)
  have hcell : ∀ kk : Nat,kk < l0.length → ∃ ad A' c',A0 = some ad ∧ w.cell? (ad.add kk) = some (.slice A' (l0.getD kk []).length c') ∧ Kd.C (Kd.int .i64) w A' (l0.getD kk []).length (l0.getD kk []):=fun kk hkk=>by
   obtain ⟨ad,cs,e,_,⟨A',c',rfl,_,hC⟩,hcl⟩:=ReadsRow.get_ hr0 [] (kk : Int) (by omega) (by omega)
   have h2:=hcl 0 _ rfl
   rw [show (Kd.slice 3 (Kd.int .i64)).sz = 1 from rfl,Nat.mul_one,Nat.add_zero,Int.toNat_natCast] at h2
   exact ⟨ad,A',c',e,h2,hC⟩
  clear hr0 hc0
  obtain ⟨T,hT⟩ : ∃ T : Nat → List Int,∀ kk,T kk = (l0.take kk).flatten:=⟨_,fun _=>rfl⟩
  obtain ⟨E,hE⟩ : ∃ E : Nat → List Int,∀ kk,E kk = l0.getD kk []:=⟨_,fun _=>rfl⟩
  obtain ⟨S,hS⟩ : ∃ S : Nat → Nat,∀ kk,S kk = (T kk).length:=⟨_,fun _=>rfl⟩
  have hT0 : Aside0 (T 0 = []):=⟨by rw [hT];rfl⟩
  have hTl : Aside0 (T l0.length = l0.flatten):=⟨by rw [hT,List.take_length]⟩
  have hTs : Aside0 (∀ kk,kk < l0.length → T (kk + 1) = T kk ++ E kk):=⟨fun kk hkk=>by
   rw [hT,hT,hE,List.take_succ_eq_append_getElem hkk,List.flatten_append,List.flatten_singleton,List.getD_eq_getElem?_getD,List.getElem?_eq_getElem hkk,Option.getD_some]⟩
  have hSb : Aside0 (∀ kk,S kk < 1000000000):=⟨fun kk=>by
   have:=congrArg List.length (congrArg List.flatten (List.take_append_drop kk l0))
   rw [List.flatten_append,List.length_append] at this
   rw [hS,hT]
   omega⟩
  have hSl : Aside0 (∀ kk,S kk = (T kk).length):=⟨hS⟩
  simp only [← hE] at hcell
  have HC0:=Aside0.mk hcell
  generalize l0.flatten = F at *
  generalize l0.length = n at *
  clear hcell hT hE hS cB
  have hS0 : S 0 = 0:=by rw [hSl.out,hT0.out];rfl
  go_enter Try.func59,Try.ntmps59
  go_wp2
  go_loopg [3,5,11] n (fun gg s3 _ s11 wr=>∃ kk q : Nat,kk ≤ n ∧ n - kk ≤ gg ∧ s3 = .int .i64 (S kk : Nat) ∧ s11 = .int .i64 kk ∧ wr = w.drewN q)
  case atStart=>exact ⟨0,0,Nat.zero_le _,by omega,by rw [hS0];rfl,rfl,rfl⟩
  case round =>
   clear hS0
   obtain ⟨kk,q,hkk,hg,rfl,rfl,rfl⟩:=hrel
   by_cases hlt : kk < n
   ·have hltz : (kk : Int) < (n : Int):=by omega
    obtain ⟨ad,A',c',rfl,hc,_⟩:=HC0.out kk hlt
    have h3:=congrArg List.length (hTs.out kk hlt)
    rw [List.length_append,← hSl.out,← hSl.out] at h3
    have h4:=hSb.out (kk + 1)
    have h5 : ((S kk : Int) + ((E kk).length : Int)) = ((S (kk + 1) : Nat) : Int):=by omega
    have h6 : ¬ ((S (kk + 1) : Nat) : Int) < 0:=by omega
    have h7 : ((S (kk + 1) : Nat) : Int) ≤ 1000000000:=by omega
    obtain ⟨b,off,lab⟩:=ad
    clear h3 h4
    generalize hS1 : S (kk + 1) = S1 at *
    have HS1:=Aside0.mk hS1
    clear hS1
    generalize S kk = S0 at *
    generalize (E kk).length = S2 at *
    go_wp2
    go_roundg (n - (kk + 1))
    case measure=>omega
    case rel=>exact ⟨kk + 1,_,by omega,by omega,by rw [HS1.out],by go_num,rfl⟩
   ·have hltz : ¬ (kk : Int) < (n : Int):=by omega
    obtain rfl : kk = n:=by omega
    have h4:=hSb.out kk
    have hG:=fun q=>slices_Concat_int_int.grow (S kk) (w.drewN q) (by omega)
    go_wp2_with (go_at_call 109;refine (hG _).mono ?_;rintro e w5 ⟨v,rfl,hR,hb⟩;have HO:=Aside0.mk (Kd.R_lower hR (below_size (pw_below_drewN HB.out _)));have HB5:=Aside0.mk ((pw_below_drewN HB.out _).trans (hb.mono (below_size (pw_below_drewN HB.out _))));clear hR hb)
    clear hG h4
    go_loopg [6,8,27] kk (fun gg s6 _ s27 wr=>∃ k2 : Nat,k2 ≤ kk ∧ kk - k2 ≤ gg ∧ s27 = .int .i64 k2 ∧ Aside0 (Kd.R (Kd.int .i64) 3 wr w.heap.size (fun _=>True) s6 (T k2)) ∧ Aside0 (Below w.heap.size w wr))
    case atStart=>exact ⟨0,Nat.zero_le _,by omega,rfl,⟨by rw [hT0.out];exact HO.out⟩,⟨HB5.out⟩⟩
    case round =>
     clear HO HB5
     obtain ⟨k2,hkk,hg,rfl,HO,HBr⟩:=hrel
     by_cases hlt : k2 < kk
     ·have hltz : (k2 : Int) < (kk : Int):=by omega
      obtain ⟨ad,A',c',rfl,hc0,hC⟩:=HC0.out k2 hlt
      have hc:=pw_cell_below (HBr.out) hc0
      clear hc0
      have HC':=Aside0.mk hC
      have HS:=Aside0.mk (hTs.out k2 hlt)
      have HL:=Aside0.mk (by have h1:=hSb.out (k2 + 1);rw [hSl.out,hTs.out k2 hlt,List.length_append] at h1;exact h1 : (T k2).length + (E k2).length < 1000000000)
      obtain ⟨b,off,lab⟩:=ad
      clear hC
      generalize E k2 = Y2 at *
      go_wp2_with ((with_reducible refine gate_builtin (b:=.append) (xs:=#[.tmp 31,.tmp 32]) rfl ?_);at_builtin;refine Kd.R_append_rows (Kd.int .i64) (w0:=w) w.heap.size rfl (.tmp 31) (.tmp 32) 23 3 (.int .i64 0) 8 rfl Try.underlying23 slices_Concat_int_int.info rfl (by decide) (by omega) u6 (T k2) Y2 _ _ _ (fun _=>True) (fun _=>False) rfl rfl ?aO ?aR (fun _ _ h=>h) (fun _ h=>h.elim) ?aF ?aB ?aS ?aL ?_;(case aR=>repeat (first|exact (Kd.C_below HC'.out HBr.out)|(with_reducible refine Kd.C_alloc ?_ _)|(with_reducible refine Kd.C_drewN ?_ _)|(with_reducible refine Kd.C_drew ?_)));(case aB=>exact (by repeat (first|(with_reducible first|exact HBr.out|apply below_alloc|apply pw_below_drewN|apply below_drew1)|exact HBr.out)));(case aF=>exact (fun _ _=>trivial));(case aO=>exact (by (with_reducible repeat (first|apply Kd.R_alloc|apply Kd.R_drewN|apply Kd.R_drew));exact HO.out));(case aS=>exact (below_size (by repeat (first|(with_reducible first|exact HBr.out|apply below_alloc|apply pw_below_drewN|apply below_drew1)|exact HBr.out))));(case aL=>have:=HL.out;omega);intro v2 w7 ho hb hg7 hat;have HO7:=Aside0.mk ho;have HB7:=Aside0.mk hb;clear ho hb hg7 hat)
      go_roundg (kk - (k2 + 1))
      case measure=>omega
      case rel=>exact ⟨k2 + 1,by omega,by omega,by go_num,⟨by rw [HS.out];exact HO7.out⟩,⟨HB7.out⟩⟩
     ·have hltz : ¬ (k2 : Int) < (kk : Int):=by omega
      obtain rfl : k2 = kk:=by omega
      have HF:=Aside0.mk (by have:=HO.out;rw [hTl.out] at this;exact this : Kd.R (Kd.int .i64) 3 wr w.heap.size (fun _=>True) u6 F)
      go_wp2
      go_ret
      exact ⟨_,rfl,HF.out,HBr.out⟩
 ·rw [if_neg c] at h
  exact absurd h (by simp)
-- NOT PRINTED: function 140 (slices_IndexFunc_int_int_140)
-- NOT PRINTED: function 120 (slices_ContainsFunc_int_int_120)
end Go.Proofs.Ythgiiikjcfhgjaa.GV
