-- Written by ext.py, a program of this session.
import Derived.Test.YtiiankjmeodjdaaGV0
namespace Go.Proofs.Ytiiankjmeodjdaa.GV
open Go.RowKit Go.Proofs.YtiiankjmeodjdaaW.PrintWords Go.Proofs.YtiiankjmeodjdaaW.PrintLast Go.Proofs.YtiiankjmeodjdaaW.PrintMore
attribute [local go_sem] max2_int min2_int max_two min_two max_three min_three max_four min_four cellIs_set   -- for this text's walks alone
set_option linter.unusedVariables false
set_option linter.unusedSimpArgs false
-- NOT PRINTED: function 72 (slices_IndexFunc_int_int_72)
-- NOT PRINTED: function 61 (slices_ContainsFunc_int_int_61)
/-! ### machine_Words: function 41 -/
def machine_Words.f (a0 : Int) (l1 : List Int) : Option Int:=some (if l1.length > 12 then 1 else if l1.any (fun s=>decide (s < 0) || decide (s ≥ a0)) = true then 2 else 0)
set_option maxHeartbeats 2000000 in
theorem machine_Words.idx (g : Nat) (lb : Array Value) (eg : ∀ args w,(callFunc g args).run Try.prog w = .ok (.enter g args) w) (A : Option Addr) (n c : Nat) (raw : Nat → Value) (p : Nat → Bool) (w : World) (hbig : n ≤ 9223372036854775807) (hc : ∀ j,j < n → ∃ ad,A = some ad ∧ w.cell? (ad.add j) = some (raw j))
  (hp : ∀ W j,j < n → Below w.heap.size w W → Calls Try.prog g (#[raw j] ++ lb) W fun e w'=>e = .returned (.bool (p j)) ∧ ∃ q,w' = W.drewN q) :
  Calls Try.prog 72 #[.slice A n c,.func (.func g) #[] lb] w fun e w'=>(∃ r : Int,e = .returned (.int .i64 r) ∧ (0 ≤ r ↔ ∃ j,j < n ∧ p j = true)) ∧ ∃ q,w' = w.drewN q:=by
 go_enter Try.func72,Try.ntmps72
 go_wp2
 go_loopg [5,8] n (fun gg _ s8 wr=>∃ kk q : Nat,kk ≤ n ∧ n - kk ≤ gg ∧ s8 = .int .i64 kk ∧ wr = w.drewN q ∧ Aside0 (∀ j,j < kk → p j = false))
 case atStart=>exact ⟨0,0,Nat.zero_le _,by omega,rfl,rfl,⟨fun j hj=>absurd hj (Nat.not_lt_zero _)⟩⟩
 case round =>
  obtain ⟨kk,q,hkk,hg,rfl,rfl,A0⟩:=hrel
  by_cases hlt : kk < n
  ·have hltz : (kk : Int) < (n : Int):=by omega
   obtain ⟨ad,rfl,hcell⟩:=hc kk hlt
   have hcall:=fun q=>hp (w.drewN q) kk hlt (pw_below_drewN (Below.refl _ w) q)
   clear hc hp
   obtain ⟨b,off,lab⟩:=ad
   generalize raw kk = y at hcell hcall
   cases hq : p kk with
   | true =>
    rw [hq] at hcall
    go_wp2_with (go_at_fn g;refine (hcall _).mono ?_;rintro e w' ⟨rfl,q',rfl⟩)
    go_ret
    exact ⟨⟨(kk : Int),rfl,⟨fun _=>⟨kk,hlt,hq⟩,fun _=>by omega⟩⟩,_,rfl⟩
   | false =>
    rw [hq] at hcall
    go_wp2_with (go_at_fn g;refine (hcall _).mono ?_;rintro e w' ⟨rfl,q',rfl⟩)
    go_roundg (n - (kk + 1))
    case measure=>omega
    case rel =>
     refine ⟨kk + 1,_,by omega,by omega,by go_num,rfl,⟨fun j hj=>?_⟩⟩
     by_cases e : j = kk
     ·subst e;exact hq
     ·exact A0.out j (by omega)
  ·have hltz : ¬ (kk : Int) < (n : Int):=by omega
   have : kk = n:=by omega
   subst this
   go_wp2
   go_ret
   refine ⟨⟨-1,rfl,⟨fun h=>absurd h (by decide),fun ⟨j,hj,hj2⟩=>?_⟩⟩,q,rfl⟩
   rw [A0.out j hj] at hj2
   exact absurd hj2 (by decide)
set_option maxHeartbeats 2000000 in
theorem machine_Words.any (g : Nat) (lb : Array Value) (eg : ∀ args w,(callFunc g args).run Try.prog w = .ok (.enter g args) w) (A : Option Addr) (n c : Nat) (raw : Nat → Value) (p : Nat → Bool) (w : World) (hbig : n ≤ 9223372036854775807) (hc : ∀ j,j < n → ∃ ad,A = some ad ∧ w.cell? (ad.add j) = some (raw j))
  (hp : ∀ W j,j < n → Below w.heap.size w W → Calls Try.prog g (#[raw j] ++ lb) W fun e w'=>e = .returned (.bool (p j)) ∧ ∃ q,w' = W.drewN q) (b : Bool) (hb : b = true ↔ ∃ j,j < n ∧ p j = true) :
  Calls Try.prog 61 #[.slice A n c,.func (.func g) #[] lb] w fun e w'=>e = .returned (.bool b) ∧ ∃ q,w' = w.drewN q:=by
 have hI0:=machine_Words.idx g lb eg A n c raw p w hbig hc hp
 have hI:=fun q=>machine_Words.idx g lb eg A n c raw p (w.drewN q) hbig (fun j hj=>hc j hj) (fun W j hj hB=>hp W j hj ((pw_below_drewN (Below.refl _ w) q).trans hB))
 clear hc hp
 go_enter Try.func61,Try.ntmps61
 go_wp2_with (go_at_call 72;(first|refine hI0.mono ?_|refine (hI _).mono ?_);rintro e w' ⟨⟨r,rfl,hr⟩,q',rfl⟩)
 go_ret
 refine ⟨?_,_,rfl⟩
 have : decide (0 ≤ r) = b:=by
  rw [Bool.eq_iff_iff,decide_eq_true_iff,hr,hb]
 first|rw [this]|(subst this;rfl)|(simp [← this,hr];done)
theorem machine_Words.lit (k s : Int) (B : Nat) (w : World) (hc : w.cell? ⟨B,0,none⟩ = some (.int .i64 k)) :
  Calls Try.prog 62 #[.int .i64 s,.pointer (some ⟨B,0,none⟩)] w fun e w'=>e = .returned (.bool (decide (s < 0) || decide (s ≥ k))) ∧ ∃ q,w' = w.drewN q:=by
 by_cases h1 : s < 0
 ·have h1b : decide (s < 0) = true:=decide_eq_true h1
  go_enter Try.func62,Try.ntmps62
  go_wp2
  all_goals go_ret
  all_goals first|exact ⟨by simp [h1],_,rfl⟩|exact ⟨by simp [h1],0,rfl⟩
 ·have h1b : decide (s < 0) = false:=decide_eq_false h1
  by_cases h2 : s ≥ k
  ·have h2b : decide (s ≥ k) = true:=decide_eq_true h2
   go_enter Try.func62,Try.ntmps62
   go_wp2
   all_goals go_ret
   all_goals first|exact ⟨by simp [h1,h2],_,rfl⟩|exact ⟨by simp [h1,h2],0,rfl⟩
  ·have h2b : decide (s ≥ k) = false:=decide_eq_false h2
   go_enter Try.func62,Try.ntmps62
   go_wp2
   all_goals go_ret
   all_goals first|exact ⟨by simp [h1,h2],_,rfl⟩|exact ⟨by simp [h1,h2],0,rfl⟩
set_option maxHeartbeats 8000000 in
set_option maxRecDepth 100000 in
theorem machine_Words.calls (a0 : Int) (A1 : Option Addr) (c1 : Nat) (l1 : List Int) (r : Int) (w : World) (hr1 : Kd.C (Kd.int .i64) w A1 l1.length l1) (hc1 : l1.length ≤ c1) (h : machine_Words.f a0 l1 = some r) :
  Calls Try.prog 41 #[.int .i64 a0,.slice A1 l1.length c1] w fun e w'=>e = .returned (.int .i64 r) ∧ Below w.heap.size w w':=by
 unfold machine_Words.f at h
 obtain rfl:=Option.some.inj h
 clear h
 have hr:=Kd.reads_of_C (enc:=Value.int .i64) (d:=(0 : Int)) (h1:=fun _=>rfl) hr1
 by_cases c12 : l1.length > 12
 ·rw [if_pos c12]
  have c12b : ((l1.length : Int) > 12) = True:=eq_true (by omega)
  clear hr hr1 hc1
  go_enter Try.func41,Try.ntmps41
  go_wp2
  go_ret
  exact ⟨rfl,by repeat (first|exact Below.refl _ _|apply below_alloc|apply pw_below_drewN)⟩
 ·rw [if_neg c12]
  have c12b : ((l1.length : Int) > 12) = False:=eq_false (by omega)
  generalize hbv : (l1.any fun s=>decide (s < 0) || decide (s ≥ a0)) = b
  have hA:=machine_Words.any 62 #[.pointer (some ⟨w.heap.size,0,none⟩)] (enters_of Try.func62 (by kernel_rfl) rfl) A1 l1.length c1 (fun j=>.int .i64 (l1.getD j 0)) (fun j=>decide (l1.getD j 0 < 0) || decide (l1.getD j 0 ≥ a0)) (w.alloc (.cells #[.int .i64 a0] 3)) hr.2.1
   (fun j hj=>by
    obtain ⟨ad,e,hcl⟩:=hr.2.2 (by omega)
    exact ⟨ad,e,Lib.cell?_alloc_some _ (hcl j hj)⟩)
   (fun W j hj hB=>machine_Words.lit a0 _ w.heap.size W ((hB.cell (p:=⟨w.heap.size,0,none⟩) (by simp)).trans (by simp))) b
   (by
    rw [← hbv,List.any_eq_true]
    constructor
    ·rintro ⟨x,hx,hx2⟩
     obtain ⟨j,hj,rfl⟩:=List.getElem_of_mem hx
     refine ⟨j,hj,?_⟩
     rwa [List.getD_eq_getElem?_getD,List.getElem?_eq_getElem hj]
    ·rintro ⟨j,hj,hj2⟩
     rw [List.getD_eq_getElem?_getD,List.getElem?_eq_getElem hj] at hj2
     exact ⟨_,List.getElem_mem hj,hj2⟩)
  clear hr hr1 hc1 hbv
  cases b with
  | true =>
   go_enter Try.func41,Try.ntmps41
   go_wp2_with (go_at_call 61;go_loud (refine hA.mono ?_);rintro e w' ⟨rfl,q,rfl⟩)
   go_ret
   exact ⟨rfl,by repeat (first|exact Below.refl _ _|apply below_alloc|apply pw_below_drewN)⟩
  | false =>
   go_enter Try.func41,Try.ntmps41
   go_wp2_with (go_at_call 61;go_loud (refine hA.mono ?_);rintro e w' ⟨rfl,q,rfl⟩)
   go_ret
   exact ⟨rfl,by repeat (first|exact Below.refl _ _|apply below_alloc|apply pw_below_drewN)⟩
-- NOT PRINTED: function 73 (slices_IndexFunc_int_int_73)
-- NOT PRINTED: function 63 (slices_ContainsFunc_int_int_63)
-- NOT PRINTED: function 74 (slices_Grow_int_int_74)
/-! ### slices_Concat_int_int_65: function 65 -/
def slices_Concat_int_int_65.f (l0 : List (List Int)) : Option (List Int):=if l0.length < 1000000 ∧ l0.flatten.length < 1000000000 then some l0.flatten else none
theorem slices_Concat_int_int_65.info : (Try.prog.info? 3).map (fun i=>(i.zero,i.size,i.bytes)) = some (some (.int .i64 0),1,8):=by kernel_rfl
set_option maxHeartbeats 1000000 in
theorem slices_Concat_int_int_65.grow (n : Nat) (w : World) (hn : n * 8 ≤ 140737488355328) :
  Calls Try.prog 74 #[.slice none 0 0,.int .i64 n] w fun e w'=>∃ v : Value,e = .returned v ∧ Kd.R (Kd.int .i64) 3 w' w.heap.size (fun _=>True) v [] ∧ Below w.heap.size w w':=by
 have HB:=Aside0.mk (Below.refl w.heap.size w)
 have e0 : ((n : Int) < 0) = False:=eq_false (by omega)
 rcases Nat.eq_zero_or_pos n with rfl|hp
 ·go_enter Try.func74,Try.ntmps74
  go_wp2
  go_ret
  exact ⟨_,rfl,Kd.R_nil _ _ _ _ _,by repeat (first|exact HB.out|apply below_alloc|apply pw_below_drewN)⟩
 ·have e1 : ((n : Int) > 0) = True:=eq_true (by omega)
  have e2 : IntKind.i64.wrap ((n : Int) - IntKind.i64.wrap (0 - 0)) = (n : Int):=by rw [i64_w,i64_w];unfold wrap64;omega
  have e3 : ((n : Int) - 0) = (n : Int):=Int.sub_zero _
  have e4 : IntKind.i64.wrap (n : Int) = (n : Int):=by rw [i64_w];unfold wrap64;omega
  go_enter Try.func74,Try.ntmps74
  go_wp2_with ((with_reducible refine gate_builtin (b:=.append) (xs:=#[.tmp 20,.tmp 21]) rfl ?_);at_builtin;go_loud (refine Kd.R_append_zeros (Kd.int .i64) (w0:=w) w.heap.size rfl (.tmp 20) (.tmp 21) 28 3 3 (.int .i64 0) 8 rfl Try.underlying28 Try.underlying3 slices_Concat_int_int_65.info rfl (by decide) (by omega) _ [] (0) (n : Int) (fun _=>True) rfl rfl ?zz (fun _ _=>trivial) (Kd.R_nil _ _ _ _ _) (by omega) ?zB ?zS (by simp;omega) ?_);(case zz=>exact rfl);(case zB=>repeat (first|exact HB.out|apply below_alloc|apply pw_below_drewN));(case zS=>exact (below_size (by repeat (first|exact HB.out|apply below_alloc|apply pw_below_drewN))));intro v1 w1 h1 hb hg hat;obtain ⟨A1,d1,rfl,hd1,hr1⟩:=Kd.R_reads h1;have H1:=Aside0.mk h1;have HB1:=Aside0.mk hb;obtain ⟨ad1,rfl,_⟩:=hr1.2.2 (by simp;omega);clear h1 hb hg hat hr1)
  go_ret
  exact ⟨_,rfl,by have:=Kd.R_take (m:=0) H1.out (by simp);simpa using this,by repeat (first|exact HB1.out|apply below_alloc|apply pw_below_drewN)⟩
set_option maxHeartbeats 8000000 in
set_option maxRecDepth 100000 in
theorem slices_Concat_int_int_65.calls (A0 : Option Addr) (c0 : Nat) (l0 : List (List Int)) (r : List Int) (w : World) (hr0 : Kd.C (Kd.slice 3 (Kd.int .i64)) w A0 l0.length l0) (hc0 : l0.length ≤ c0) (h : slices_Concat_int_int_65.f l0 = some r) :
  Calls Try.prog 65 #[.slice A0 l0.length c0] w fun e w'=>∃ v0_ : Value,e = .returned (v0_) ∧ Kd.R (Kd.int .i64) 3 w' w.heap.size (fun _=>True) v0_ r ∧ Below w.heap.size w w':=by
 unfold slices_Concat_int_int_65.f at h
 by_cases c : l0.length < 1000000 ∧ l0.flatten.length < 1000000000
 ·rw [if_pos c] at h
  obtain rfl:=Option.some.inj h
  obtain ⟨cA,cB⟩:=c
  clear h
  have HB:=Aside0.mk (Below.refl w.heap.size w)
  have hcell : ∀ kk : Nat,kk < l0.length → ∃ ad A' c',A0 = some ad ∧ w.cell? (ad.add kk) = some (.slice A' (l0.getD kk []).length c') ∧ Kd.C (Kd.int .i64) w A' (l0.getD kk []).length (l0.getD kk []):=fun kk hkk=>by
   obtain ⟨ad,cs,e,_,⟨A',c',rfl,_,hC⟩,hcl⟩:=ReadsRow.get_ hr0 [] (kk : Int) (by omega) (by omega)
   have h2:=hcl 0 _ rfl
   rw [show (Kd.slice 3 (Kd.int .i64)).sz = 1 from rfl,Nat.mul_one,Nat.add_zero,Int.toNat_natCast] at h2
   exact ⟨ad,A',c',e,h2,hC⟩
  clear hr0 hc0
  obtain ⟨T,hT⟩ : ∃ T : Nat → List Int,∀ kk,T kk = (l0.take kk).flatten:=⟨_,fun _=>rfl⟩
  obtain ⟨E,hE⟩ : ∃ E : Nat → List Int,∀ kk,E kk = l0.getD kk []:=⟨_,fun _=>rfl⟩
  obtain ⟨S,hS⟩ : ∃ S : Nat → Nat,∀ kk,S kk = (T kk).length:=⟨_,fun _=>rfl⟩
  have hT0 : Aside0 (T 0 = []):=⟨by rw [hT];rfl⟩
  have hTl : Aside0 (T l0.length = l0.flatten):=⟨by rw [hT,List.take_length]⟩
  have hTs : Aside0 (∀ kk,kk < l0.length → T (kk + 1) = T kk ++ E kk):=⟨fun kk hkk=>by
   rw [hT,hT,hE,List.take_succ_eq_append_getElem hkk,List.flatten_append,List.flatten_singleton,List.getD_eq_getElem?_getD,List.getElem?_eq_getElem hkk,Option.getD_some]⟩
  have hSb : Aside0 (∀ kk,S kk < 1000000000):=⟨fun kk=>by
   have:=congrArg List.length (congrArg List.flatten (List.take_append_drop kk l0))
   rw [List.flatten_append,List.length_append] at this
   rw [hS,hT]
   omega⟩
  have hSl : Aside0 (∀ kk,S kk = (T kk).length):=⟨hS⟩
  simp only [← hE] at hcell
  have HC0:=Aside0.mk hcell
  generalize l0.flatten = F at *
  generalize l0.length = n at *
  clear hcell hT hE hS cB
  have hS0 : S 0 = 0:=by rw [hSl.out,hT0.out];rfl
  go_enter Try.func65,Try.ntmps65
  go_wp2
  go_loopg [3,5,11] n (fun gg s3 _ s11 wr=>∃ kk q : Nat,kk ≤ n ∧ n - kk ≤ gg ∧ s3 = .int .i64 (S kk : Nat) ∧ s11 = .int .i64 kk ∧ wr = w.drewN q)
  case atStart=>exact ⟨0,0,Nat.zero_le _,by omega,by rw [hS0];rfl,rfl,rfl⟩
  case round =>
   clear hS0
   obtain ⟨kk,q,hkk,hg,rfl,rfl,rfl⟩:=hrel
   by_cases hlt : kk < n
   ·have hltz : (kk : Int) < (n : Int):=by omega
    obtain ⟨ad,A',c',rfl,hc,_⟩:=HC0.out kk hlt
    have h3:=congrArg List.length (hTs.out kk hlt)
    rw [List.length_append,← hSl.out,← hSl.out] at h3
    have h4:=hSb.out (kk + 1)
    have h5 : ((S kk : Int) + ((E kk).length : Int)) = ((S (kk + 1) : Nat) : Int):=by omega
    have h6 : ¬ ((S (kk + 1) : Nat) : Int) < 0:=by omega
    have h7 : ((S (kk + 1) : Nat) : Int) ≤ 1000000000:=by omega
    obtain ⟨b,off,lab⟩:=ad
    clear h3 h4
    generalize hS1 : S (kk + 1) = S1 at *
    have HS1:=Aside0.mk hS1
    clear hS1
    generalize S kk = S0 at *
    generalize (E kk).length = S2 at *
    go_wp2
    go_roundg (n - (kk + 1))
    case measure=>omega
    case rel=>exact ⟨kk + 1,_,by omega,by omega,by rw [HS1.out],by go_num,rfl⟩
   ·have hltz : ¬ (kk : Int) < (n : Int):=by omega
    obtain rfl : kk = n:=by omega
    have h4:=hSb.out kk
    have hG:=fun q=>slices_Concat_int_int_65.grow (S kk) (w.drewN q) (by omega)
    go_wp2_with (go_at_call 74;refine (hG _).mono ?_;rintro e w5 ⟨v,rfl,hR,hb⟩;have HO:=Aside0.mk (Kd.R_lower hR (below_size (pw_below_drewN HB.out _)));have HB5:=Aside0.mk ((pw_below_drewN HB.out _).trans (hb.mono (below_size (pw_below_drewN HB.out _))));clear hR hb)
    clear hG h4
    go_loopg [6,8,27] kk (fun gg s6 _ s27 wr=>∃ k2 : Nat,k2 ≤ kk ∧ kk - k2 ≤ gg ∧ s27 = .int .i64 k2 ∧ Aside0 (Kd.R (Kd.int .i64) 3 wr w.heap.size (fun _=>True) s6 (T k2)) ∧ Aside0 (Below w.heap.size w wr))
    case atStart=>exact ⟨0,Nat.zero_le _,by omega,rfl,⟨by rw [hT0.out];exact HO.out⟩,⟨HB5.out⟩⟩
    case round =>
     clear HO HB5
     obtain ⟨k2,hkk,hg,rfl,HO,HBr⟩:=hrel
     by_cases hlt : k2 < kk
     ·have hltz : (k2 : Int) < (kk : Int):=by omega
      obtain ⟨ad,A',c',rfl,hc0,hC⟩:=HC0.out k2 hlt
      have hc:=pw_cell_below (HBr.out) hc0
      clear hc0
      have HC':=Aside0.mk hC
      have HS:=Aside0.mk (hTs.out k2 hlt)
      have HL:=Aside0.mk (by have h1:=hSb.out (k2 + 1);rw [hSl.out,hTs.out k2 hlt,List.length_append] at h1;exact h1 : (T k2).length + (E k2).length < 1000000000)
      obtain ⟨b,off,lab⟩:=ad
      clear hC
      generalize E k2 = Y2 at *
      go_wp2_with ((with_reducible refine gate_builtin (b:=.append) (xs:=#[.tmp 31,.tmp 32]) rfl ?_);at_builtin;refine Kd.R_append_rows (Kd.int .i64) (w0:=w) w.heap.size rfl (.tmp 31) (.tmp 32) 28 3 (.int .i64 0) 8 rfl Try.underlying28 slices_Concat_int_int_65.info rfl (by decide) (by omega) u6 (T k2) Y2 _ _ _ (fun _=>True) (fun _=>False) rfl rfl ?aO ?aR (fun _ _ h=>h) (fun _ h=>h.elim) ?aF ?aB ?aS ?aL ?_;(case aR=>repeat (first|exact (Kd.C_below HC'.out HBr.out)|(with_reducible refine Kd.C_alloc ?_ _)|(with_reducible refine Kd.C_drewN ?_ _)|(with_reducible refine Kd.C_drew ?_)));(case aB=>exact (by repeat (first|(with_reducible first|exact HBr.out|apply below_alloc|apply pw_below_drewN|apply below_drew1)|exact HBr.out)));(case aF=>exact (fun _ _=>trivial));(case aO=>exact (by (with_reducible repeat (first|apply Kd.R_alloc|apply Kd.R_drewN|apply Kd.R_drew));exact HO.out));(case aS=>exact (below_size (by repeat (first|(with_reducible first|exact HBr.out|apply below_alloc|apply pw_below_drewN|apply below_drew1)|exact HBr.out))));(case aL=>have:=HL.out;omega);intro v2 w7 ho hb hg7 hat;have HO7:=Aside0.mk ho;have HB7:=Aside0.mk hb;clear ho hb hg7 hat)
      go_roundg (kk - (k2 + 1))
      case measure=>omega
      case rel=>exact ⟨k2 + 1,by omega,by omega,by go_num,⟨by rw [HS.out];exact HO7.out⟩,⟨HB7.out⟩⟩
     ·have hltz : ¬ (k2 : Int) < (kk : Int):=by omega
      obtain rfl : k2 = kk:=by omega
      have HF:=Aside0.mk (by have:=HO.out;rw [hTl.out] at this;exact this : Kd.R (Kd.int .i64) 3 wr w.heap.size (fun _=>True) u6 F)
      go_wp2
      go_ret
      exact ⟨_,rfl,HF.out,HBr.out⟩
 ·rw [if_neg c] at h
  exact absurd h (by simp)
end Go.Proofs.Ytiiankjmeodjdaa.GV
