-- Written by ext.py, a program of this session.
import Derived.Test.YtkalcljgcigdgaaGS0
namespace Go.Proofs.Ytkalcljgcigdgaa.GS
open Go.RowKit Go.Proofs.YtkalcljgcigdgaaW.PrintWords Go.Proofs.YtkalcljgcigdgaaW.PrintLast Go.Proofs.YtkalcljgcigdgaaW.PrintMore
attribute [local go_sem] max2_int min2_int max_two min_two max_three min_three max_four min_four cellIs_set   -- for this text's walks alone
set_option linter.unusedVariables false
set_option linter.unusedSimpArgs false
-- NOT PRINTED: function 94 (slices_IndexFunc_int_int)
-- NOT PRINTED: function 72 (slices_ContainsFunc_int_int)
/-! ### machine_Words: function 39 -/
def machine_Words.f (a0 : Int) (l1 : List Int) : Option Int:=some (if l1.length > 12 then 1 else if l1.any (fun s=>decide (s < 0) || decide (s ≥ a0)) = true then 2 else 0)
set_option maxHeartbeats 2000000 in
theorem machine_Words.idx (g : Nat) (lb : Array Value) (eg : ∀ args w,(callFunc g args).run Try.prog w = .ok (.enter g args) w) (A : Option Addr) (n c : Nat) (raw : Nat → Value) (p : Nat → Bool) (w : World) (hbig : n ≤ 9223372036854775807) (hc : ∀ j,j < n → ∃ ad,A = some ad ∧ w.cell? (ad.add j) = some (raw j))
  (hp : ∀ W j,j < n → Below w.heap.size w W → Calls Try.prog g (#[raw j] ++ lb) W fun e w'=>e = .returned (.bool (p j)) ∧ ∃ q,w' = W.drewN q) :
  Calls Try.prog 94 #[.slice A n c,.func (.func g) #[] lb] w fun e w'=>(∃ r : Int,e = .returned (.int .i64 r) ∧ (0 ≤ r ↔ ∃ j,j < n ∧ p j = true)) ∧ ∃ q,w' = w.drewN q:=by
 go_enter Try.func94,Try.ntmps94
 go_wp2
 go_loopg [5,8] n (fun gg _ s8 wr=>∃ kk q : Nat,kk ≤ n ∧ n - kk ≤ gg ∧ s8 = .int .i64 kk ∧ wr = w.drewN q ∧ Aside0 (∀ j,j < kk → p j = false))
 case atStart=>exact ⟨0,0,Nat.zero_le _,by omega,rfl,rfl,⟨fun j hj=>absurd hj (Nat.not_lt_zero _)⟩⟩
 case round =>
  obtain ⟨kk,q,hkk,hg,rfl,rfl,A0⟩:=hrel
  by_cases hlt : kk < n
  ·have hltz : (kk : Int) < (n : Int):=by omega
   obtain ⟨ad,rfl,hcell⟩:=hc kk hlt
   have hcall:=fun q=>hp (w.drewN q) kk hlt (pw_below_drewN (Below.refl _ w) q)
   clear hc hp
   obtain ⟨b,off,lab⟩:=ad
   generalize raw kk = y at hcell hcall
   cases hq : p kk with
   | true =>
    rw [hq] at hcall
    go_wp2_with (go_at_fn g;refine (hcall _).mono ?_;rintro e w' ⟨rfl,q',rfl⟩)
    go_ret
    exact ⟨⟨(kk : Int),rfl,⟨fun _=>⟨kk,hlt,hq⟩,fun _=>by omega⟩⟩,_,rfl⟩
   | false =>
    rw [hq] at hcall
    go_wp2_with (go_at_fn g;refine (hcall _).mono ?_;rintro e w' ⟨rfl,q',rfl⟩)
    go_roundg (n - (kk + 1))
    case measure=>omega
    case rel =>
     refine ⟨kk + 1,_,by omega,by omega,by go_num,rfl,⟨fun j hj=>?_⟩⟩
     by_cases e : j = kk
     ·subst e;exact hq
     ·exact A0.out j (by omega)
  ·have hltz : ¬ (kk : Int) < (n : Int):=by omega
   have : kk = n:=by omega
   subst this
   go_wp2
   go_ret
   refine ⟨⟨-1,rfl,⟨fun h=>absurd h (by decide),fun ⟨j,hj,hj2⟩=>?_⟩⟩,q,rfl⟩
   rw [A0.out j hj] at hj2
   exact absurd hj2 (by decide)
set_option maxHeartbeats 2000000 in
theorem machine_Words.any (g : Nat) (lb : Array Value) (eg : ∀ args w,(callFunc g args).run Try.prog w = .ok (.enter g args) w) (A : Option Addr) (n c : Nat) (raw : Nat → Value) (p : Nat → Bool) (w : World) (hbig : n ≤ 9223372036854775807) (hc : ∀ j,j < n → ∃ ad,A = some ad ∧ w.cell? (ad.add j) = some (raw j))
  (hp : ∀ W j,j < n → Below w.heap.size w W → Calls Try.prog g (#[raw j] ++ lb) W fun e w'=>e = .returned (.bool (p j)) ∧ ∃ q,w' = W.drewN q) (b : Bool) (hb : b = true ↔ ∃ j,j < n ∧ p j = true) :
  Calls Try.prog 72 #[.slice A n c,.func (.func g) #[] lb] w fun e w'=>e = .returned (.bool b) ∧ ∃ q,w' = w.drewN q:=by
 have hI0:=machine_Words.idx g lb eg A n c raw p w hbig hc hp
 have hI:=fun q=>machine_Words.idx g lb eg A n c raw p (w.drewN q) hbig (fun j hj=>hc j hj) (fun W j hj hB=>hp W j hj ((pw_below_drewN (Below.refl _ w) q).trans hB))
 clear hc hp
 go_enter Try.func72,Try.ntmps72
 go_wp2_with (go_at_call 94;(first|refine hI0.mono ?_|refine (hI _).mono ?_);rintro e w' ⟨⟨r,rfl,hr⟩,q',rfl⟩)
 go_ret
 refine ⟨?_,_,rfl⟩
 have : decide (0 ≤ r) = b:=by
  rw [Bool.eq_iff_iff,decide_eq_true_iff,hr,hb]
 first|rw [this]|(subst this;rfl)|(simp [← this,hr];done)
theorem machine_Words.lit (k s : Int) (B : Nat) (w : World) (hc : w.cell? ⟨B,0,none⟩ = some (.int .i64 k)) :
  Calls Try.prog 73 #[.int .i64 s,.pointer (some ⟨B,0,none⟩)] w fun e w'=>e = .returned (.bool (decide (s < 0) || decide (s ≥ k))) ∧ ∃ q,w' = w.drewN q:=by
 by_cases h1 : s < 0
 ·have h1b : decide (s < 0) = true:=decide_eq_true h1
  go_enter Try.func73,Try.ntmps73
  go_wp2
  all_goals go_ret
  all_goals first|exact ⟨by simp [h1],_,rfl⟩|exact ⟨by simp [h1],0,rfl⟩
 ·have h1b : decide (s < 0) = false:=decide_eq_false h1
  by_cases h2 : s ≥ k
  ·have h2b : decide (s ≥ k) = true:=decide_eq_true h2
   go_enter Try.func73,Try.ntmps73
   go_wp2
   all_goals go_ret
   all_goals first|exact ⟨by simp [h1,h2],_,rfl⟩|exact ⟨by simp [h1,h2],0,rfl⟩
  ·have h2b : decide (s ≥ k) = false:=decide_eq_false h2
   go_enter Try.func73,Try.ntmps73
   go_wp2
   all_goals go_ret
   all_goals first|exact ⟨by simp [h1,h2],_,rfl⟩|exact ⟨by simp [h1,h2],0,rfl⟩
set_option maxHeartbeats 8000000 in
set_option maxRecDepth 100000 in
theorem machine_Words.calls (a0 : Int) (A1 : Option Addr) (c1 : Nat) (l1 : List Int) (r : Int) (w : World) (hr1 : Kd.C (Kd.int .i64) w A1 l1.length l1) (hc1 : l1.length ≤ c1) (h : machine_Words.f a0 l1 = some r) :
  Calls Try.prog 39 #[.int .i64 a0,.slice A1 l1.length c1] w fun e w'=>e = .returned (.int .i64 r) ∧ Below w.heap.size w w':=by
 unfold machine_Words.f at h
 obtain rfl:=Option.some.inj h
 clear h
 have hr:=Kd.reads_of_C (enc:=Value.int .i64) (d:=(0 : Int)) (h1:=fun _=>rfl) hr1
 by_cases c12 : l1.length > 12
 ·rw [if_pos c12]
  have c12b : ((l1.length : Int) > 12) = True:=eq_true (by omega)
  clear hr hr1 hc1
  go_enter Try.func39,Try.ntmps39
  go_wp2
  go_ret
  exact ⟨rfl,by repeat (first|exact Below.refl _ _|apply below_alloc|apply pw_below_drewN)⟩
 ·rw [if_neg c12]
  have c12b : ((l1.length : Int) > 12) = False:=eq_false (by omega)
  generalize hbv : (l1.any fun s=>decide (s < 0) || decide (s ≥ a0)) = b
  have hA:=machine_Words.any 73 #[.pointer (some ⟨w.heap.size,0,none⟩)] (enters_of Try.func73 (by kernel_rfl) rfl) A1 l1.length c1 (fun j=>.int .i64 (l1.getD j 0)) (fun j=>decide (l1.getD j 0 < 0) || decide (l1.getD j 0 ≥ a0)) (w.alloc (.cells #[.int .i64 a0] 3)) hr.2.1
   (fun j hj=>by
    obtain ⟨ad,e,hcl⟩:=hr.2.2 (by omega)
    exact ⟨ad,e,Lib.cell?_alloc_some _ (hcl j hj)⟩)
   (fun W j hj hB=>machine_Words.lit a0 _ w.heap.size W ((hB.cell (p:=⟨w.heap.size,0,none⟩) (by simp)).trans (by simp))) b
   (by
    rw [← hbv,List.any_eq_true]
    constructor
    ·rintro ⟨x,hx,hx2⟩
     obtain ⟨j,hj,rfl⟩:=List.getElem_of_mem hx
     refine ⟨j,hj,?_⟩
     rwa [List.getD_eq_getElem?_getD,List.getElem?_eq_getElem hj]
    ·rintro ⟨j,hj,hj2⟩
     rw [List.getD_eq_getElem?_getD,List.getElem?_eq_getElem hj] at hj2
     exact ⟨_,List.getElem_mem hj,hj2⟩)
  clear hr hr1 hc1 hbv
  cases b with
  | true =>
   go_enter Try.func39,Try.ntmps39
   go_wp2_with (go_at_call 72;go_loud (refine hA.mono ?_);rintro e w' ⟨rfl,q,rfl⟩)
   go_ret
   exact ⟨rfl,by repeat (first|exact Below.refl _ _|apply below_alloc|apply pw_below_drewN)⟩
  | false =>
   go_enter Try.func39,Try.ntmps39
   go_wp2_with (go_at_call 72;go_loud (refine hA.mono ?_);rintro e w' ⟨rfl,q,rfl⟩)
   go_ret
   exact ⟨rfl,by repeat (first|exact Below.refl _ _|apply below_alloc|apply pw_below_drewN)⟩
end Go.Proofs.Ytkalcljgcigdgaa.GS
