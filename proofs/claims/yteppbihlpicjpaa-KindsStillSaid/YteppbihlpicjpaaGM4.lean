-- Written by ext.py, a program of this session.
import Derived.Test.YteppbihlpicjpaaGM0
namespace Go.Proofs.Yteppbihlpicjpaa.GM
open Go.RowKit Go.Proofs.YteppbihlpicjpaaW.PrintWords Go.Proofs.YteppbihlpicjpaaW.PrintLast Go.Proofs.YteppbihlpicjpaaW.PrintMore
attribute [local go_sem] max2_int min2_int max_two min_two max_three min_three max_four min_four cellIs_set   -- for this text's walks alone
set_option linter.unusedVariables false
set_option linter.unusedSimpArgs false
-- NOT PRINTED: function 33 (slices_IndexFunc_int_int_33)
-- NOT PRINTED: function 25 (slices_ContainsFunc_int_int_25)
/-! ### machine_Words: function 14 -/
def machine_Words.f (a0 : Int) (l1 : List Int) : Option Int:=some (if l1.length > 12 then 1 else if l1.any (fun s=>decide (s < 0) || decide (s ≥ a0)) = true then 2 else 0)
set_option maxHeartbeats 2000000 in
theorem machine_Words.idx (g : Nat) (lb : Array Value) (eg : ∀ args w,(callFunc g args).run Try.prog w = .ok (.enter g args) w) (A : Option Addr) (n c : Nat) (raw : Nat → Value) (p : Nat → Bool) (w : World) (hbig : n ≤ 9223372036854775807) (hc : ∀ j,j < n → ∃ ad,A = some ad ∧ w.cell? (ad.add j) = some (raw j))
  (hp : ∀ W j,j < n → Below w.heap.size w W → Calls Try.prog g (#[raw j] ++ lb) W fun e w'=>e = .returned (.bool (p j)) ∧ ∃ q,w' = W.drewN q) :
  Calls Try.prog 33 #[.slice A n c,.func (.func g) #[] lb] w fun e w'=>(∃ r : Int,e = .returned (.int .i64 r) ∧ (0 ≤ r ↔ ∃ j,j < n ∧ p j = true)) ∧ ∃ q,w' = w.drewN q:=by
 go_enter Try.func33,Try.ntmps33
 go_wp2
 go_loopg [5,8] n (fun gg _ s8 wr=>∃ kk q : Nat,kk ≤ n ∧ n - kk ≤ gg ∧ s8 = .int .i64 kk ∧ wr = w.drewN q ∧ Aside0 (∀ j,j < kk → p j = false))
 case atStart=>exact ⟨0,0,Nat.zero_le _,by omega,rfl,rfl,⟨fun j hj=>absurd hj (Nat.not_lt_zero _)⟩⟩
 case round =>
  obtain ⟨kk,q,hkk,hg,rfl,rfl,A0⟩:=hrel
  by_cases hlt : kk < n
  ·have hltz : (kk : Int) < (n : Int):=by omega
   obtain ⟨ad,rfl,hcell⟩:=hc kk hlt
   have hcall:=fun q=>hp (w.drewN q) kk hlt (pw_below_drewN (Below.refl _ w) q)
   clear hc hp
   obtain ⟨b,off,lab⟩:=ad
   generalize raw kk = y at hcell hcall
   cases hq : p kk with
   | true =>
    rw [hq] at hcall
    go_wp2_with (go_at_fn g;refine (hcall _).mono ?_;rintro e w' ⟨rfl,q',rfl⟩)
    go_ret
    exact ⟨⟨(kk : Int),rfl,⟨fun _=>⟨kk,hlt,hq⟩,fun _=>by omega⟩⟩,_,rfl⟩
   | false =>
    rw [hq] at hcall
    go_wp2_with (go_at_fn g;refine (hcall _).mono ?_;rintro e w' ⟨rfl,q',rfl⟩)
    go_roundg (n - (kk + 1))
    case measure=>omega
    case rel =>
     refine ⟨kk + 1,_,by omega,by omega,by go_num,rfl,⟨fun j hj=>?_⟩⟩
     by_cases e : j = kk
     ·subst e;exact hq
     ·exact A0.out j (by omega)
  ·have hltz : ¬ (kk : Int) < (n : Int):=by omega
   have : kk = n:=by omega
   subst this
   go_wp2
   go_ret
   refine ⟨⟨-1,rfl,⟨fun h=>absurd h (by decide),fun ⟨j,hj,hj2⟩=>?_⟩⟩,q,rfl⟩
   rw [A0.out j hj] at hj2
   exact absurd hj2 (by decide)
set_option maxHeartbeats 2000000 in
theorem machine_Words.any (g : Nat) (lb : Array Value) (eg : ∀ args w,(callFunc g args).run Try.prog w = .ok (.enter g args) w) (A : Option Addr) (n c : Nat) (raw : Nat → Value) (p : Nat → Bool) (w : World) (hbig : n ≤ 9223372036854775807) (hc : ∀ j,j < n → ∃ ad,A = some ad ∧ w.cell? (ad.add j) = some (raw j))
  (hp : ∀ W j,j < n → Below w.heap.size w W → Calls Try.prog g (#[raw j] ++ lb) W fun e w'=>e = .returned (.bool (p j)) ∧ ∃ q,w' = W.drewN q) (b : Bool) (hb : b = true ↔ ∃ j,j < n ∧ p j = true) :
  Calls Try.prog 25 #[.slice A n c,.func (.func g) #[] lb] w fun e w'=>e = .returned (.bool b) ∧ ∃ q,w' = w.drewN q:=by
 have hI0:=machine_Words.idx g lb eg A n c raw p w hbig hc hp
 have hI:=fun q=>machine_Words.idx g lb eg A n c raw p (w.drewN q) hbig (fun j hj=>hc j hj) (fun W j hj hB=>hp W j hj ((pw_below_drewN (Below.refl _ w) q).trans hB))
 clear hc hp
 go_enter Try.func25,Try.ntmps25
 go_wp2_with (go_at_call 33;(first|refine hI0.mono ?_|refine (hI _).mono ?_);rintro e w' ⟨⟨r,rfl,hr⟩,q',rfl⟩)
 go_ret
 refine ⟨?_,_,rfl⟩
 have : decide (0 ≤ r) = b:=by
  rw [Bool.eq_iff_iff,decide_eq_true_iff,hr,hb]
 first|rw [this]|(subst this;rfl)|(simp [← this,hr];done)
theorem machine_Words.lit (k s : Int) (B : Nat) (w : World) (hc : w.cell? ⟨B,0,none⟩ = some (.int .i64 k)) :
  Calls Try.prog 26 #[.int .i64 s,.pointer (some ⟨B,0,none⟩)] w fun e w'=>e = .returned (.bool (decide (s < 0) || decide (s ≥ k))) ∧ ∃ q,w' = w.drewN q:=by
 by_cases h1 : s < 0
 ·have h1b : decide (s < 0) = true:=decide_eq_true h1
  go_enter Try.func26,Try.ntmps26
  go_wp2
  all_goals go_ret
  all_goals first|exact ⟨by simp [h1],_,rfl⟩|exact ⟨by simp [h1],0,rfl⟩
 ·have h1b : decide (s < 0) = false:=decide_eq_false h1
  by_cases h2 : s ≥ k
  ·have h2b : decide (s ≥ k) = true:=decide_eq_true h2
   go_enter Try.func26,Try.ntmps26
   go_wp2
   all_goals go_ret
   all_goals first|exact ⟨by simp [h1,h2],_,rfl⟩|exact ⟨by simp [h1,h2],0,rfl⟩
  ·have h2b : decide (s ≥ k) = false:=decide_eq_false h2
   go_enter Try.func26,Try.ntmps26
   go_wp2
   all_goals go_ret
   all_goals first|exact ⟨by simp [h1,h2],_,rfl⟩|exact ⟨by simp [h1,h2],0,rfl⟩
set_option maxHeartbeats 8000000 in
set_option maxRecDepth 100000 in
theorem machine_Words.calls (a0 : Int) (A1 : Option Addr) (c1 : Nat) (l1 : List Int) (r : Int) (w : World) (hr1 : Kd.C (Kd.int .i64) w A1 l1.length l1) (hc1 : l1.length ≤ c1) (h : machine_Words.f a0 l1 = some r) :
  Calls Try.prog 14 #[.int .i64 a0,.slice A1 l1.length c1] w fun e w'=>e = .returned (.int .i64 r) ∧ Below w.heap.size w w':=by
 unfold machine_Words.f at h
 obtain rfl:=Option.some.inj h
 clear h
 have hr:=Kd.reads_of_C (enc:=Value.int .i64) (d:=(0 : Int)) (h1:=fun _=>rfl) hr1
 by_cases c12 : l1.length > 12
 ·rw [if_pos c12]
  have c12b : ((l1.length : Int) > 12) = True:=eq_true (by omega)
  clear hr hr1 hc1
  go_enter Try.func14,Try.ntmps14
  go_wp2
  go_ret
  exact ⟨rfl,by repeat (first|exact Below.refl _ _|apply below_alloc|apply pw_below_drewN)⟩
 ·rw [if_neg c12]
  have c12b : ((l1.length : Int) > 12) = False:=eq_false (by omega)
  generalize hbv : (l1.any fun s=>decide (s < 0) || decide (s ≥ a0)) = b
  have hA:=machine_Words.any 26 #[.pointer (some ⟨w.heap.size,0,none⟩)] (enters_of Try.func26 (by kernel_rfl) rfl) A1 l1.length c1 (fun j=>.int .i64 (l1.getD j 0)) (fun j=>decide (l1.getD j 0 < 0) || decide (l1.getD j 0 ≥ a0)) (w.alloc (.cells #[.int .i64 a0] 3)) hr.2.1
   (fun j hj=>by
    obtain ⟨ad,e,hcl⟩:=hr.2.2 (by omega)
    exact ⟨ad,e,Lib.cell?_alloc_some _ (hcl j hj)⟩)
   (fun W j hj hB=>machine_Words.lit a0 _ w.heap.size W ((hB.cell (p:=⟨w.heap.size,0,none⟩) (by simp)).trans (by simp))) b
   (by
    rw [← hbv,List.any_eq_true]
    constructor
    ·rintro ⟨x,hx,hx2⟩
     obtain ⟨j,hj,rfl⟩:=List.getElem_of_mem hx
     refine ⟨j,hj,?_⟩
     rwa [List.getD_eq_getElem?_getD,List.getElem?_eq_getElem hj]
    ·rintro ⟨j,hj,hj2⟩
     rw [List.getD_eq_getElem?_getD,List.getElem?_eq_getElem hj] at hj2
     exact ⟨_,List.getElem_mem hj,hj2⟩)
  clear hr hr1 hc1 hbv
  cases b with
  | true =>
   go_enter Try.func14,Try.ntmps14
   go_wp2_with (go_at_call 25;go_loud (refine hA.mono ?_);rintro e w' ⟨rfl,q,rfl⟩)
   go_ret
   exact ⟨rfl,by repeat (first|exact Below.refl _ _|apply below_alloc|apply pw_below_drewN)⟩
  | false =>
   go_enter Try.func14,Try.ntmps14
   go_wp2_with (go_at_call 25;go_loud (refine hA.mono ?_);rintro e w' ⟨rfl,q,rfl⟩)
   go_ret
   exact ⟨rfl,by repeat (first|exact Below.refl _ _|apply below_alloc|apply pw_below_drewN)⟩
/-! ### slices_Index_int_int: function 34 -/
def slices_Index_int_int.l0 : Nat → List Int → Int → Int → Int → Option (Int)
 | 0,_,_,_,_=>none
 | k + 1,x0,x1,x7,x8=>if x8 < x7 then (if 0 ≤ x8 then (if x8 < (x0.length : Int) then (if x1 = (rd x0 x8) then (some x8) else (slices_Index_int_int.l0 k x0 x1 x7 (wrap64 (x8 + 1)))) else (none)) else (none)) else (some (-1))
def slices_Index_int_int.f (k : Nat) (l0 : List Int) (a1 : Int) : Option (Int):=slices_Index_int_int.l0 k l0 a1 (l0.length : Int) 0
theorem slices_Index_int_int.mono_l : ∀ k,(∀ y0 y1 y2 y3,LeO (slices_Index_int_int.l0 k y0 y1 y2 y3) (slices_Index_int_int.l0 (k + 1) y0 y1 y2 y3))
 | 0=>fun _ _ _ _ r h=>by simp [slices_Index_int_int.l0] at h
 | k + 1=>by
  have ih0:=slices_Index_int_int.mono_l k
  ·intro y0 y1 y2 y3
   unfold slices_Index_int_int.l0
   repeat' first
   | (with_reducible exact ih0 _ _ _ _)
   | (with_reducible exact LeO.refl _)
   | (with_reducible exact LeO.none _)
   | (with_reducible refine LeO.ite ?_ ?_)
   | (with_reducible refine LeO.bind ?_ (fun _=>?_))
   | exact ih0 _ _ _ _
   | exact LeO.none _
   | refine LeO.ite ?_ ?_
   | refine LeO.bind ?_ (fun _=>?_)
theorem slices_Index_int_int.mono : ∀ a0 a1 k,LeO (slices_Index_int_int.f k a0 a1) (slices_Index_int_int.f (k + 1) a0 a1):=by
 intro a0 a1 k
 have ih0:=slices_Index_int_int.mono_l k
 unfold slices_Index_int_int.f
 repeat' first
   | (with_reducible exact ih0 _ _ _ _)
   | (with_reducible exact LeO.refl _)
   | (with_reducible exact LeO.none _)
   | (with_reducible refine LeO.ite ?_ ?_)
   | (with_reducible refine LeO.bind ?_ (fun _=>?_))
   | exact ih0 _ _ _ _
   | exact LeO.none _
   | refine LeO.ite ?_ ?_
   | refine LeO.bind ?_ (fun _=>?_)
set_option maxHeartbeats 8000000 in
set_option maxRecDepth 100000 in
theorem slices_Index_int_int.calls (k : Nat) (A0 : Option Addr) (c0 : Nat) (l0 : List Int) (a1 : Int) (r : Int) (w : World) (hr0 : Kd.C (Kd.int .i64) w A0 l0.length l0) (hc0 : l0.length ≤ c0) (h : slices_Index_int_int.f k l0 a1 = some r) :
  Calls Try.prog 34 #[.slice A0 l0.length c0,.int .i64 a1] w fun e w'=>e = .returned (.int .i64 r) ∧ Drawn0 w w':=by
 have HR0:=Aside0.mk hr0
 have HC0:=Aside0.mk hc0
 clear hr0 hc0
 have H : (slices_Index_int_int.l0 k l0 a1 (l0.length : Int) 0) = some r:=h
 clear h
 have H':=Aside0.mk H
 clear H
 go_enter Try.func34,Try.ntmps34
 go_wp2
 go_loopg [8] k (fun kq v8 w'=>∃ (x8_1 : Int),v8 = .int .i64 x8_1 ∧ Aside0 (slices_Index_int_int.l0 kq l0 a1 (l0.length : Int) x8_1 = some r) ∧ Aside0 (kq ≤ k) ∧ Drawn0 w w')
 case atStart=>exact ⟨(0),(by first|rfl|(simp;done)|(simp [*];done)),H',⟨Nat.le_refl _⟩,by repeat (first|exact Drawn0.refl _|apply Drawn0.step)⟩
 case round =>
  clear H'
  try clear p2
  obtain ⟨x8_1,rfl,HA,HK1,⟨m1,rfl⟩⟩:=hrel
  cases gk with
  | zero=>exact absurd HA.out (by simp [slices_Index_int_int.l0])
  | succ k1 =>
   have H:=HA.out
   clear HA
   simp only [slices_Index_int_int.l0] at H
   by_cases c3 : x8_1 < (l0.length : Int)
   ·rw [if_pos c3] at H
    have c3b0 : decide (x8_1 < (l0.length : Int)) = true:=decide_eq_true c3
    clear c3
    by_cases c4 : 0 ≤ x8_1
    ·rw [if_pos c4] at H
     have c4b0 : decide (0 ≤ x8_1) = true:=decide_eq_true c4
     clear c4
     by_cases c5 : x8_1 < (l0.length : Int)
     ·rw [if_pos c5] at H
      have c5b0 : decide (x8_1 < (l0.length : Int)) = true:=decide_eq_true c5
      clear c5
      by_cases c6 : a1 = (rd l0 x8_1)
      ·rw [if_pos c6] at H
       have c6b0 : (a1 == (rd l0 x8_1)) = true:=beq_iff_eq.mpr c6
       have c6b1 : (a1 != (rd l0 x8_1)) = false:=bne_eq_false_iff_eq.mpr c6
       clear c6
       obtain rfl:=Option.some.inj H
       have p113 : 0 ≤ (x8_1 : Int):=of_decide_eq_true (by first|(with_reducible assumption)|assumption)
       have q113 : x8_1 < (l0.length : Int):=of_decide_eq_true (by first|(with_reducible assumption)|assumption)
       obtain ⟨ad113,e113,hx113_0⟩:=Kd.at_int HR0.out x8_1 p113 q113
       cases e113
       replace p113:=eq_true p113
       replace q113:=eq_true q113
       go_wp2
       go_ret
       exact ⟨by first|rfl|(simp;done)|(simp [*];done),by repeat (first|exact Drawn0.refl _|apply Drawn0.step)⟩
      ·rw [if_neg c6] at H
       have c6b0 : (a1 == (rd l0 x8_1)) = false:=beq_eq_false_iff_ne.mpr c6
       have c6b1 : (a1 != (rd l0 x8_1)) = true:=bne_iff_ne.mpr c6
       have H':=Aside0.mk H
       clear H
       have p113 : 0 ≤ (x8_1 : Int):=of_decide_eq_true (by first|(with_reducible assumption)|assumption)
       have q113 : x8_1 < (l0.length : Int):=of_decide_eq_true (by first|(with_reducible assumption)|assumption)
       obtain ⟨ad113,e113,hx113_0⟩:=Kd.at_int HR0.out x8_1 p113 q113
       cases e113
       replace p113:=eq_true p113
       replace q113:=eq_true q113
       go_wp2
       go_roundg k1
       case measure=>have:=HK1.out;omega
       case rel=>exact ⟨(wrap64 (x8_1 + 1)),(by first|rfl|(simp;done)|(simp [*];done)),H',⟨by have:=HK1.out;omega⟩,by repeat (first|exact Drawn0.refl _|apply Drawn0.step)⟩
     ·rw [if_neg c5] at H
      exact absurd H (by simp)
    ·rw [if_neg c4] at H
     exact absurd H (by simp)
   ·rw [if_neg c3] at H
    have c3b0 : decide (x8_1 < (l0.length : Int)) = false:=decide_eq_false c3
    clear c3
    obtain rfl:=Option.some.inj H
    go_wp2
    go_ret
    exact ⟨by first|rfl|(simp;done)|(simp [*];done),by repeat (first|exact Drawn0.refl _|apply Drawn0.step)⟩
end Go.Proofs.Yteppbihlpicjpaa.GM
