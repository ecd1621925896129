-- Written by ext.py, a program of this session.
import Derived.Test.YtnkackiocigdoaaGE0
namespace Go.Proofs.Ytnkackiocigdoaa.GE
open Go.RowKit Go.Proofs.YtnkackiocigdoaaW.PrintWords Go.Proofs.YtnkackiocigdoaaW.PrintLast Go.Proofs.YtnkackiocigdoaaW.PrintMore
attribute [local go_sem] max2_int min2_int max_two min_two max_three min_three max_four min_four cellIs_set   -- for this text's walks alone
set_option linter.unusedVariables false
set_option linter.unusedSimpArgs false
/-! ### grammar_Least: function 41 -/
def grammar_Least_any.p (k : Int) (sy : Bool) (set x : Int) : Bool:=(decide (x < k) && !sy) || (decide (x ≥ k) && (Go.bits .and .u32 (shr .u32 set (wrap64 (x - k))) 1 == 0))
def grammar_Least_any.f (l0 : List Int) (k : Int) (sy : Bool) (set : Int) : Option Bool:=if (l0.all fun x=>decide (x < k) || decide (0 ≤ wrap64 (x - k))) = true then some (l0.any (grammar_Least_any.p k sy set)) else none
set_option maxHeartbeats 2000000 in
theorem grammar_Least_any.idx (g : Nat) (lb : Array Value) (eg : ∀ args w,(callFunc g args).run Try.prog w = .ok (.enter g args) w) (A : Option Addr) (n c : Nat) (raw : Nat → Value) (p : Nat → Bool) (w : World) (hbig : n ≤ 9223372036854775807) (hc : ∀ j,j < n → ∃ ad,A = some ad ∧ w.cell? (ad.add j) = some (raw j))
  (hp : ∀ W j,j < n → Below w.heap.size w W → Calls Try.prog g (#[raw j] ++ lb) W fun e w'=>e = .returned (.bool (p j)) ∧ ∃ q,w' = W.drewN q) :
  Calls Try.prog 86 #[.slice A n c,.func (.func g) #[] lb] w fun e w'=>(∃ r : Int,e = .returned (.int .i64 r) ∧ (0 ≤ r ↔ ∃ j,j < n ∧ p j = true)) ∧ ∃ q,w' = w.drewN q:=by
 go_enter Try.func86,Try.ntmps86
 go_wp2
 go_loopg [5,8] n (fun gg _ s8 wr=>∃ kk q : Nat,kk ≤ n ∧ n - kk ≤ gg ∧ s8 = .int .i64 kk ∧ wr = w.drewN q ∧ Aside0 (∀ j,j < kk → p j = false))
 case atStart=>exact ⟨0,0,Nat.zero_le _,by omega,rfl,rfl,⟨fun j hj=>absurd hj (Nat.not_lt_zero _)⟩⟩
 case round =>
  obtain ⟨kk,q,hkk,hg,rfl,rfl,A0⟩:=hrel
  by_cases hlt : kk < n
  ·have hltz : (kk : Int) < (n : Int):=by omega
   obtain ⟨ad,rfl,hcell⟩:=hc kk hlt
   have hcall:=fun q=>hp (w.drewN q) kk hlt (pw_below_drewN (Below.refl _ w) q)
   clear hc hp
   obtain ⟨b,off,lab⟩:=ad
   generalize raw kk = y at hcell hcall
   cases hq : p kk with
   | true =>
    rw [hq] at hcall
    go_wp2_with (go_at_fn g;refine (hcall _).mono ?_;rintro e w' ⟨rfl,q',rfl⟩)
    go_ret
    exact ⟨⟨(kk : Int),rfl,⟨fun _=>⟨kk,hlt,hq⟩,fun _=>by omega⟩⟩,_,rfl⟩
   | false =>
    rw [hq] at hcall
    go_wp2_with (go_at_fn g;refine (hcall _).mono ?_;rintro e w' ⟨rfl,q',rfl⟩)
    go_roundg (n - (kk + 1))
    case measure=>omega
    case rel =>
     refine ⟨kk + 1,_,by omega,by omega,by go_num,rfl,⟨fun j hj=>?_⟩⟩
     by_cases e : j = kk
     ·subst e;exact hq
     ·exact A0.out j (by omega)
  ·have hltz : ¬ (kk : Int) < (n : Int):=by omega
   have : kk = n:=by omega
   subst this
   go_wp2
   go_ret
   refine ⟨⟨-1,rfl,⟨fun h=>absurd h (by decide),fun ⟨j,hj,hj2⟩=>?_⟩⟩,q,rfl⟩
   rw [A0.out j hj] at hj2
   exact absurd hj2 (by decide)
set_option maxHeartbeats 2000000 in
theorem grammar_Least_any.any (g : Nat) (lb : Array Value) (eg : ∀ args w,(callFunc g args).run Try.prog w = .ok (.enter g args) w) (A : Option Addr) (n c : Nat) (raw : Nat → Value) (p : Nat → Bool) (w : World) (hbig : n ≤ 9223372036854775807) (hc : ∀ j,j < n → ∃ ad,A = some ad ∧ w.cell? (ad.add j) = some (raw j))
  (hp : ∀ W j,j < n → Below w.heap.size w W → Calls Try.prog g (#[raw j] ++ lb) W fun e w'=>e = .returned (.bool (p j)) ∧ ∃ q,w' = W.drewN q) (b : Bool) (hb : b = true ↔ ∃ j,j < n ∧ p j = true) :
  Calls Try.prog 57 #[.slice A n c,.func (.func g) #[] lb] w fun e w'=>e = .returned (.bool b) ∧ ∃ q,w' = w.drewN q:=by
 have hI0:=grammar_Least_any.idx g lb eg A n c raw p w hbig hc hp
 have hI:=fun q=>grammar_Least_any.idx g lb eg A n c raw p (w.drewN q) hbig (fun j hj=>hc j hj) (fun W j hj hB=>hp W j hj ((pw_below_drewN (Below.refl _ w) q).trans hB))
 clear hc hp
 go_enter Try.func57,Try.ntmps57
 go_wp2_with (go_at_call 86;(first|refine hI0.mono ?_|refine (hI _).mono ?_);rintro e w' ⟨⟨r,rfl,hr⟩,q',rfl⟩)
 go_ret
 refine ⟨?_,_,rfl⟩
 have : decide (0 ≤ r) = b:=by
  rw [Bool.eq_iff_iff,decide_eq_true_iff,hr,hb]
 first|rw [this]|(subst this;rfl)|(simp [← this,hr];done)
theorem grammar_Least_any.lit (k : Int) (sy : Bool) (set x : Int) (hx : x < k ∨ 0 ≤ wrap64 (x - k)) (g s u : Nat) (w : World) (hk : w.cell? ⟨g,0,none⟩ = some (.int .i64 k)) (hs : w.cell? ⟨s,0,none⟩ = some (.bool sy)) (hu : w.cell? ⟨u,0,none⟩ = some (.int .u32 set)) :
  Calls Try.prog 78 #[.int .i64 x,.pointer (some ⟨g,0,none⟩),.pointer (some ⟨s,0,none⟩),.pointer (some ⟨u,0,none⟩)] w fun e w'=>e = .returned (.bool (grammar_Least_any.p k sy set x)) ∧ ∃ q,w' = w.drewN q:=by
 unfold grammar_Least_any.p
 have hu0:=Try.underlying24
 by_cases h1 : x < k
 ·have h1b : decide (x < k) = true:=decide_eq_true h1
  have h2b : decide (x ≥ k) = false:=decide_eq_false (by omega)
  have h2c : decide (k ≤ x) = false:=decide_eq_false (by omega)
  clear hx
  cases sy with
  | true =>
   go_enter Try.func78,Try.ntmps78
   go_wp2
   all_goals go_ret
   all_goals first|exact ⟨by simp [h1,h2b,h2c],_,rfl⟩|exact ⟨by simp [h1,h2b,h2c],0,rfl⟩
  | false =>
   go_enter Try.func78,Try.ntmps78
   go_wp2
   all_goals go_ret
   all_goals first|exact ⟨by simp [h1],_,rfl⟩|exact ⟨by simp [h1],0,rfl⟩
 ·have h1b : decide (x < k) = false:=decide_eq_false h1
  have h2b : decide (x ≥ k) = true:=decide_eq_true (by omega)
  have h2c : decide (k ≤ x) = true:=decide_eq_true (by omega)
  have h3 : 0 ≤ wrap64 (x - k):=by rcases hx with hx|hx;exact absurd hx h1;exact hx
  clear hx
  cases hq : (Go.bits .and .u32 (shr .u32 set (wrap64 (x - k))) 1 == 0) with
  | true =>
   have hq2 : (Go.bits .and .u32 (set / 2 ^ min (wrap64 (x - k)).toNat 32) 1 == 0) = true:=hq
   go_enter Try.func78,Try.ntmps78
   go_wp2
   all_goals go_ret
   all_goals first|exact ⟨by first|rfl|(simp only [hq2,hq,h1b,h2b,h2c];done)|(simp only [hq2,hq,h1b,h2b,h2c];cases sy <;> rfl),_,rfl⟩|exact ⟨by first|rfl|(simp only [hq2,hq,h1b,h2b,h2c];done)|(simp only [hq2,hq,h1b,h2b,h2c];cases sy <;> rfl),0,rfl⟩
  | false =>
   have hq2 : (Go.bits .and .u32 (set / 2 ^ min (wrap64 (x - k)).toNat 32) 1 == 0) = false:=hq
   go_enter Try.func78,Try.ntmps78
   go_wp2
   all_goals go_ret
   all_goals first|exact ⟨by first|rfl|(simp only [hq2,hq,h1b,h2b,h2c];done)|(simp only [hq2,hq,h1b,h2b,h2c];cases sy <;> rfl),_,rfl⟩|exact ⟨by first|rfl|(simp only [hq2,hq,h1b,h2b,h2c];done)|(simp only [hq2,hq,h1b,h2b,h2c];cases sy <;> rfl),0,rfl⟩
theorem grammar_Least_any.calls (A0 : Option Addr) (c0 : Nat) (l0 : List Int) (g : Nat) (cs : Array Value) (k : Int) (s : Nat) (cs1 : Array Value) (sy : Bool) (u : Nat) (cs2 : Array Value) (set : Int) (r : Bool) (w : World) (hr0 : Kd.C (Kd.int .i64) w A0 l0.length l0) (hc0 : l0.length ≤ c0) (hB : w.heap[g]? = some (.cells cs 24 (0,0))) (h1 : cs[0]? = some (.int .i64 k)) (hB1 : w.heap[s]? = some (.cells cs1 4 (0,0))) (h2 : cs1[0]? = some (.bool sy)) (hB2 : w.heap[u]? = some (.cells cs2 28 (0,0))) (h3 : cs2[0]? = some (.int .u32 set)) (h : grammar_Least_any.f l0 k sy set = some r) :
  Calls Try.prog 57 #[.slice A0 l0.length c0,.func (.func 78) #[] #[.pointer (some ⟨g,0,none⟩),.pointer (some ⟨s,0,none⟩),.pointer (some ⟨u,0,none⟩)]] w fun e w'=>e = .returned (.bool r) ∧ Drawn0 w w':=by
 unfold grammar_Least_any.f at h
 by_cases hall : (l0.all fun x=>decide (x < k) || decide (0 ≤ wrap64 (x - k))) = true
 ·rw [if_pos hall] at h
  have hr:=Option.some.inj h
  rw [List.all_eq_true] at hall
  have hrr:=Kd.reads_of_C (enc:=Value.int .i64) (d:=(0 : Int)) (h1:=fun _=>rfl) hr0
  have hk : w.cell? ⟨g,0,none⟩ = some (.int .i64 k):=(blk_cell hB 0).trans h1
  have hs : w.cell? ⟨s,0,none⟩ = some (.bool sy):=(blk_cell hB1 0).trans h2
  have hu : w.cell? ⟨u,0,none⟩ = some (.int .u32 set):=(blk_cell hB2 0).trans h3
  refine (grammar_Least_any.any 78 #[.pointer (some ⟨g,0,none⟩),.pointer (some ⟨s,0,none⟩),.pointer (some ⟨u,0,none⟩)] (enters_of Try.func78 (by kernel_rfl) rfl) A0 l0.length c0 (fun j=>.int .i64 (l0.getD j 0)) (fun j=>grammar_Least_any.p k sy set (l0.getD j 0)) w hrr.2.1 ?_ (fun W j hj hb=>?_) r ?_).mono ?_
  ·intro j hj
   obtain ⟨ad,e,hcl⟩:=hrr.2.2 (by omega)
   exact ⟨ad,e,hcl j hj⟩
  ·refine grammar_Least_any.lit k sy set (l0.getD j 0) ?_ g s u W (pw_cell_below hb hk) (pw_cell_below hb hs) (pw_cell_below hb hu)
   have:=hall (l0.getD j 0) (by rw [List.getD_eq_getElem?_getD,List.getElem?_eq_getElem hj];exact List.getElem_mem hj)
   simpa using this
  ·rw [← hr,List.any_eq_true]
   constructor
   ·rintro ⟨x,hx,hx2⟩
    obtain ⟨j,hj,rfl⟩:=List.getElem_of_mem hx
    refine ⟨j,hj,?_⟩
    rwa [List.getD_eq_getElem?_getD,List.getElem?_eq_getElem hj]
   ·rintro ⟨j,hj,hj2⟩
    rw [List.getD_eq_getElem?_getD,List.getElem?_eq_getElem hj] at hj2
    exact ⟨_,List.getElem_mem hj,hj2⟩
  ·rintro e w' ⟨rfl,q,rfl⟩
   exact ⟨rfl,⟨⟨q,rfl⟩⟩⟩
 ·rw [if_neg hall] at h
  exact absurd h (by simp)
mutual
def grammar_Least.l0 : Nat → Int → Int → Int → Int → Int → List (S27) → Bool → Int → Option (Int)
 | 0,_,_,_,_,_,_,_,_=>none
 | k + 1,x10,x11,x164000,x164001,x164002,x164003,x165000,x166000=>if x11 < x10 then (grammar_Least.l1 k x10 x11 x164003 (x164003.length : Int) 0 x164000 x164001 x164002 x164003 x165000 x166000) else (some x166000)
def grammar_Least.l1 : Nat → Int → Int → List (S27) → Int → Int → Int → Int → Int → List (S27) → Bool → Int → Option (Int)
 | 0,_,_,_,_,_,_,_,_,_,_,_=>none
 | k + 1,x10,x11,x14,x15,x16,x164000,x164001,x164002,x164003,x165000,x166000=>if x16 < x15 then (if 0 ≤ x16 then (if x16 < (x14.length : Int) then ((grammar_Least_any.f ((rd_T27 x14 x16).f1) x164000 x165000 x166000).bind fun t168=>(if t168 = true then (grammar_Least.l1 k x10 x11 x14 x15 (wrap64 (x16 + 1)) x164000 x164001 x164002 x164003 x165000 x166000) else (if 0 ≤ ((rd_T27 x14 x16).f0) then (grammar_Least.l1 k x10 x11 x14 x15 (wrap64 (x16 + 1)) x164000 x164001 x164002 x164003 x165000 (Go.bits .or .u32 x166000 (shl .u32 1 ((rd_T27 x14 x16).f0)))) else (none)))) else (none)) else (none)) else (grammar_Least.l0 k x10 (wrap64 (x11 + 1)) x164000 x164001 x164002 x164003 x165000 x166000)
end
def grammar_Least.f (k : Nat) (a0_0 : Int) (a0_1 : Int) (a0_2 : Int) (l0_3 : List (S27)) (a1 : Bool) : Option (Int):=grammar_Least.l0 k a0_1 0 a0_0 a0_1 a0_2 l0_3 a1 0
theorem grammar_Least.mono_l : ∀ k,(∀ y0 y1 y2 y3 y4 y5 y6 y7,LeO (grammar_Least.l0 k y0 y1 y2 y3 y4 y5 y6 y7) (grammar_Least.l0 (k + 1) y0 y1 y2 y3 y4 y5 y6 y7)) ∧ (∀ y0 y1 y2 y3 y4 y5 y6 y7 y8 y9 y10,LeO (grammar_Least.l1 k y0 y1 y2 y3 y4 y5 y6 y7 y8 y9 y10) (grammar_Least.l1 (k + 1) y0 y1 y2 y3 y4 y5 y6 y7 y8 y9 y10))
 | 0=>⟨fun _ _ _ _ _ _ _ _ r h=>by simp [grammar_Least.l0] at h,fun _ _ _ _ _ _ _ _ _ _ _ r h=>by simp [grammar_Least.l1] at h⟩
 | k + 1=>by
  obtain ⟨ih0,ih1⟩:=grammar_Least.mono_l k
  refine ⟨?_,?_⟩
  ·intro y0 y1 y2 y3 y4 y5 y6 y7
   unfold grammar_Least.l0
   repeat' first
   | (with_reducible exact ih0 _ _ _ _ _ _ _ _)
   | (with_reducible exact ih1 _ _ _ _ _ _ _ _ _ _ _)
   | (with_reducible exact LeO.refl _)
   | (with_reducible exact LeO.none _)
   | (with_reducible refine LeO.ite ?_ ?_)
   | (with_reducible refine LeO.bind ?_ (fun _=>?_))
   | exact ih0 _ _ _ _ _ _ _ _
   | exact ih1 _ _ _ _ _ _ _ _ _ _ _
   | exact LeO.none _
   | refine LeO.ite ?_ ?_
   | refine LeO.bind ?_ (fun _=>?_)
  ·intro y0 y1 y2 y3 y4 y5 y6 y7 y8 y9 y10
   unfold grammar_Least.l1
   repeat' first
   | (with_reducible exact ih0 _ _ _ _ _ _ _ _)
   | (with_reducible exact ih1 _ _ _ _ _ _ _ _ _ _ _)
   | (with_reducible exact LeO.refl _)
   | (with_reducible exact LeO.none _)
   | (with_reducible refine LeO.ite ?_ ?_)
   | (with_reducible refine LeO.bind ?_ (fun _=>?_))
   | exact ih0 _ _ _ _ _ _ _ _
   | exact ih1 _ _ _ _ _ _ _ _ _ _ _
   | exact LeO.none _
   | refine LeO.ite ?_ ?_
   | refine LeO.bind ?_ (fun _=>?_)
theorem grammar_Least.mono : ∀ a0 a1 a2 a3 a4 k,LeO (grammar_Least.f k a0 a1 a2 a3 a4) (grammar_Least.f (k + 1) a0 a1 a2 a3 a4):=by
 intro a0 a1 a2 a3 a4 k
 obtain ⟨ih0,ih1⟩:=grammar_Least.mono_l k
 unfold grammar_Least.f
 repeat' first
   | (with_reducible exact ih0 _ _ _ _ _ _ _ _)
   | (with_reducible exact ih1 _ _ _ _ _ _ _ _ _ _ _)
   | (with_reducible exact LeO.refl _)
   | (with_reducible exact LeO.none _)
   | (with_reducible refine LeO.ite ?_ ?_)
   | (with_reducible refine LeO.bind ?_ (fun _=>?_))
   | exact ih0 _ _ _ _ _ _ _ _
   | exact ih1 _ _ _ _ _ _ _ _ _ _ _
   | exact LeO.none _
   | refine LeO.ite ?_ ?_
   | refine LeO.bind ?_ (fun _=>?_)
set_option maxHeartbeats 8000000 in
set_option maxRecDepth 100000 in
theorem grammar_Least.calls (k : Nat) (a0_0 : Int) (a0_1 : Int) (a0_2 : Int) (A0_3 : Option Addr) (c0_3 : Nat) (l0_3 : List (S27)) (a1 : Bool) (r : Int) (w : World) (hr0_3 : Kd.C k27 w A0_3 l0_3.length l0_3) (hc0_3 : l0_3.length ≤ c0_3) (h : grammar_Least.f k a0_0 a0_1 a0_2 l0_3 a1 = some r) :
  Calls Try.prog 41 #[.agg #[.int .i64 a0_0,.int .i64 a0_1,.int .i64 a0_2,.slice A0_3 l0_3.length c0_3],.bool a1] w fun e w'=>e = .returned (.int .u32 r) ∧ Below w.heap.size w w':=by
 have hu24:=Try.underlying24
 have hu27:=Try.underlying27
 have HR0_3:=Aside0.mk hr0_3
 have HC0_3:=Aside0.mk hc0_3
 clear hr0_3 hc0_3
 have HB:=Aside0.mk (Below.refl w.heap.size w)
 have H : (grammar_Least.l0 k a0_1 0 a0_0 a0_1 a0_2 l0_3 a1 0) = some r:=h
 clear h
 have H':=Aside0.mk H
 clear H
 go_enter Try.func41,Try.ntmps41
 go_wp2_with (first|((with_reducible refine gate_dst (N:=2) rfl ?_);refine box_event ?hg (N:=2) ?hd (cs:=#[.int .i64 a0_0,.int .i64 a0_1,.int .i64 a0_2,.slice A0_3 l0_3.length c0_3]) (t:=24) ?hr ?_;(case hd=>rfl);(case hg=>rfl);(case hr=>first|(go_simp;done)|(go_simp;rfl));intro gb163 hg w3 hbox hb;have n0_:=Aside0.mk (below_step (by repeat (first|(with_reducible first|exact HB.out|apply below_alloc|apply pw_below_drewN|apply below_drew1)|exact HB.out)) hb);have n1_:=Aside0.mk (hbox);have n2_:=Aside0.mk ((by rw [hg];exact (below_size (by repeat (first|(with_reducible first|exact HB.out|apply below_alloc|apply pw_below_drewN|apply below_drew1)|exact HB.out))) : w.heap.size ≤ gb163));have n3_:=Aside0.mk ((by rw [hg];exact (below_size (by repeat (first|(with_reducible first|exact HB.out|apply below_alloc|apply pw_below_drewN|apply below_drew1)|exact HB.out))) : w.heap.size ≤ gb163));clear HB;have HB:=n0_;have BK163:=n1_;have GW163:=n2_;have GE163:=n3_;clear n0_ n1_ n2_ n3_;clear hb hbox hg)|((with_reducible refine gate_dst (N:=3) rfl ?_);refine box_event ?hg (N:=3) ?hd (cs:=#[.bool a1]) (t:=4) ?hr ?_;(case hd=>rfl);(case hg=>rfl);(case hr=>first|(go_simp;done)|(go_simp;rfl));intro gb164 hg w4 hbox hb;have n0_:=Aside0.mk (blk_below (g:=gb163) (o:=.cells #[.int .i64 a0_0,.int .i64 a0_1,.int .i64 a0_2,.slice A0_3 l0_3.length c0_3] 24 (0,0)) (by (with_reducible repeat (first|refine blk_drewN ?_ _|refine blk_drew ?_|refine blk_alloc ?_ _));exact BK163.out) hb);have n1_:=Aside0.mk (below_step (by repeat (first|(with_reducible first|exact HB.out|apply below_alloc|apply pw_below_drewN|apply below_drew1|refine below_set ?_ GE163.out)|exact HB.out)) hb);have n2_:=Aside0.mk (hbox);have n3_:=Aside0.mk ((by rw [hg];exact (below_size (by repeat (first|(with_reducible first|exact HB.out|apply below_alloc|apply pw_below_drewN|apply below_drew1|refine below_set ?_ GE163.out)|exact HB.out))) : w.heap.size ≤ gb164));have n4_:=Aside0.mk ((by rw [hg];exact (below_size (by repeat (first|(with_reducible first|exact HB.out|apply below_alloc|apply pw_below_drewN|apply below_drew1|refine below_set ?_ GE163.out)|exact HB.out))) : w.heap.size ≤ gb164));have n5_:=Aside0.mk ((by rw [hg];exact Nat.ne_of_lt (blk_lt (g:=gb163) (o:=.cells #[.int .i64 a0_0,.int .i64 a0_1,.int .i64 a0_2,.slice A0_3 l0_3.length c0_3] 24 (0,0)) (by (with_reducible repeat (first|refine blk_drewN ?_ _|refine blk_drew ?_|refine blk_alloc ?_ _));exact BK163.out)) : gb163 ≠ gb164));have n6_:=Aside0.mk ((by rw [hg];exact Nat.ne_of_gt (blk_lt (g:=gb163) (o:=.cells #[.int .i64 a0_0,.int .i64 a0_1,.int .i64 a0_2,.slice A0_3 l0_3.length c0_3] 24 (0,0)) (by (with_reducible repeat (first|refine blk_drewN ?_ _|refine blk_drew ?_|refine blk_alloc ?_ _));exact BK163.out)) : gb164 ≠ gb163));clear BK163;clear HB;have BK163:=n0_;have HB:=n1_;have BK164:=n2_;have GW164:=n3_;have GE164:=n4_;have NB163_164:=n5_;have NB164_163:=n6_;clear n0_ n1_ n2_ n3_ n4_ n5_ n6_;clear hb hbox hg)|((with_reducible refine gate_dst (N:=5) rfl ?_);refine box_event ?hg (N:=5) ?hd (cs:=#[.int .u32 0]) (t:=28) ?hr ?_;(case hd=>rfl);(case hg=>rfl);(case hr=>first|(go_simp;done)|(go_simp;rfl));intro gb165 hg w5 hbox hb;have n0_:=Aside0.mk (blk_below (g:=gb163) (o:=.cells #[.int .i64 a0_0,.int .i64 a0_1,.int .i64 a0_2,.slice A0_3 l0_3.length c0_3] 24 (0,0)) (by (with_reducible repeat (first|refine blk_drewN ?_ _|refine blk_drew ?_|refine blk_alloc ?_ _));exact BK163.out) hb);have n1_:=Aside0.mk (blk_below (g:=gb164) (o:=.cells #[.bool a1] 4 (0,0)) (by (with_reducible repeat (first|refine blk_drewN ?_ _|refine blk_drew ?_|refine blk_alloc ?_ _));exact BK164.out) hb);have n2_:=Aside0.mk (below_step (by repeat (first|(with_reducible first|exact HB.out|apply below_alloc|apply pw_below_drewN|apply below_drew1|refine below_set ?_ GE163.out|refine below_set ?_ GE164.out)|exact HB.out)) hb);have n3_:=Aside0.mk (hbox);have n4_:=Aside0.mk ((by rw [hg];exact (below_size (by repeat (first|(with_reducible first|exact HB.out|apply below_alloc|apply pw_below_drewN|apply below_drew1|refine below_set ?_ GE163.out|refine below_set ?_ GE164.out)|exact HB.out))) : w.heap.size ≤ gb165));have n5_:=Aside0.mk ((by rw [hg];exact (below_size (by repeat (first|(with_reducible first|exact HB.out|apply below_alloc|apply pw_below_drewN|apply below_drew1|refine below_set ?_ GE163.out|refine below_set ?_ GE164.out)|exact HB.out))) : w.heap.size ≤ gb165));have n6_:=Aside0.mk ((by rw [hg];exact Nat.ne_of_lt (blk_lt (g:=gb163) (o:=.cells #[.int .i64 a0_0,.int .i64 a0_1,.int .i64 a0_2,.slice A0_3 l0_3.length c0_3] 24 (0,0)) (by (with_reducible repeat (first|refine blk_drewN ?_ _|refine blk_drew ?_|refine blk_alloc ?_ _));exact BK163.out)) : gb163 ≠ gb165));have n7_:=Aside0.mk ((by rw [hg];exact Nat.ne_of_gt (blk_lt (g:=gb163) (o:=.cells #[.int .i64 a0_0,.int .i64 a0_1,.int .i64 a0_2,.slice A0_3 l0_3.length c0_3] 24 (0,0)) (by (with_reducible repeat (first|refine blk_drewN ?_ _|refine blk_drew ?_|refine blk_alloc ?_ _));exact BK163.out)) : gb165 ≠ gb163));have n8_:=Aside0.mk ((by rw [hg];exact Nat.ne_of_lt (blk_lt (g:=gb164) (o:=.cells #[.bool a1] 4 (0,0)) (by (with_reducible repeat (first|refine blk_drewN ?_ _|refine blk_drew ?_|refine blk_alloc ?_ _));exact BK164.out)) : gb164 ≠ gb165));have n9_:=Aside0.mk ((by rw [hg];exact Nat.ne_of_gt (blk_lt (g:=gb164) (o:=.cells #[.bool a1] 4 (0,0)) (by (with_reducible repeat (first|refine blk_drewN ?_ _|refine blk_drew ?_|refine blk_alloc ?_ _));exact BK164.out)) : gb165 ≠ gb164));clear BK163;clear BK164;clear HB;have BK163:=n0_;have BK164:=n1_;have HB:=n2_;have BK165:=n3_;have GW165:=n4_;have GE165:=n5_;have NB163_165:=n6_;have NB165_163:=n7_;have NB164_165:=n8_;have NB165_164:=n9_;clear n0_ n1_ n2_ n3_ n4_ n5_ n6_ n7_ n8_ n9_;clear hb hbox hg;have hnb6:=NB165_163.out;have hnc6:=NB163_165.out;have hnb7:=NB165_164.out;have hnc7:=NB164_165.out;have hcz8_0 : w5.cell? ⟨gb165,0,none⟩ = some (.int .u32 0):=(blk_cell BK165.out 0).trans rfl;have hfz8_0:=blk_frozen BK165.out 0;have hnb9:=NB163_164.out;have hnc9:=NB164_163.out;have hcz10_0 : w5.cell? ⟨gb163,0,none⟩ = some (.int .i64 a0_0):=(blk_cell BK163.out 0).trans rfl;have hcz10_1 : w5.cell? ⟨gb163,1,none⟩ = some (.int .i64 a0_1):=(blk_cell BK163.out 1).trans rfl;have hcz10_2 : w5.cell? ⟨gb163,2,none⟩ = some (.int .i64 a0_2):=(blk_cell BK163.out 2).trans rfl;have hcz10_3 : w5.cell? ⟨gb163,3,none⟩ = some (.slice A0_3 l0_3.length c0_3):=(blk_cell BK163.out 3).trans rfl;have hfz10_0:=blk_frozen BK163.out 0;have hfz10_1:=blk_frozen BK163.out 1;have hfz10_2:=blk_frozen BK163.out 2;have hfz10_3:=blk_frozen BK163.out 3))
 go_loopg [11] k (fun kq v11 w'=>∃ (x11_1 : Int) (x166000_1 : Int),v11 = .int .i64 x11_1 ∧ Aside0 (grammar_Least.l0 kq a0_1 x11_1 a0_0 a0_1 a0_2 l0_3 a1 x166000_1 = some r) ∧ Aside0 (kq ≤ k) ∧ Aside0 (w'.heap[gb163]? = some (.cells #[.int .i64 a0_0,.int .i64 a0_1,.int .i64 a0_2,(.slice A0_3 l0_3.length c0_3)] 24 (0,0))) ∧ Aside0 (w'.heap[gb164]? = some (.cells #[.bool a1] 4 (0,0))) ∧ Aside0 (w'.heap[gb165]? = some (.cells #[.int .u32 x166000_1] 28 (0,0))) ∧ Aside0 (Below w.heap.size w w'))
 case atStart=>exact ⟨(0),(0),(by first|rfl|(simp;done)|(simp [*];done)),H',⟨Nat.le_refl _⟩,⟨by (with_reducible repeat (first|refine blk_drewN ?_ _|refine blk_drew ?_|refine blk_alloc ?_ _));refine blk_far ?_ NB163_165.out _;(with_reducible repeat (first|refine blk_drewN ?_ _|refine blk_drew ?_|refine blk_alloc ?_ _));exact BK163.out⟩,⟨by (with_reducible repeat (first|refine blk_drewN ?_ _|refine blk_drew ?_|refine blk_alloc ?_ _));refine blk_far ?_ NB164_165.out _;(with_reducible repeat (first|refine blk_drewN ?_ _|refine blk_drew ?_|refine blk_alloc ?_ _));exact BK164.out⟩,⟨by (with_reducible repeat (first|refine blk_drewN ?_ _|refine blk_drew ?_|refine blk_alloc ?_ _));refine blk_put (cs:=#[.int .u32 0]) ?_ 0 _ rfl;(with_reducible repeat (first|refine blk_drewN ?_ _|refine blk_drew ?_|refine blk_alloc ?_ _));exact BK165.out⟩,⟨by repeat (first|(with_reducible first|exact HB.out|apply below_alloc|apply pw_below_drewN|apply below_drew1|refine below_set ?_ GE163.out|refine below_set ?_ GE164.out|refine below_set ?_ GE165.out)|exact HB.out)⟩⟩
 case round =>
  clear H'
  try clear p2
  try clear c4
  try clear c6
  try clear c7
  try clear c9
  try clear hcz10_0
  try clear hcz10_1
  try clear hcz10_2
  try clear hcz10_3
  try clear hcz8_0
  try clear hfz10_0
  try clear hfz10_1
  try clear hfz10_2
  try clear hfz10_3
  try clear hfz8_0
  obtain ⟨x11_1,x166000_1,rfl,HA,HK1,BK163,BK164,BK165,HB⟩:=hrel
  cases gk with
  | zero=>exact absurd HA.out (by simp [grammar_Least.l0])
  | succ k1 =>
   have H:=HA.out
   clear HA
   simp only [grammar_Least.l0] at H
   by_cases c11 : x11_1 < a0_1
   ·rw [if_pos c11] at H
    have c11b0 : decide (x11_1 < a0_1) = true:=decide_eq_true c11
    clear c11
    have H':=Aside0.mk H
    clear H
    have hnb12:=NB163_164.out
    have hnc12:=NB164_163.out
    have hnb13:=NB163_165.out
    have hnc13:=NB165_163.out
    have hcz14_0 : wr.cell? ⟨gb163,0,none⟩ = some (.int .i64 a0_0):=(blk_cell BK163.out 0).trans rfl
    have hcz14_1 : wr.cell? ⟨gb163,1,none⟩ = some (.int .i64 a0_1):=(blk_cell BK163.out 1).trans rfl
    have hcz14_2 : wr.cell? ⟨gb163,2,none⟩ = some (.int .i64 a0_2):=(blk_cell BK163.out 2).trans rfl
    have hcz14_3 : wr.cell? ⟨gb163,3,none⟩ = some (.slice A0_3 l0_3.length c0_3):=(blk_cell BK163.out 3).trans rfl
    have hfz14_0:=blk_frozen BK163.out 0
    have hfz14_1:=blk_frozen BK163.out 1
    have hfz14_2:=blk_frozen BK163.out 2
    have hfz14_3:=blk_frozen BK163.out 3
    go_wp2
    go_loopg [16] k1 (fun kq v16 w'=>∃ (x16_2 : Int) (x166000_2 : Int),v16 = .int .i64 x16_2 ∧ Aside0 (grammar_Least.l1 kq a0_1 x11_1 l0_3 (l0_3.length : Int) x16_2 a0_0 a0_1 a0_2 l0_3 a1 x166000_2 = some r) ∧ Aside0 (kq ≤ k1) ∧ Aside0 (w'.heap[gb163]? = some (.cells #[.int .i64 a0_0,.int .i64 a0_1,.int .i64 a0_2,(.slice A0_3 l0_3.length c0_3)] 24 (0,0))) ∧ Aside0 (w'.heap[gb164]? = some (.cells #[.bool a1] 4 (0,0))) ∧ Aside0 (w'.heap[gb165]? = some (.cells #[.int .u32 x166000_2] 28 (0,0))) ∧ Aside0 (Below w.heap.size w w'))
    case atStart=>exact ⟨(0),(x166000_1),(by first|rfl|(simp;done)|(simp [*];done)),H',⟨Nat.le_refl _⟩,⟨by (with_reducible repeat (first|refine blk_drewN ?_ _|refine blk_drew ?_|refine blk_alloc ?_ _));exact BK163.out⟩,⟨by (with_reducible repeat (first|refine blk_drewN ?_ _|refine blk_drew ?_|refine blk_alloc ?_ _));exact BK164.out⟩,⟨by (with_reducible repeat (first|refine blk_drewN ?_ _|refine blk_drew ?_|refine blk_alloc ?_ _));exact BK165.out⟩,⟨by repeat (first|(with_reducible first|exact HB.out|apply below_alloc|apply pw_below_drewN|apply below_drew1|refine below_set ?_ GE163.out|refine below_set ?_ GE164.out|refine below_set ?_ GE165.out)|exact HB.out)⟩⟩
    case round =>
     clear H'
     try clear c1
     try clear p2
     try clear c4
     try clear c6
     try clear c7
     try clear c9
     try clear c11
     try clear c11b0
     try clear c12
     try clear c13
     try clear hcz10_0
     try clear hcz10_1
     try clear hcz10_2
     try clear hcz10_3
     try clear hcz14_0
     try clear hcz14_1
     try clear hcz14_2
     try clear hcz14_3
     try clear hcz8_0
     try clear hfz10_0
     try clear hfz10_1
     try clear hfz10_2
     try clear hfz10_3
     try clear hfz14_0
     try clear hfz14_1
     try clear hfz14_2
     try clear hfz14_3
     try clear hfz8_0
     try clear p2
     obtain ⟨x16_2,x166000_2,rfl,HA,HK2,BK163,BK164,BK165,HB⟩:=hrel
     cases gk with
     | zero=>exact absurd HA.out (by simp [grammar_Least.l1])
     | succ k2 =>
      have H:=HA.out
      clear HA
      simp only [grammar_Least.l1] at H
      by_cases c15 : x16_2 < (l0_3.length : Int)
      ·rw [if_pos c15] at H
       have c15b0 : decide (x16_2 < (l0_3.length : Int)) = true:=decide_eq_true c15
       clear c15
       by_cases c16 : 0 ≤ x16_2
       ·rw [if_pos c16] at H
        have c16b0 : decide (0 ≤ x16_2) = true:=decide_eq_true c16
        clear c16
        by_cases c17 : x16_2 < (l0_3.length : Int)
        ·rw [if_pos c17] at H
         have c17b0 : decide (x16_2 < (l0_3.length : Int)) = true:=decide_eq_true c17
         clear c17
         replace H:=Option.bind_eq_some_iff.mp H
         obtain ⟨t168,A180,H⟩:=H
         replace H : (if t168 = true then (grammar_Least.l1 k2 a0_1 x11_1 l0_3 (l0_3.length : Int) (wrap64 (x16_2 + 1)) a0_0 a0_1 a0_2 l0_3 a1 x166000_2) else (if 0 ≤ ((rd_T27 l0_3 x16_2).f0) then (grammar_Least.l1 k2 a0_1 x11_1 l0_3 (l0_3.length : Int) (wrap64 (x16_2 + 1)) a0_0 a0_1 a0_2 l0_3 a1 (Go.bits .or .u32 x166000_2 (shl .u32 1 ((rd_T27 l0_3 x16_2).f0)))) else (none))) = some r:=H
         have A18:=Aside0.mk A180
         clear A180
         by_cases c19 : t168 = true
         ·subst c19
          have H1 : (grammar_Least.l1 k2 a0_1 x11_1 l0_3 (l0_3.length : Int) (wrap64 (x16_2 + 1)) a0_0 a0_1 a0_2 l0_3 a1 x166000_2) = some r:=by rw [if_pos rfl] at H;exact H
          clear H
          have H:=H1
          clear H1
          have H':=Aside0.mk H
          clear H
          have p166 : 0 ≤ (x16_2 : Int):=of_decide_eq_true (by first|(with_reducible assumption)|assumption)
          have q166 : x16_2 < (l0_3.length : Int):=of_decide_eq_true (by first|(with_reducible assumption)|assumption)
          obtain ⟨ad166,A166_1,c166_1,e166,hx166_0,hx166_1,hl166_1,hi166_1⟩:=at_T27 HR0_3.out x16_2 p166 q166
          cases e166
          replace hx166_0:=(HB.out.cell (World.block_lt_of_cell? w _ hx166_0)).trans hx166_0
          replace hx166_1:=(HB.out.cell (World.block_lt_of_cell? w _ hx166_1)).trans hx166_1
          have HR166_1:=Aside0.mk hi166_1
          have HC166_1:=Aside0.mk hl166_1
          clear hi166_1 hl166_1
          replace p166:=eq_true p166
          replace q166:=eq_true q166
          go_wp2_with (first|((with_reducible refine gate_dst (N:=7) rfl ?_);refine box_event ?hg (N:=7) ?hd (cs:=#[.int .i64 0,.slice none 0 0]) (t:=27) ?hr ?_;(case hd=>rfl);(case hg=>rfl);(case hr=>first|(go_simp;done)|(go_simp;rfl));intro gb167 hg w20 hbox hb;have n0_:=Aside0.mk (blk_below (g:=gb163) (o:=.cells #[.int .i64 a0_0,.int .i64 a0_1,.int .i64 a0_2,.slice (some ad166) l0_3.length c0_3] 24 (0,0)) (by (with_reducible repeat (first|refine blk_drewN ?_ _|refine blk_drew ?_|refine blk_alloc ?_ _));exact BK163.out) hb);have n1_:=Aside0.mk (blk_below (g:=gb164) (o:=.cells #[.bool a1] 4 (0,0)) (by (with_reducible repeat (first|refine blk_drewN ?_ _|refine blk_drew ?_|refine blk_alloc ?_ _));exact BK164.out) hb);have n2_:=Aside0.mk (blk_below (g:=gb165) (o:=.cells #[.int .u32 x166000_2] 28 (0,0)) (by (with_reducible repeat (first|refine blk_drewN ?_ _|refine blk_drew ?_|refine blk_alloc ?_ _));exact BK165.out) hb);have n3_:=Aside0.mk (below_step (by repeat (first|(with_reducible first|exact HB.out|apply below_alloc|apply pw_below_drewN|apply below_drew1|refine below_set ?_ GE163.out|refine below_set ?_ GE164.out|refine below_set ?_ GE165.out)|exact HB.out)) hb);have n4_:=Aside0.mk (hbox);have n5_:=Aside0.mk ((by rw [hg];exact (below_size (by repeat (first|(with_reducible first|exact HB.out|apply below_alloc|apply pw_below_drewN|apply below_drew1|refine below_set ?_ GE163.out|refine below_set ?_ GE164.out|refine below_set ?_ GE165.out)|exact HB.out))) : w.heap.size ≤ gb167));have n6_:=Aside0.mk ((by rw [hg];exact (below_size (by repeat (first|(with_reducible first|exact HB.out|apply below_alloc|apply pw_below_drewN|apply below_drew1|refine below_set ?_ GE163.out|refine below_set ?_ GE164.out|refine below_set ?_ GE165.out)|exact HB.out))) : w.heap.size ≤ gb167));have n7_:=Aside0.mk ((by rw [hg];exact Nat.ne_of_lt (blk_lt (g:=gb163) (o:=.cells #[.int .i64 a0_0,.int .i64 a0_1,.int .i64 a0_2,.slice (some ad166) l0_3.length c0_3] 24 (0,0)) (by (with_reducible repeat (first|refine blk_drewN ?_ _|refine blk_drew ?_|refine blk_alloc ?_ _));exact BK163.out)) : gb163 ≠ gb167));have n8_:=Aside0.mk ((by rw [hg];exact Nat.ne_of_gt (blk_lt (g:=gb163) (o:=.cells #[.int .i64 a0_0,.int .i64 a0_1,.int .i64 a0_2,.slice (some ad166) l0_3.length c0_3] 24 (0,0)) (by (with_reducible repeat (first|refine blk_drewN ?_ _|refine blk_drew ?_|refine blk_alloc ?_ _));exact BK163.out)) : gb167 ≠ gb163));have n9_:=Aside0.mk ((by rw [hg];exact Nat.ne_of_lt (blk_lt (g:=gb164) (o:=.cells #[.bool a1] 4 (0,0)) (by (with_reducible repeat (first|refine blk_drewN ?_ _|refine blk_drew ?_|refine blk_alloc ?_ _));exact BK164.out)) : gb164 ≠ gb167));have n10_:=Aside0.mk ((by rw [hg];exact Nat.ne_of_gt (blk_lt (g:=gb164) (o:=.cells #[.bool a1] 4 (0,0)) (by (with_reducible repeat (first|refine blk_drewN ?_ _|refine blk_drew ?_|refine blk_alloc ?_ _));exact BK164.out)) : gb167 ≠ gb164));have n11_:=Aside0.mk ((by rw [hg];exact Nat.ne_of_lt (blk_lt (g:=gb165) (o:=.cells #[.int .u32 x166000_2] 28 (0,0)) (by (with_reducible repeat (first|refine blk_drewN ?_ _|refine blk_drew ?_|refine blk_alloc ?_ _));exact BK165.out)) : gb165 ≠ gb167));have n12_:=Aside0.mk ((by rw [hg];exact Nat.ne_of_gt (blk_lt (g:=gb165) (o:=.cells #[.int .u32 x166000_2] 28 (0,0)) (by (with_reducible repeat (first|refine blk_drewN ?_ _|refine blk_drew ?_|refine blk_alloc ?_ _));exact BK165.out)) : gb167 ≠ gb165));clear BK163;clear BK164;clear BK165;clear HB;have BK163:=n0_;have BK164:=n1_;have BK165:=n2_;have HB:=n3_;have BK167:=n4_;have GW167:=n5_;have GE167:=n6_;have NB163_167:=n7_;have NB167_163:=n8_;have NB164_167:=n9_;have NB167_164:=n10_;have NB165_167:=n11_;have NB167_165:=n12_;clear n0_ n1_ n2_ n3_ n4_ n5_ n6_ n7_ n8_ n9_ n10_ n11_ n12_;clear hb hbox hg;have hnb21:=NB167_163.out;have hnc21:=NB163_167.out;have hnb22:=NB167_164.out;have hnc22:=NB164_167.out;have hnb23:=NB167_165.out;have hnc23:=NB165_167.out;have hcz24_0 : w20.cell? ⟨gb167,0,none⟩ = some (.int .i64 0):=(blk_cell BK167.out 0).trans rfl;have hcz24_1 : w20.cell? ⟨gb167,1,none⟩ = some (.slice none 0 0):=(blk_cell BK167.out 1).trans rfl;have hfz24_0:=blk_frozen BK167.out 0;have hfz24_1:=blk_frozen BK167.out 1)|((with_reducible refine gate_callee (f:=57) rfl ?_);refine goesL_ (some 24) rfl rfl Try.func57 (by kernel_rfl) rfl #[.slice A166_1 ((rd_T27 l0_3 x16_2).f1).length c166_1,.func (.func 78) #[] #[.pointer (some ⟨gb163,0,none⟩),.pointer (some ⟨gb164,0,none⟩),.pointer (some ⟨gb165,0,none⟩)]] rfl (by (try simp only [List.map_toArray,List.map_cons,List.map_nil]);first|done|rfl|(simp only [List.length_drop,List.length_take];rfl)) ?_;(with_reducible refine (grammar_Least_any.calls _ _ ((rd_T27 l0_3 x16_2).f1) gb163 #[.int .i64 a0_0,.int .i64 a0_1,.int .i64 a0_2,.slice (some ad166) l0_3.length c0_3] a0_0 gb164 #[.bool a1] a1 gb165 #[.int .u32 x166000_2] x166000_2 true _ ?side1 ?side2 ?side3 ?side4 ?side5 ?side6 ?side7 ?side8 A18.out).mono ?_);(case side1=>exact Kd.C_below HR166_1.out (by repeat (first|(with_reducible first|exact HB.out|apply below_alloc|apply pw_below_drewN|apply below_drew1|refine below_set ?_ GE163.out|refine below_set ?_ GE164.out|refine below_set ?_ GE165.out|refine below_set ?_ GE167.out)|exact HB.out)));(case side2=>exact HC166_1.out);(case side3=>exact by (with_reducible repeat (first|refine blk_drewN ?_ _|refine blk_drew ?_|refine blk_alloc ?_ _));refine blk_far ?_ NB163_167.out _;(with_reducible repeat (first|refine blk_drewN ?_ _|refine blk_drew ?_|refine blk_alloc ?_ _));refine blk_far ?_ NB163_167.out _;(with_reducible repeat (first|refine blk_drewN ?_ _|refine blk_drew ?_|refine blk_alloc ?_ _));exact BK163.out);(case side4=>rfl);(case side5=>exact by (with_reducible repeat (first|refine blk_drewN ?_ _|refine blk_drew ?_|refine blk_alloc ?_ _));refine blk_far ?_ NB164_167.out _;(with_reducible repeat (first|refine blk_drewN ?_ _|refine blk_drew ?_|refine blk_alloc ?_ _));refine blk_far ?_ NB164_167.out _;(with_reducible repeat (first|refine blk_drewN ?_ _|refine blk_drew ?_|refine blk_alloc ?_ _));exact BK164.out);(case side6=>rfl);(case side7=>exact by (with_reducible repeat (first|refine blk_drewN ?_ _|refine blk_drew ?_|refine blk_alloc ?_ _));refine blk_far ?_ NB165_167.out _;(with_reducible repeat (first|refine blk_drewN ?_ _|refine blk_drew ?_|refine blk_alloc ?_ _));refine blk_far ?_ NB165_167.out _;(with_reducible repeat (first|refine blk_drewN ?_ _|refine blk_drew ?_|refine blk_alloc ?_ _));exact BK165.out);(case side8=>rfl);rintro e w' ⟨rfl,⟨nd,rfl⟩⟩;refine ⟨_,rfl,?_⟩))
          go_roundg k2
          case measure=>have:=HK1.out;have:=HK2.out;omega
          case rel=>exact ⟨(wrap64 (x16_2 + 1)),(x166000_2),(by first|rfl|(simp;done)|(simp [*];done)),H',⟨by have:=HK1.out;have:=HK2.out;omega⟩,⟨by (with_reducible repeat (first|refine blk_drewN ?_ _|refine blk_drew ?_|refine blk_alloc ?_ _));refine blk_far ?_ NB163_167.out _;(with_reducible repeat (first|refine blk_drewN ?_ _|refine blk_drew ?_|refine blk_alloc ?_ _));refine blk_far ?_ NB163_167.out _;(with_reducible repeat (first|refine blk_drewN ?_ _|refine blk_drew ?_|refine blk_alloc ?_ _));exact BK163.out⟩,⟨by (with_reducible repeat (first|refine blk_drewN ?_ _|refine blk_drew ?_|refine blk_alloc ?_ _));refine blk_far ?_ NB164_167.out _;(with_reducible repeat (first|refine blk_drewN ?_ _|refine blk_drew ?_|refine blk_alloc ?_ _));refine blk_far ?_ NB164_167.out _;(with_reducible repeat (first|refine blk_drewN ?_ _|refine blk_drew ?_|refine blk_alloc ?_ _));exact BK164.out⟩,⟨by (with_reducible repeat (first|refine blk_drewN ?_ _|refine blk_drew ?_|refine blk_alloc ?_ _));refine blk_far ?_ NB165_167.out _;(with_reducible repeat (first|refine blk_drewN ?_ _|refine blk_drew ?_|refine blk_alloc ?_ _));refine blk_far ?_ NB165_167.out _;(with_reducible repeat (first|refine blk_drewN ?_ _|refine blk_drew ?_|refine blk_alloc ?_ _));exact BK165.out⟩,⟨by repeat (first|(with_reducible first|exact HB.out|apply below_alloc|apply pw_below_drewN|apply below_drew1|refine below_set ?_ GE163.out|refine below_set ?_ GE164.out|refine below_set ?_ GE165.out|refine below_set ?_ GE167.out)|exact HB.out)⟩⟩
         ·replace c19:=Bool.eq_false_iff.mpr c19
          subst c19
          have H1 : (if 0 ≤ ((rd_T27 l0_3 x16_2).f0) then (grammar_Least.l1 k2 a0_1 x11_1 l0_3 (l0_3.length : Int) (wrap64 (x16_2 + 1)) a0_0 a0_1 a0_2 l0_3 a1 (Go.bits .or .u32 x166000_2 (shl .u32 1 ((rd_T27 l0_3 x16_2).f0)))) else (none)) = some r:=by rw [if_neg (show ¬ (false = true) by decide)] at H;exact H
          clear H
          have H:=H1
          clear H1
          by_cases c25 : 0 ≤ ((rd_T27 l0_3 x16_2).f0)
          ·rw [if_pos c25] at H
           have c25b0:=eq_true c25
           have c25b1 : decide (0 ≤ ((rd_T27 l0_3 x16_2).f0)) = true:=decide_eq_true c25
           clear c25
           obtain ⟨ji26,hji26⟩ : ∃ j_ : Int,(shl .u32 1 ((rd_T27 l0_3 x16_2).f0)) = j_:=⟨_,rfl⟩
           replace H : (grammar_Least.l1 k2 a0_1 x11_1 l0_3 (l0_3.length : Int) (wrap64 (x16_2 + 1)) a0_0 a0_1 a0_2 l0_3 a1 (Go.bits .or .u32 x166000_2 (ji26))) = some r:=by first|(rw [hji26] at H;exact H)|(simp only [hji26] at H ⊢;exact H)
           (try rw [hji26] at A18)
           have hji26_ : (IntKind.u32.wrap (1 * 2 ^ min ((rd_T27 l0_3 x16_2).f0).toNat 32)) = ji26:=hji26
           have hji26z : ((rd_T27 l0_3 x16_2).f0) ≤ 32 → (IntKind.u32.wrap (1 * 2 ^ ((rd_T27 l0_3 x16_2).f0).toNat)) = ji26:=shl_small hji26
           have hji26u : (IntKind.u32.wrap (2 ^ min ((rd_T27 l0_3 x16_2).f0).toNat 32)) = ji26:=by have h_:=hji26_;rw [Int.one_mul] at h_;exact h_
           have hji26v : ((rd_T27 l0_3 x16_2).f0) ≤ 32 → (IntKind.u32.wrap (2 ^ ((rd_T27 l0_3 x16_2).f0).toNat)) = ji26:=fun hle_=>by have h_:=hji26z hle_;rw [Int.one_mul] at h_;exact h_
           have H':=Aside0.mk H
           clear H
           have p166 : 0 ≤ (x16_2 : Int):=of_decide_eq_true (by first|(with_reducible assumption)|assumption)
           have q166 : x16_2 < (l0_3.length : Int):=of_decide_eq_true (by first|(with_reducible assumption)|assumption)
           obtain ⟨ad166,A166_1,c166_1,e166,hx166_0,hx166_1,hl166_1,hi166_1⟩:=at_T27 HR0_3.out x16_2 p166 q166
           cases e166
           replace hx166_0:=(HB.out.cell (World.block_lt_of_cell? w _ hx166_0)).trans hx166_0
           replace hx166_1:=(HB.out.cell (World.block_lt_of_cell? w _ hx166_1)).trans hx166_1
           have HR166_1:=Aside0.mk hi166_1
           have HC166_1:=Aside0.mk hl166_1
           clear hi166_1 hl166_1
           replace p166:=eq_true p166
           replace q166:=eq_true q166
           try go_wp2_with (first|((with_reducible refine gate_dst (N:=7) rfl ?_);refine box_event ?hg (N:=7) ?hd (cs:=#[.int .i64 0,.slice none 0 0]) (t:=27) ?hr ?_;(case hd=>rfl);(case hg=>rfl);(case hr=>first|(go_simp;done)|(go_simp;rfl));intro gb167 hg w27 hbox hb;have n0_:=Aside0.mk (blk_below (g:=gb163) (o:=.cells #[.int .i64 a0_0,.int .i64 a0_1,.int .i64 a0_2,.slice (some ad166) l0_3.length c0_3] 24 (0,0)) (by (with_reducible repeat (first|refine blk_drewN ?_ _|refine blk_drew ?_|refine blk_alloc ?_ _));exact BK163.out) hb);have n1_:=Aside0.mk (blk_below (g:=gb164) (o:=.cells #[.bool a1] 4 (0,0)) (by (with_reducible repeat (first|refine blk_drewN ?_ _|refine blk_drew ?_|refine blk_alloc ?_ _));exact BK164.out) hb);have n2_:=Aside0.mk (blk_below (g:=gb165) (o:=.cells #[.int .u32 x166000_2] 28 (0,0)) (by (with_reducible repeat (first|refine blk_drewN ?_ _|refine blk_drew ?_|refine blk_alloc ?_ _));exact BK165.out) hb);have n3_:=Aside0.mk (below_step (by repeat (first|(with_reducible first|exact HB.out|apply below_alloc|apply pw_below_drewN|apply below_drew1|refine below_set ?_ GE163.out|refine below_set ?_ GE164.out|refine below_set ?_ GE165.out)|exact HB.out)) hb);have n4_:=Aside0.mk (hbox);have n5_:=Aside0.mk ((by rw [hg];exact (below_size (by repeat (first|(with_reducible first|exact HB.out|apply below_alloc|apply pw_below_drewN|apply below_drew1|refine below_set ?_ GE163.out|refine below_set ?_ GE164.out|refine below_set ?_ GE165.out)|exact HB.out))) : w.heap.size ≤ gb167));have n6_:=Aside0.mk ((by rw [hg];exact (below_size (by repeat (first|(with_reducible first|exact HB.out|apply below_alloc|apply pw_below_drewN|apply below_drew1|refine below_set ?_ GE163.out|refine below_set ?_ GE164.out|refine below_set ?_ GE165.out)|exact HB.out))) : w.heap.size ≤ gb167));have n7_:=Aside0.mk ((by rw [hg];exact Nat.ne_of_lt (blk_lt (g:=gb163) (o:=.cells #[.int .i64 a0_0,.int .i64 a0_1,.int .i64 a0_2,.slice (some ad166) l0_3.length c0_3] 24 (0,0)) (by (with_reducible repeat (first|refine blk_drewN ?_ _|refine blk_drew ?_|refine blk_alloc ?_ _));exact BK163.out)) : gb163 ≠ gb167));have n8_:=Aside0.mk ((by rw [hg];exact Nat.ne_of_gt (blk_lt (g:=gb163) (o:=.cells #[.int .i64 a0_0,.int .i64 a0_1,.int .i64 a0_2,.slice (some ad166) l0_3.length c0_3] 24 (0,0)) (by (with_reducible repeat (first|refine blk_drewN ?_ _|refine blk_drew ?_|refine blk_alloc ?_ _));exact BK163.out)) : gb167 ≠ gb163));have n9_:=Aside0.mk ((by rw [hg];exact Nat.ne_of_lt (blk_lt (g:=gb164) (o:=.cells #[.bool a1] 4 (0,0)) (by (with_reducible repeat (first|refine blk_drewN ?_ _|refine blk_drew ?_|refine blk_alloc ?_ _));exact BK164.out)) : gb164 ≠ gb167));have n10_:=Aside0.mk ((by rw [hg];exact Nat.ne_of_gt (blk_lt (g:=gb164) (o:=.cells #[.bool a1] 4 (0,0)) (by (with_reducible repeat (first|refine blk_drewN ?_ _|refine blk_drew ?_|refine blk_alloc ?_ _));exact BK164.out)) : gb167 ≠ gb164));have n11_:=Aside0.mk ((by rw [hg];exact Nat.ne_of_lt (blk_lt (g:=gb165) (o:=.cells #[.int .u32 x166000_2] 28 (0,0)) (by (with_reducible repeat (first|refine blk_drewN ?_ _|refine blk_drew ?_|refine blk_alloc ?_ _));exact BK165.out)) : gb165 ≠ gb167));have n12_:=Aside0.mk ((by rw [hg];exact Nat.ne_of_gt (blk_lt (g:=gb165) (o:=.cells #[.int .u32 x166000_2] 28 (0,0)) (by (with_reducible repeat (first|refine blk_drewN ?_ _|refine blk_drew ?_|refine blk_alloc ?_ _));exact BK165.out)) : gb167 ≠ gb165));clear BK163;clear BK164;clear BK165;clear HB;have BK163:=n0_;have BK164:=n1_;have BK165:=n2_;have HB:=n3_;have BK167:=n4_;have GW167:=n5_;have GE167:=n6_;have NB163_167:=n7_;have NB167_163:=n8_;have NB164_167:=n9_;have NB167_164:=n10_;have NB165_167:=n11_;have NB167_165:=n12_;clear n0_ n1_ n2_ n3_ n4_ n5_ n6_ n7_ n8_ n9_ n10_ n11_ n12_;clear hb hbox hg;have hnb28:=NB167_163.out;have hnc28:=NB163_167.out;have hnb29:=NB167_164.out;have hnc29:=NB164_167.out;have hnb30:=NB167_165.out;have hnc30:=NB165_167.out;have hcz31_0 : w27.cell? ⟨gb167,0,none⟩ = some (.int .i64 0):=(blk_cell BK167.out 0).trans rfl;have hcz31_1 : w27.cell? ⟨gb167,1,none⟩ = some (.slice none 0 0):=(blk_cell BK167.out 1).trans rfl;have hfz31_0:=blk_frozen BK167.out 0;have hfz31_1:=blk_frozen BK167.out 1)|((with_reducible refine gate_callee (f:=57) rfl ?_);refine goesL_ (some 24) rfl rfl Try.func57 (by kernel_rfl) rfl #[.slice A166_1 ((rd_T27 l0_3 x16_2).f1).length c166_1,.func (.func 78) #[] #[.pointer (some ⟨gb163,0,none⟩),.pointer (some ⟨gb164,0,none⟩),.pointer (some ⟨gb165,0,none⟩)]] rfl (by (try simp only [List.map_toArray,List.map_cons,List.map_nil]);first|done|rfl|(simp only [List.length_drop,List.length_take];rfl)) ?_;(with_reducible refine (grammar_Least_any.calls _ _ ((rd_T27 l0_3 x16_2).f1) gb163 #[.int .i64 a0_0,.int .i64 a0_1,.int .i64 a0_2,.slice (some ad166) l0_3.length c0_3] a0_0 gb164 #[.bool a1] a1 gb165 #[.int .u32 x166000_2] x166000_2 false _ ?side1 ?side2 ?side3 ?side4 ?side5 ?side6 ?side7 ?side8 A18.out).mono ?_);(case side1=>exact Kd.C_below HR166_1.out (by repeat (first|(with_reducible first|exact HB.out|apply below_alloc|apply pw_below_drewN|apply below_drew1|refine below_set ?_ GE163.out|refine below_set ?_ GE164.out|refine below_set ?_ GE165.out|refine below_set ?_ GE167.out)|exact HB.out)));(case side2=>exact HC166_1.out);(case side3=>exact by (with_reducible repeat (first|refine blk_drewN ?_ _|refine blk_drew ?_|refine blk_alloc ?_ _));refine blk_far ?_ NB163_167.out _;(with_reducible repeat (first|refine blk_drewN ?_ _|refine blk_drew ?_|refine blk_alloc ?_ _));refine blk_far ?_ NB163_167.out _;(with_reducible repeat (first|refine blk_drewN ?_ _|refine blk_drew ?_|refine blk_alloc ?_ _));exact BK163.out);(case side4=>rfl);(case side5=>exact by (with_reducible repeat (first|refine blk_drewN ?_ _|refine blk_drew ?_|refine blk_alloc ?_ _));refine blk_far ?_ NB164_167.out _;(with_reducible repeat (first|refine blk_drewN ?_ _|refine blk_drew ?_|refine blk_alloc ?_ _));refine blk_far ?_ NB164_167.out _;(with_reducible repeat (first|refine blk_drewN ?_ _|refine blk_drew ?_|refine blk_alloc ?_ _));exact BK164.out);(case side6=>rfl);(case side7=>exact by (with_reducible repeat (first|refine blk_drewN ?_ _|refine blk_drew ?_|refine blk_alloc ?_ _));refine blk_far ?_ NB165_167.out _;(with_reducible repeat (first|refine blk_drewN ?_ _|refine blk_drew ?_|refine blk_alloc ?_ _));refine blk_far ?_ NB165_167.out _;(with_reducible repeat (first|refine blk_drewN ?_ _|refine blk_drew ?_|refine blk_alloc ?_ _));exact BK165.out);(case side8=>rfl);rintro e w' ⟨rfl,⟨nd,rfl⟩⟩;refine ⟨_,rfl,?_⟩))
           have n0_ : Aside0 (((w27.setCell ⟨gb167,0,none⟩ (.int .i64 ((rd_T27 l0_3 x16_2).f0))).setCell ⟨gb167,1,none⟩ (.slice A166_1 ((rd_T27 l0_3 x16_2).f1).length c166_1)).heap[gb163]? = some (.cells #[.int .i64 a0_0,.int .i64 a0_1,.int .i64 a0_2,.slice (some ad166) l0_3.length c0_3] 24 (0,0))):=⟨by (with_reducible repeat (first|refine blk_drewN ?_ _|refine blk_drew ?_|refine blk_alloc ?_ _));refine blk_far ?_ NB163_167.out _;(with_reducible repeat (first|refine blk_drewN ?_ _|refine blk_drew ?_|refine blk_alloc ?_ _));refine blk_far ?_ NB163_167.out _;(with_reducible repeat (first|refine blk_drewN ?_ _|refine blk_drew ?_|refine blk_alloc ?_ _));exact BK163.out⟩
           have n1_ : Aside0 (((w27.setCell ⟨gb167,0,none⟩ (.int .i64 ((rd_T27 l0_3 x16_2).f0))).setCell ⟨gb167,1,none⟩ (.slice A166_1 ((rd_T27 l0_3 x16_2).f1).length c166_1)).heap[gb164]? = some (.cells #[.bool a1] 4 (0,0))):=⟨by (with_reducible repeat (first|refine blk_drewN ?_ _|refine blk_drew ?_|refine blk_alloc ?_ _));refine blk_far ?_ NB164_167.out _;(with_reducible repeat (first|refine blk_drewN ?_ _|refine blk_drew ?_|refine blk_alloc ?_ _));refine blk_far ?_ NB164_167.out _;(with_reducible repeat (first|refine blk_drewN ?_ _|refine blk_drew ?_|refine blk_alloc ?_ _));exact BK164.out⟩
           have n2_ : Aside0 (((w27.setCell ⟨gb167,0,none⟩ (.int .i64 ((rd_T27 l0_3 x16_2).f0))).setCell ⟨gb167,1,none⟩ (.slice A166_1 ((rd_T27 l0_3 x16_2).f1).length c166_1)).heap[gb165]? = some (.cells #[.int .u32 x166000_2] 28 (0,0))):=⟨by (with_reducible repeat (first|refine blk_drewN ?_ _|refine blk_drew ?_|refine blk_alloc ?_ _));refine blk_far ?_ NB165_167.out _;(with_reducible repeat (first|refine blk_drewN ?_ _|refine blk_drew ?_|refine blk_alloc ?_ _));refine blk_far ?_ NB165_167.out _;(with_reducible repeat (first|refine blk_drewN ?_ _|refine blk_drew ?_|refine blk_alloc ?_ _));exact BK165.out⟩
           have n3_ : Aside0 (((w27.setCell ⟨gb167,0,none⟩ (.int .i64 ((rd_T27 l0_3 x16_2).f0))).setCell ⟨gb167,1,none⟩ (.slice A166_1 ((rd_T27 l0_3 x16_2).f1).length c166_1)).heap[gb167]? = some (.cells #[.int .i64 ((rd_T27 l0_3 x16_2).f0),.slice A166_1 ((rd_T27 l0_3 x16_2).f1).length c166_1] 27 (0,0))):=⟨by (with_reducible repeat (first|refine blk_drewN ?_ _|refine blk_drew ?_|refine blk_alloc ?_ _));refine blk_put (cs:=#[.int .i64 ((rd_T27 l0_3 x16_2).f0),.slice none 0 0]) ?_ 1 _ rfl;(with_reducible repeat (first|refine blk_drewN ?_ _|refine blk_drew ?_|refine blk_alloc ?_ _));refine blk_put (cs:=#[.int .i64 0,.slice none 0 0]) ?_ 0 _ rfl;(with_reducible repeat (first|refine blk_drewN ?_ _|refine blk_drew ?_|refine blk_alloc ?_ _));exact BK167.out⟩
           have n4_ : Aside0 (Below w.heap.size w ((w27.setCell ⟨gb167,0,none⟩ (.int .i64 ((rd_T27 l0_3 x16_2).f0))).setCell ⟨gb167,1,none⟩ (.slice A166_1 ((rd_T27 l0_3 x16_2).f1).length c166_1))):=⟨by repeat (first|(with_reducible first|exact HB.out|apply below_alloc|apply pw_below_drewN|apply below_drew1|refine below_set ?_ GE163.out|refine below_set ?_ GE164.out|refine below_set ?_ GE165.out|refine below_set ?_ GE167.out)|exact HB.out)⟩
           (try clear BK163)
           (try clear BK164)
           (try clear BK165)
           (try clear BK167)
           (try clear HB)
           generalize ((w27.setCell ⟨gb167,0,none⟩ (.int .i64 ((rd_T27 l0_3 x16_2).f0))).setCell ⟨gb167,1,none⟩ (.slice A166_1 ((rd_T27 l0_3 x16_2).f1).length c166_1)) = w32 at n0_ n1_ n2_ n3_ n4_ ⊢
           have BK163:=n0_
           have BK164:=n1_
           have BK165:=n2_
           have BK167:=n3_
           have HB:=n4_
           clear n0_ n1_ n2_ n3_ n4_
           (try (rw [drewN_self w32];generalize hq_ : World.drewN w32 _ = w32;have n0_ : Aside0 (w32.heap[gb163]? = some (.cells #[.int .i64 a0_0,.int .i64 a0_1,.int .i64 a0_2,.slice (some ad166) l0_3.length c0_3] 24 (0,0))):=⟨by rw [← hq_];exact (by (with_reducible repeat (first|refine blk_drewN ?_ _|refine blk_drew ?_|refine blk_alloc ?_ _));exact BK163.out)⟩;have n1_ : Aside0 (w32.heap[gb164]? = some (.cells #[.bool a1] 4 (0,0))):=⟨by rw [← hq_];exact (by (with_reducible repeat (first|refine blk_drewN ?_ _|refine blk_drew ?_|refine blk_alloc ?_ _));exact BK164.out)⟩;have n2_ : Aside0 (w32.heap[gb165]? = some (.cells #[.int .u32 x166000_2] 28 (0,0))):=⟨by rw [← hq_];exact (by (with_reducible repeat (first|refine blk_drewN ?_ _|refine blk_drew ?_|refine blk_alloc ?_ _));exact BK165.out)⟩;have n3_ : Aside0 (w32.heap[gb167]? = some (.cells #[.int .i64 ((rd_T27 l0_3 x16_2).f0),.slice A166_1 ((rd_T27 l0_3 x16_2).f1).length c166_1] 27 (0,0))):=⟨by rw [← hq_];exact (by (with_reducible repeat (first|refine blk_drewN ?_ _|refine blk_drew ?_|refine blk_alloc ?_ _));exact BK167.out)⟩;have n4_ : Aside0 (Below w.heap.size w w32):=⟨by rw [← hq_];exact (by repeat (first|(with_reducible first|exact HB.out|apply below_alloc|apply pw_below_drewN|apply below_drew1|refine below_set ?_ GE163.out|refine below_set ?_ GE164.out|refine below_set ?_ GE165.out|refine below_set ?_ GE167.out)|exact HB.out))⟩;clear BK163 BK164 BK165 BK167 HB hq_;have BK163:=n0_;have BK164:=n1_;have BK165:=n2_;have BK167:=n3_;have HB:=n4_;clear n0_ n1_ n2_ n3_ n4_))
           have n0_:=Aside0.mk (blk_drew BK163.out)
           have n1_:=Aside0.mk (blk_drew BK164.out)
           have n2_:=Aside0.mk (blk_drew BK165.out)
           have n3_:=Aside0.mk (blk_drew BK167.out)
           have n4_:=Aside0.mk (below_drew1 HB.out)
           clear BK163
           clear BK164
           clear BK165
           clear BK167
           clear HB
           have BK163:=n0_
           have BK164:=n1_
           have BK165:=n2_
           have BK167:=n3_
           have HB:=n4_
           clear n0_ n1_ n2_ n3_ n4_
           refine start_ (n:=6) (S:=fun w'=>w'.cell? ⟨gb165,0,none⟩ = some (.int .u32 x166000_2) ∧ w'.cell? ⟨gb167,0,none⟩ = some (.int .i64 ((rd_T27 l0_3 x16_2).f0)) ∧ w'.cell? ⟨gb167,1,none⟩ = some (.slice A166_1 ((rd_T27 l0_3 x16_2).f1).length c166_1)) (ds:=[5]) #[false,false,false,false,false,false] (by kernel_rfl) rfl rfl ⟨(blk_cell BK165.out 0).trans rfl,(blk_cell BK167.out 0).trans rfl,(blk_cell BK167.out 1).trans rfl⟩ (fun hHeld=>?_)
           generalize w32.drew = w33 at BK163 BK164 BK165 BK167 HB hHeld ⊢
           refine pure_ (i:=1) (N:=some 27) (v:=?_) (a':=?_) #[false,true,false,false,false,false] rfl rfl (by kernel_rfl) (fun _ _ _ h=>h) (Or.inl ⟨by rfl,?_⟩) ?_ ?_
           rotate_left
           ·intro w'
            go_simp
            with_reducible rfl
           rotate_left
           ·simp only [Act.put,List.setIfInBounds_toArray,List.set_cons_zero,List.set_cons_succ,i64_w,i32_w]
            rfl
           refine take_ (i:=0) (N:=some 26) (v:=?_) (a':=?_) #[true,true,false,false,false,false] rfl rfl (by kernel_rfl) (fun _ _ _ h=>h) (Or.inl ⟨by rfl,?_⟩) hHeld ?_ ?_
           rotate_left
           ·rintro w' ⟨s0,s1,s2⟩
            go_simp
            with_reducible rfl
           rotate_left
           ·simp only [Act.put,List.setIfInBounds_toArray,List.set_cons_zero,List.set_cons_succ,i64_w,i32_w]
            rfl
           refine take_ (i:=2) (N:=some 28) (v:=?_) (a':=?_) #[true,true,true,false,false,false] rfl rfl (by kernel_rfl) (fun _ _ _ h=>h) (Or.inl ⟨by rfl,?_⟩) hHeld ?_ ?_
           rotate_left
           ·rintro w' ⟨s0,s1,s2⟩
            go_simp
            with_reducible rfl
           rotate_left
           ·simp only [Act.put,List.setIfInBounds_toArray,List.set_cons_zero,List.set_cons_succ,i64_w,i32_w]
            rfl
           refine pure_ (i:=3) (N:=some 29) (v:=?_) (a':=?_) #[true,true,true,true,false,false] rfl rfl (by kernel_rfl) (fun _ _ _ h=>h) (Or.inl ⟨by rfl,?_⟩) ?_ ?_
           rotate_left
           ·intro w'
            go_simp
            with_reducible rfl
           rotate_left
           ·simp only [Act.put,List.setIfInBounds_toArray,List.set_cons_zero,List.set_cons_succ,i64_w,i32_w]
            rfl
           refine pure_ (i:=4) (N:=some 30) (v:=?_) (a':=?_) #[true,true,true,true,true,false] rfl rfl (by kernel_rfl) (fun _ _ _ h=>h) (Or.inl ⟨by rfl,?_⟩) ?_ ?_
           rotate_left
           ·intro w'
            go_simp
            with_reducible rfl
           rotate_left
           ·simp only [Act.put,List.setIfInBounds_toArray,List.set_cons_zero,List.set_cons_succ,i64_w,i32_w]
            rfl
           refine last_ (i:=5) (N:=none) #[true,true,true,true,true,true] rfl rfl (by kernel_rfl) (by decide) (fun K hK=>?_)
           have hs34 : w33.cell? ⟨gb165,0,none⟩ = some (.int .u32 x166000_2):=(blk_cell BK165.out 0).trans rfl
           have hfs34:=blk_frozen BK165.out 0
           have hns34_0:=NB163_165.out
           have hns34_1:=NB164_165.out
           have hns34_3:=NB167_165.out
           have hms34_0:=NB165_163.out
           have hms34_1:=NB165_164.out
           have hms34_3:=NB165_167.out
           refine skip_ (w1:=?_) (by rfl) rfl ?_ ?_
           rotate_left
           ·go_simp
            rfl
           refine hK.out _ _ ?_
           clear hK K
           refine done_ (by kernel_rfl) ?_
           try go_wp2
           first|go_roundg k2|((simp only [← hji26]);go_roundg k2)
           case measure=>have:=HK1.out;have:=HK2.out;omega
           case rel=>exact ⟨(wrap64 (x16_2 + 1)),(Go.bits .or .u32 x166000_2 (ji26)),(by first|rfl|(simp;done)|(simp [*];done)),(by first|exact H'|((simp only [hji26]);exact H')|(have h_:=H'.out;simp only [← hji26] at h_ ⊢;exact ⟨h_⟩)),⟨by have:=HK1.out;have:=HK2.out;omega⟩,⟨by (with_reducible repeat (first|refine blk_drewN ?_ _|refine blk_drew ?_|refine blk_alloc ?_ _));refine blk_far ?_ NB163_165.out _;(with_reducible repeat (first|refine blk_drewN ?_ _|refine blk_drew ?_|refine blk_alloc ?_ _));exact BK163.out⟩,⟨by (with_reducible repeat (first|refine blk_drewN ?_ _|refine blk_drew ?_|refine blk_alloc ?_ _));refine blk_far ?_ NB164_165.out _;(with_reducible repeat (first|refine blk_drewN ?_ _|refine blk_drew ?_|refine blk_alloc ?_ _));exact BK164.out⟩,⟨by (with_reducible repeat (first|refine blk_drewN ?_ _|refine blk_drew ?_|refine blk_alloc ?_ _));refine blk_put (cs:=#[.int .u32 x166000_2]) ?_ 0 _ rfl;(with_reducible repeat (first|refine blk_drewN ?_ _|refine blk_drew ?_|refine blk_alloc ?_ _));exact BK165.out⟩,⟨by repeat (first|(with_reducible first|exact HB.out|apply below_alloc|apply pw_below_drewN|apply below_drew1|refine below_set ?_ GE163.out|refine below_set ?_ GE164.out|refine below_set ?_ GE165.out|refine below_set ?_ GE167.out)|exact HB.out)⟩⟩
          ·rw [if_neg c25] at H
           exact absurd H (by simp)
        ·rw [if_neg c17] at H
         exact absurd H (by simp)
       ·rw [if_neg c16] at H
        exact absurd H (by simp)
      ·rw [if_neg c15] at H
       have c15b0 : decide (x16_2 < (l0_3.length : Int)) = false:=decide_eq_false c15
       clear c15
       have H':=Aside0.mk H
       clear H
       go_wp2
       go_roundg k2
       case measure=>have:=HK1.out;have:=HK2.out;omega
       case rel=>exact ⟨(wrap64 (x11_1 + 1)),(x166000_2),(by first|rfl|(simp;done)|(simp [*];done)),H',⟨by have:=HK1.out;have:=HK2.out;omega⟩,⟨by (with_reducible repeat (first|refine blk_drewN ?_ _|refine blk_drew ?_|refine blk_alloc ?_ _));exact BK163.out⟩,⟨by (with_reducible repeat (first|refine blk_drewN ?_ _|refine blk_drew ?_|refine blk_alloc ?_ _));exact BK164.out⟩,⟨by (with_reducible repeat (first|refine blk_drewN ?_ _|refine blk_drew ?_|refine blk_alloc ?_ _));exact BK165.out⟩,⟨by repeat (first|(with_reducible first|exact HB.out|apply below_alloc|apply pw_below_drewN|apply below_drew1|refine below_set ?_ GE163.out|refine below_set ?_ GE164.out|refine below_set ?_ GE165.out)|exact HB.out)⟩⟩
   ·rw [if_neg c11] at H
    have c11b0 : decide (x11_1 < a0_1) = false:=decide_eq_false c11
    clear c11
    obtain rfl:=Option.some.inj H
    have hnb35:=NB165_163.out
    have hnc35:=NB163_165.out
    have hnb36:=NB165_164.out
    have hnc36:=NB164_165.out
    have hcz37_0 : wr.cell? ⟨gb165,0,none⟩ = some (.int .u32 x166000_1):=(blk_cell BK165.out 0).trans rfl
    have hfz37_0:=blk_frozen BK165.out 0
    go_wp2
    go_ret
    exact ⟨by first|rfl|(simp [errW_none,errW_some] <;> rfl)|(simp [*,errW_none,errW_some] <;> rfl),by repeat (first|(with_reducible first|exact HB.out|apply below_alloc|apply pw_below_drewN|apply below_drew1|refine below_set ?_ GE163.out|refine below_set ?_ GE164.out|refine below_set ?_ GE165.out)|exact HB.out)⟩
end Go.Proofs.Ytnkackiocigdoaa.GE
