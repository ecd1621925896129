-- Written by ext.py, a program of this session.
import Derived.Test.YthgiiikjcfhgjaaGV0
import Derived.Test.YthgiiikjcfhgjaaGV1
namespace Go.Proofs.Ythgiiikjcfhgjaa.GV
open Go.RowKit Go.Proofs.YthgiiikjcfhgjaaW.PrintWords Go.Proofs.YthgiiikjcfhgjaaW.PrintLast Go.Proofs.YthgiiikjcfhgjaaW.PrintMore
attribute [local go_sem] max2_int min2_int max_two min_two max_three min_three max_four min_four cellIs_set   -- for this text's walks alone
set_option linter.unusedVariables false
set_option linter.unusedSimpArgs false
/-! ### machine_Check: function 86 -/
def machine_Check_any.f (l0 : List (List Int)) (k : Int) : Option Bool:=some (l0.any fun l=>(l.length : Int) != k)
set_option maxHeartbeats 2000000 in
theorem machine_Check_any.idx (g : Nat) (lb : Array Value) (eg : ∀ args w,(callFunc g args).run Try.prog w = .ok (.enter g args) w) (A : Option Addr) (n c : Nat) (raw : Nat → Value) (p : Nat → Bool) (w : World) (hbig : n ≤ 9223372036854775807) (hc : ∀ j,j < n → ∃ ad,A = some ad ∧ w.cell? (ad.add j) = some (raw j))
  (hp : ∀ W j,j < n → Below w.heap.size w W → Calls Try.prog g (#[raw j] ++ lb) W fun e w'=>e = .returned (.bool (p j)) ∧ ∃ q,w' = W.drewN q) :
  Calls Try.prog 140 #[.slice A n c,.func (.func g) #[] lb] w fun e w'=>(∃ r : Int,e = .returned (.int .i64 r) ∧ (0 ≤ r ↔ ∃ j,j < n ∧ p j = true)) ∧ ∃ q,w' = w.drewN q:=by
 go_enter Try.func140,Try.ntmps140
 go_wp2
 go_loopg [5,8] n (fun gg _ s8 wr=>∃ kk q : Nat,kk ≤ n ∧ n - kk ≤ gg ∧ s8 = .int .i64 kk ∧ wr = w.drewN q ∧ Aside0 (∀ j,j < kk → p j = false))
 case atStart=>exact ⟨0,0,Nat.zero_le _,by omega,rfl,rfl,⟨fun j hj=>absurd hj (Nat.not_lt_zero _)⟩⟩
 case round =>
  obtain ⟨kk,q,hkk,hg,rfl,rfl,A0⟩:=hrel
  by_cases hlt : kk < n
  ·have hltz : (kk : Int) < (n : Int):=by omega
   obtain ⟨ad,rfl,hcell⟩:=hc kk hlt
   have hcall:=fun q=>hp (w.drewN q) kk hlt (pw_below_drewN (Below.refl _ w) q)
   clear hc hp
   obtain ⟨b,off,lab⟩:=ad
   generalize raw kk = y at hcell hcall
   cases hq : p kk with
   | true =>
    rw [hq] at hcall
    go_wp2_with (go_at_fn g;refine (hcall _).mono ?_;rintro e w' ⟨rfl,q',rfl⟩)
    go_ret
    exact ⟨⟨(kk : Int),rfl,⟨fun _=>⟨kk,hlt,hq⟩,fun _=>by omega⟩⟩,_,rfl⟩
   | false =>
    rw [hq] at hcall
    go_wp2_with (go_at_fn g;refine (hcall _).mono ?_;rintro e w' ⟨rfl,q',rfl⟩)
    go_roundg (n - (kk + 1))
    case measure=>omega
    case rel =>
     refine ⟨kk + 1,_,by omega,by omega,by go_num,rfl,⟨fun j hj=>?_⟩⟩
     by_cases e : j = kk
     ·subst e;exact hq
     ·exact A0.out j (by omega)
  ·have hltz : ¬ (kk : Int) < (n : Int):=by omega
   have : kk = n:=by omega
   subst this
   go_wp2
   go_ret
   refine ⟨⟨-1,rfl,⟨fun h=>absurd h (by decide),fun ⟨j,hj,hj2⟩=>?_⟩⟩,q,rfl⟩
   rw [A0.out j hj] at hj2
   exact absurd hj2 (by decide)
set_option maxHeartbeats 2000000 in
theorem machine_Check_any.any (g : Nat) (lb : Array Value) (eg : ∀ args w,(callFunc g args).run Try.prog w = .ok (.enter g args) w) (A : Option Addr) (n c : Nat) (raw : Nat → Value) (p : Nat → Bool) (w : World) (hbig : n ≤ 9223372036854775807) (hc : ∀ j,j < n → ∃ ad,A = some ad ∧ w.cell? (ad.add j) = some (raw j))
  (hp : ∀ W j,j < n → Below w.heap.size w W → Calls Try.prog g (#[raw j] ++ lb) W fun e w'=>e = .returned (.bool (p j)) ∧ ∃ q,w' = W.drewN q) (b : Bool) (hb : b = true ↔ ∃ j,j < n ∧ p j = true) :
  Calls Try.prog 120 #[.slice A n c,.func (.func g) #[] lb] w fun e w'=>e = .returned (.bool b) ∧ ∃ q,w' = w.drewN q:=by
 have hI0:=machine_Check_any.idx g lb eg A n c raw p w hbig hc hp
 have hI:=fun q=>machine_Check_any.idx g lb eg A n c raw p (w.drewN q) hbig (fun j hj=>hc j hj) (fun W j hj hB=>hp W j hj ((pw_below_drewN (Below.refl _ w) q).trans hB))
 clear hc hp
 go_enter Try.func120,Try.ntmps120
 go_wp2_with (go_at_call 140;(first|refine hI0.mono ?_|refine (hI _).mono ?_);rintro e w' ⟨⟨r,rfl,hr⟩,q',rfl⟩)
 go_ret
 refine ⟨?_,_,rfl⟩
 have : decide (0 ≤ r) = b:=by
  rw [Bool.eq_iff_iff,decide_eq_true_iff,hr,hb]
 first|rw [this]|(subst this;rfl)|(simp [← this,hr];done)
theorem machine_Check_any.lit (k : Int) (A : Option Addr) (n c : Nat) (g : Nat) (w : World) (hc : w.cell? ⟨g,1,none⟩ = some (.int .i64 k)) :
  Calls Try.prog 121 #[.slice A n c,.pointer (some ⟨g,0,none⟩)] w fun e w'=>e = .returned (.bool ((n : Int) != k)) ∧ ∃ q,w' = w.drewN q:=by
 go_enter Try.func121,Try.ntmps121
 go_wp2
 go_ret
 first|exact ⟨rfl,_,rfl⟩|exact ⟨rfl,0,rfl⟩
theorem machine_Check_any.calls (A0 : Option Addr) (c0 : Nat) (l0 : List (List Int)) (g : Nat) (cs : Array Value) (k : Int) (r : Bool) (w : World) (hr0 : Kd.C (Kd.slice 3 (Kd.int .i64)) w A0 l0.length l0) (hc0 : l0.length ≤ c0) (hB : w.heap[g]? = some (.cells cs 63 (0,0))) (h1 : cs[1]? = some (.int .i64 k)) (h : machine_Check_any.f l0 k = some r) :
  Calls Try.prog 120 #[.slice A0 l0.length c0,.func (.func 121) #[] #[.pointer (some ⟨g,0,none⟩)]] w fun e w'=>e = .returned (.bool r) ∧ Drawn0 w w':=by
 unfold machine_Check_any.f at h
 have hr:=Option.some.inj h
 have hcell : ∀ kk : Nat,kk < l0.length → ∃ ad,A0 = some ad ∧ ∃ A' c',w.cell? (ad.add kk) = some (.slice A' (l0.getD kk []).length c'):=fun kk hkk=>by
  obtain ⟨ad,cs',e,_,⟨A',c',rfl,_,hC⟩,hcl⟩:=ReadsRow.get_ hr0 [] (kk : Int) (by omega) (by omega)
  have h2:=hcl 0 _ rfl
  rw [show (Kd.slice 3 (Kd.int .i64)).sz = 1 from rfl,Nat.mul_one,Nat.add_zero,Int.toNat_natCast] at h2
  exact ⟨ad,e,A',c',h2⟩
 have hraw : ∃ raw : Nat → Value,∀ kk,kk < l0.length → (∃ A' c',raw kk = .slice A' (l0.getD kk []).length c') ∧ ∃ ad,A0 = some ad ∧ w.cell? (ad.add kk) = some (raw kk):=by
  refine ⟨fun kk=>if h : kk < l0.length then .slice (hcell kk h).choose_spec.2.choose (l0.getD kk []).length (hcell kk h).choose_spec.2.choose_spec.choose else .bool false,fun kk hkk=>?_⟩
  simp only [dif_pos hkk]
  exact ⟨⟨_,_,rfl⟩,_,(hcell kk hkk).choose_spec.1,(hcell kk hkk).choose_spec.2.choose_spec.choose_spec⟩
 obtain ⟨raw,hraw⟩:=hraw
 have hk : w.cell? ⟨g,1,none⟩ = some (.int .i64 k):=(blk_cell hB 1).trans h1
 have hl : l0.length ≤ 9223372036854775807:=hr0.2.1
 refine (machine_Check_any.any 121 #[.pointer (some ⟨g,0,none⟩)] (enters_of Try.func121 (by kernel_rfl) rfl) A0 l0.length c0 raw (fun j=>((l0.getD j []).length : Int) != k) w hl (fun j hj=>(hraw j hj).2) (fun W j hj hb=>?_) r ?_).mono ?_
 ·obtain ⟨A',c',e⟩:=(hraw j hj).1
  rw [e]
  exact machine_Check_any.lit k A' _ c' g W (pw_cell_below hb hk)
 ·rw [← hr,List.any_eq_true]
  constructor
  ·rintro ⟨x,hx,hx2⟩
   obtain ⟨j,hj,rfl⟩:=List.getElem_of_mem hx
   refine ⟨j,hj,?_⟩
   rwa [List.getD_eq_getElem?_getD,List.getElem?_eq_getElem hj]
  ·rintro ⟨j,hj,hj2⟩
   rw [List.getD_eq_getElem?_getD,List.getElem?_eq_getElem hj] at hj2
   exact ⟨_,List.getElem_mem hj,hj2⟩
 ·rintro e w' ⟨rfl,q,rfl⟩
  exact ⟨rfl,⟨⟨q,rfl⟩⟩⟩
mutual
def machine_Check.j0 : Nat → Bool → Int → Int → List (List Int) → Int → Int → Option (Int)
 | 0,_,_,_,_,_,_=>none
 | k + 1,x22,x102000,x102001,x102002,x102003,x102004=>if x22 = true then (some 1) else (if (x102002.length : Int) = x102000 then ((machine_Check_any.f x102002 x102001).bind fun t102=>(machine_Check.j1 k t102 x102000 x102001 x102002 x102003 x102004)) else (machine_Check.j1 k true x102000 x102001 x102002 x102003 x102004))
def machine_Check.j1 : Nat → Bool → Int → Int → List (List Int) → Int → Int → Option (Int)
 | 0,_,_,_,_,_,_=>none
 | k + 1,x34,x102000,x102001,x102002,x102003,x102004=>if x34 = true then (some 3) else ((slices_Concat_int_int.f x102002).bind fun t103=>((some (([x102003] : List Int) : List Int)).bind fun y106=>(if t103.length + y106.length < 17592186044416 then ((some (t103 ++ y106 : List Int)).bind fun y109=>(machine_Check.l0 k y109 (y109.length : Int) 0 x102000 x102001 x102002 x102003 x102004)) else (none))))
def machine_Check.l0 : Nat → List Int → Int → Int → Int → Int → List (List Int) → Int → Int → Option (Int)
 | 0,_,_,_,_,_,_,_,_=>none
 | k + 1,x41,x42,x43,x102000,x102001,x102002,x102003,x102004=>if x43 < x42 then (if 0 ≤ x43 then (if x43 < (x41.length : Int) then (if (rd x41 x43) < 0 then (some 2) else (if (rd x41 x43) ≥ x102000 then (some 2) else (machine_Check.l0 k x41 x42 (wrap64 (x43 + 1)) x102000 x102001 x102002 x102003 x102004))) else (none)) else (none)) else (if 0 ≤ x102000 then (if (shr .u32 x102004 x102000) = 0 then (some 0) else (some 4)) else (none))
end
def machine_Check.f (k : Nat) (a0_0 : Int) (a0_1 : Int) (l0_2 : List (List Int)) (a0_3 : Int) (a0_4 : Int) : Option (Int):=if a0_0 < 1 then (machine_Check.j0 k true a0_0 a0_1 l0_2 a0_3 a0_4) else (if a0_0 > 7 then (machine_Check.j0 k true a0_0 a0_1 l0_2 a0_3 a0_4) else (if a0_1 < 1 then (machine_Check.j0 k true a0_0 a0_1 l0_2 a0_3 a0_4) else (machine_Check.j0 k (decide (a0_1 > 3)) a0_0 a0_1 l0_2 a0_3 a0_4)))
theorem machine_Check.mono_l : ∀ k,(∀ y0 y1 y2 y3 y4 y5,LeO (machine_Check.j0 k y0 y1 y2 y3 y4 y5) (machine_Check.j0 (k + 1) y0 y1 y2 y3 y4 y5)) ∧ (∀ y0 y1 y2 y3 y4 y5,LeO (machine_Check.j1 k y0 y1 y2 y3 y4 y5) (machine_Check.j1 (k + 1) y0 y1 y2 y3 y4 y5)) ∧ (∀ y0 y1 y2 y3 y4 y5 y6 y7,LeO (machine_Check.l0 k y0 y1 y2 y3 y4 y5 y6 y7) (machine_Check.l0 (k + 1) y0 y1 y2 y3 y4 y5 y6 y7))
 | 0=>⟨fun _ _ _ _ _ _ r h=>by simp [machine_Check.j0] at h,fun _ _ _ _ _ _ r h=>by simp [machine_Check.j1] at h,fun _ _ _ _ _ _ _ _ r h=>by simp [machine_Check.l0] at h⟩
 | k + 1=>by
  obtain ⟨ih0,ih1,ih2⟩:=machine_Check.mono_l k
  refine ⟨?_,?_,?_⟩
  ·intro y0 y1 y2 y3 y4 y5
   unfold machine_Check.j0
   repeat' first
   | (with_reducible exact ih0 _ _ _ _ _ _)
   | (with_reducible exact ih1 _ _ _ _ _ _)
   | (with_reducible exact ih2 _ _ _ _ _ _ _ _)
   | (with_reducible exact LeO.refl _)
   | (with_reducible exact LeO.none _)
   | (with_reducible refine LeO.ite ?_ ?_)
   | (with_reducible refine LeO.bind ?_ (fun _=>?_))
   | exact ih0 _ _ _ _ _ _
   | exact ih1 _ _ _ _ _ _
   | exact ih2 _ _ _ _ _ _ _ _
   | exact LeO.none _
   | refine LeO.ite ?_ ?_
   | refine LeO.bind ?_ (fun _=>?_)
  ·intro y0 y1 y2 y3 y4 y5
   unfold machine_Check.j1
   repeat' first
   | (with_reducible exact ih0 _ _ _ _ _ _)
   | (with_reducible exact ih1 _ _ _ _ _ _)
   | (with_reducible exact ih2 _ _ _ _ _ _ _ _)
   | (with_reducible exact LeO.refl _)
   | (with_reducible exact LeO.none _)
   | (with_reducible refine LeO.ite ?_ ?_)
   | (with_reducible refine LeO.bind ?_ (fun _=>?_))
   | exact ih0 _ _ _ _ _ _
   | exact ih1 _ _ _ _ _ _
   | exact ih2 _ _ _ _ _ _ _ _
   | exact LeO.none _
   | refine LeO.ite ?_ ?_
   | refine LeO.bind ?_ (fun _=>?_)
  ·intro y0 y1 y2 y3 y4 y5 y6 y7
   unfold machine_Check.l0
   repeat' first
   | (with_reducible exact ih0 _ _ _ _ _ _)
   | (with_reducible exact ih1 _ _ _ _ _ _)
   | (with_reducible exact ih2 _ _ _ _ _ _ _ _)
   | (with_reducible exact LeO.refl _)
   | (with_reducible exact LeO.none _)
   | (with_reducible refine LeO.ite ?_ ?_)
   | (with_reducible refine LeO.bind ?_ (fun _=>?_))
   | exact ih0 _ _ _ _ _ _
   | exact ih1 _ _ _ _ _ _
   | exact ih2 _ _ _ _ _ _ _ _
   | exact LeO.none _
   | refine LeO.ite ?_ ?_
   | refine LeO.bind ?_ (fun _=>?_)
theorem machine_Check.mono : ∀ a0 a1 a2 a3 a4 k,LeO (machine_Check.f k a0 a1 a2 a3 a4) (machine_Check.f (k + 1) a0 a1 a2 a3 a4):=by
 intro a0 a1 a2 a3 a4 k
 obtain ⟨ih0,ih1,ih2⟩:=machine_Check.mono_l k
 unfold machine_Check.f
 repeat' first
   | (with_reducible exact ih0 _ _ _ _ _ _)
   | (with_reducible exact ih1 _ _ _ _ _ _)
   | (with_reducible exact ih2 _ _ _ _ _ _ _ _)
   | (with_reducible exact LeO.refl _)
   | (with_reducible exact LeO.none _)
   | (with_reducible refine LeO.ite ?_ ?_)
   | (with_reducible refine LeO.bind ?_ (fun _=>?_))
   | exact ih0 _ _ _ _ _ _
   | exact ih1 _ _ _ _ _ _
   | exact ih2 _ _ _ _ _ _ _ _
   | exact LeO.none _
   | refine LeO.ite ?_ ?_
   | refine LeO.bind ?_ (fun _=>?_)
def machine_Check.T5 : Bool × List (List Nat × List Nat):=(true,[([],[]),([0],[0]),([1],[1]),([],[]),([3],[3]),([4],[4]),([2,5,2],[2,5]),([6],[6]),([],[])])
def machine_Check.B5 : List Nat:=[0,1,3,0,8,24,63,127,0]
theorem machine_Check.tab5 : rtab .any (opsOf Try.f86 5) = machine_Check.T5:=by kernel_rfl
theorem machine_Check.bits5 : waitsOk machine_Check.T5.2 machine_Check.B5 = true:=by kernel_rfl
set_option maxHeartbeats 8000000 in
set_option maxRecDepth 100000 in
theorem machine_Check.calls (k : Nat) (a0_0 : Int) (a0_1 : Int) (A0_2 : Option Addr) (c0_2 : Nat) (l0_2 : List (List Int)) (a0_3 : Int) (a0_4 : Int) (r : Int) (w : World) (hr0_2 : Kd.C (Kd.slice 3 (Kd.int .i64)) w A0_2 l0_2.length l0_2) (hc0_2 : l0_2.length ≤ c0_2) (h : machine_Check.f k a0_0 a0_1 l0_2 a0_3 a0_4 = some r) :
  Calls Try.prog 86 #[.agg #[.int .i64 a0_0,.int .i64 a0_1,.slice A0_2 l0_2.length c0_2,.int .i64 a0_3,.int .u32 a0_4]] w fun e w'=>e = .returned (.int .i64 r) ∧ Below w.heap.size w w':=by
 have hu63:=Try.underlying63
 have HR0_2:=Aside0.mk hr0_2
 have HC0_2:=Aside0.mk hc0_2
 clear hr0_2 hc0_2
 have HB:=Aside0.mk (Below.refl w.heap.size w)
 have H : (if a0_0 < 1 then (machine_Check.j0 k true a0_0 a0_1 l0_2 a0_3 a0_4) else (if a0_0 > 7 then (machine_Check.j0 k true a0_0 a0_1 l0_2 a0_3 a0_4) else (if a0_1 < 1 then (machine_Check.j0 k true a0_0 a0_1 l0_2 a0_3 a0_4) else (machine_Check.j0 k (decide (a0_1 > 3)) a0_0 a0_1 l0_2 a0_3 a0_4)))) = some r:=h
 clear h
 have HC2:=Aside0.mk H
 clear H
 go_enter Try.func86,Try.ntmps86
 go_upto_region 1 with (first|((with_reducible refine gate_dst (N:=1) rfl ?_);refine box_event ?hg (N:=1) ?hd (cs:=#[.int .i64 a0_0,.int .i64 a0_1,.slice A0_2 l0_2.length c0_2,.int .i64 a0_3,.int .u32 a0_4]) (t:=63) ?hr ?_;(case hd=>rfl);(case hg=>rfl);(case hr=>first|(go_simp;done)|(go_simp;rfl));intro gb101 hg w3 hbox hb;have n0_:=Aside0.mk (below_step (by repeat (first|(with_reducible first|exact HB.out|apply below_alloc|apply pw_below_drewN|apply below_drew1)|exact HB.out)) hb);have n1_:=Aside0.mk (hbox);have n2_:=Aside0.mk ((by rw [hg];exact (below_size (by repeat (first|(with_reducible first|exact HB.out|apply below_alloc|apply pw_below_drewN|apply below_drew1)|exact HB.out))) : w.heap.size ≤ gb101));have n3_:=Aside0.mk ((by rw [hg];exact (below_size (by repeat (first|(with_reducible first|exact HB.out|apply below_alloc|apply pw_below_drewN|apply below_drew1)|exact HB.out))) : w.heap.size ≤ gb101));clear HB;have HB:=n0_;have BK101:=n1_;have GW101:=n2_;have GE101:=n3_;clear n0_ n1_ n2_ n3_;clear hb hbox hg))
 (try simp only [Act.put,List.setIfInBounds_toArray,List.set_cons_zero,List.set_cons_succ])
 go_cut [22] (fun v22 wc=>∃ (kq : Nat) (x22_1 : Bool),v22 = .bool x22_1 ∧ Aside0 (machine_Check.j0 kq x22_1 a0_0 a0_1 l0_2 a0_3 a0_4 = some r) ∧ Aside0 (kq ≤ k) ∧ Aside0 (wc.heap[gb101]? = some (.cells #[.int .i64 a0_0,.int .i64 a0_1,(.slice A0_2 l0_2.length c0_2),.int .i64 a0_3,.int .u32 a0_4] 63 (0,0))) ∧ Aside0 (Below w.heap.size w wc))
 case first =>
  have H:=HC2.out
  clear HC2
  by_cases c4 : a0_0 < 1
  ·rw [if_pos c4] at H
   have c4b0 : decide (a0_0 < 1) = true:=decide_eq_true c4
   clear c4
   (first|rw [c4b0]|(simp only [i64_w,i32_w];rw [c4b0])|skip)
   have H':=Aside0.mk H
   clear H
   have hcz5_0 : w3.cell? ⟨gb101,0,none⟩ = some (.int .i64 a0_0):=(blk_cell BK101.out 0).trans rfl
   have hcz5_1 : w3.cell? ⟨gb101,1,none⟩ = some (.int .i64 a0_1):=(blk_cell BK101.out 1).trans rfl
   have hcz5_2 : w3.cell? ⟨gb101,2,none⟩ = some (.slice A0_2 l0_2.length c0_2):=(blk_cell BK101.out 2).trans rfl
   have hcz5_3 : w3.cell? ⟨gb101,3,none⟩ = some (.int .i64 a0_3):=(blk_cell BK101.out 3).trans rfl
   have hcz5_4 : w3.cell? ⟨gb101,4,none⟩ = some (.int .u32 a0_4):=(blk_cell BK101.out 4).trans rfl
   have hfz5_0:=blk_frozen BK101.out 0
   have hfz5_1:=blk_frozen BK101.out 1
   have hfz5_2:=blk_frozen BK101.out 2
   have hfz5_3:=blk_frozen BK101.out 3
   have hfz5_4:=blk_frozen BK101.out 4
   go_wp2
   go_meet
   case rel=>exact ⟨_,(true),(by first|rfl|(simp;done)|(simp [*];done)),H',⟨by first|omega|exact Nat.le_refl _⟩,⟨by (with_reducible repeat (first|refine blk_drewN ?_ _|refine blk_drew ?_|refine blk_alloc ?_ _));exact BK101.out⟩,⟨by repeat (first|(with_reducible first|exact HB.out|apply below_alloc|apply pw_below_drewN|apply below_drew1|refine below_set ?_ GE101.out)|exact HB.out)⟩⟩
  ·rw [if_neg c4] at H
   have c4b0 : decide (a0_0 < 1) = false:=decide_eq_false c4
   clear c4
   (first|rw [c4b0]|(simp only [i64_w,i32_w];rw [c4b0])|skip)
   by_cases c6 : a0_0 > 7
   ·rw [if_pos c6] at H
    have c6b0 : decide (7 < a0_0) = true:=decide_eq_true c6
    clear c6
    have H':=Aside0.mk H
    clear H
    have hcz7_0 : w3.cell? ⟨gb101,0,none⟩ = some (.int .i64 a0_0):=(blk_cell BK101.out 0).trans rfl
    have hcz7_1 : w3.cell? ⟨gb101,1,none⟩ = some (.int .i64 a0_1):=(blk_cell BK101.out 1).trans rfl
    have hcz7_2 : w3.cell? ⟨gb101,2,none⟩ = some (.slice A0_2 l0_2.length c0_2):=(blk_cell BK101.out 2).trans rfl
    have hcz7_3 : w3.cell? ⟨gb101,3,none⟩ = some (.int .i64 a0_3):=(blk_cell BK101.out 3).trans rfl
    have hcz7_4 : w3.cell? ⟨gb101,4,none⟩ = some (.int .u32 a0_4):=(blk_cell BK101.out 4).trans rfl
    have hfz7_0:=blk_frozen BK101.out 0
    have hfz7_1:=blk_frozen BK101.out 1
    have hfz7_2:=blk_frozen BK101.out 2
    have hfz7_3:=blk_frozen BK101.out 3
    have hfz7_4:=blk_frozen BK101.out 4
    go_wp2
    go_meet
    case rel=>exact ⟨_,(true),(by first|rfl|(simp;done)|(simp [*];done)),H',⟨by first|omega|exact Nat.le_refl _⟩,⟨by (with_reducible repeat (first|refine blk_drewN ?_ _|refine blk_drew ?_|refine blk_alloc ?_ _));exact BK101.out⟩,⟨by repeat (first|(with_reducible first|exact HB.out|apply below_alloc|apply pw_below_drewN|apply below_drew1|refine below_set ?_ GE101.out)|exact HB.out)⟩⟩
   ·rw [if_neg c6] at H
    have c6b0 : decide (7 < a0_0) = false:=decide_eq_false c6
    clear c6
    by_cases c8 : a0_1 < 1
    ·rw [if_pos c8] at H
     have c8b0 : decide (a0_1 < 1) = true:=decide_eq_true c8
     clear c8
     have H':=Aside0.mk H
     clear H
     have hcz9_0 : w3.cell? ⟨gb101,0,none⟩ = some (.int .i64 a0_0):=(blk_cell BK101.out 0).trans rfl
     have hcz9_1 : w3.cell? ⟨gb101,1,none⟩ = some (.int .i64 a0_1):=(blk_cell BK101.out 1).trans rfl
     have hcz9_2 : w3.cell? ⟨gb101,2,none⟩ = some (.slice A0_2 l0_2.length c0_2):=(blk_cell BK101.out 2).trans rfl
     have hcz9_3 : w3.cell? ⟨gb101,3,none⟩ = some (.int .i64 a0_3):=(blk_cell BK101.out 3).trans rfl
     have hcz9_4 : w3.cell? ⟨gb101,4,none⟩ = some (.int .u32 a0_4):=(blk_cell BK101.out 4).trans rfl
     have hfz9_0:=blk_frozen BK101.out 0
     have hfz9_1:=blk_frozen BK101.out 1
     have hfz9_2:=blk_frozen BK101.out 2
     have hfz9_3:=blk_frozen BK101.out 3
     have hfz9_4:=blk_frozen BK101.out 4
     go_wp2
     go_meet
     case rel=>exact ⟨_,(true),(by first|rfl|(simp;done)|(simp [*];done)),H',⟨by first|omega|exact Nat.le_refl _⟩,⟨by (with_reducible repeat (first|refine blk_drewN ?_ _|refine blk_drew ?_|refine blk_alloc ?_ _));exact BK101.out⟩,⟨by repeat (first|(with_reducible first|exact HB.out|apply below_alloc|apply pw_below_drewN|apply below_drew1|refine below_set ?_ GE101.out)|exact HB.out)⟩⟩
    ·rw [if_neg c8] at H
     have c8b0 : decide (a0_1 < 1) = false:=decide_eq_false c8
     clear c8
     have H':=Aside0.mk H
     clear H
     have hcz10_0 : w3.cell? ⟨gb101,0,none⟩ = some (.int .i64 a0_0):=(blk_cell BK101.out 0).trans rfl
     have hcz10_1 : w3.cell? ⟨gb101,1,none⟩ = some (.int .i64 a0_1):=(blk_cell BK101.out 1).trans rfl
     have hcz10_2 : w3.cell? ⟨gb101,2,none⟩ = some (.slice A0_2 l0_2.length c0_2):=(blk_cell BK101.out 2).trans rfl
     have hcz10_3 : w3.cell? ⟨gb101,3,none⟩ = some (.int .i64 a0_3):=(blk_cell BK101.out 3).trans rfl
     have hcz10_4 : w3.cell? ⟨gb101,4,none⟩ = some (.int .u32 a0_4):=(blk_cell BK101.out 4).trans rfl
     have hfz10_0:=blk_frozen BK101.out 0
     have hfz10_1:=blk_frozen BK101.out 1
     have hfz10_2:=blk_frozen BK101.out 2
     have hfz10_3:=blk_frozen BK101.out 3
     have hfz10_4:=blk_frozen BK101.out 4
     go_wp2
     go_meet
     case rel=>exact ⟨_,(decide (a0_1 > 3)),(by first|rfl|(simp;done)|(simp [*];done)),H',⟨by first|omega|exact Nat.le_refl _⟩,⟨by (with_reducible repeat (first|refine blk_drewN ?_ _|refine blk_drew ?_|refine blk_alloc ?_ _));exact BK101.out⟩,⟨by repeat (first|(with_reducible first|exact HB.out|apply below_alloc|apply pw_below_drewN|apply below_drew1|refine below_set ?_ GE101.out)|exact HB.out)⟩⟩
 case rest =>
  clear HC2
  try clear p2
  try clear c4
  try clear c4b0
  try clear c6
  try clear c6b0
  try clear c8
  try clear c8b0
  try clear hcz10_0
  try clear hcz10_1
  try clear hcz10_2
  try clear hcz10_3
  try clear hcz10_4
  try clear hcz5_0
  try clear hcz5_1
  try clear hcz5_2
  try clear hcz5_3
  try clear hcz5_4
  try clear hcz7_0
  try clear hcz7_1
  try clear hcz7_2
  try clear hcz7_3
  try clear hcz7_4
  try clear hcz9_0
  try clear hcz9_1
  try clear hcz9_2
  try clear hcz9_3
  try clear hcz9_4
  try clear hfz10_0
  try clear hfz10_1
  try clear hfz10_2
  try clear hfz10_3
  try clear hfz10_4
  try clear hfz5_0
  try clear hfz5_1
  try clear hfz5_2
  try clear hfz5_3
  try clear hfz5_4
  try clear hfz7_0
  try clear hfz7_1
  try clear hfz7_2
  try clear hfz7_3
  try clear hfz7_4
  try clear hfz9_0
  try clear hfz9_1
  try clear hfz9_2
  try clear hfz9_3
  try clear hfz9_4
  obtain ⟨kq,x22_1,rfl,HA,HJ1,BK101,HB⟩:=hcut
  cases kq with
  | zero=>exact absurd HA.out (by simp [machine_Check.j0])
  | succ kj1 =>
   have H:=HA.out
   clear HA
   simp only [machine_Check.j0] at H
   by_cases c11 : x22_1 = true
   ·subst c11
    have H1 : (some 1) = some r:=by rw [if_pos rfl] at H;exact H
    clear H
    have H:=H1
    clear H1
    obtain rfl:=Option.some.inj H
    go_wp2
    go_ret
    exact ⟨by first|rfl|(simp [errW_none,errW_some] <;> rfl)|(simp [*,errW_none,errW_some] <;> rfl),by repeat (first|(with_reducible first|exact HB.out|apply below_alloc|apply pw_below_drewN|apply below_drew1|refine below_set ?_ GE101.out)|exact HB.out)⟩
   ·replace c11:=Bool.eq_false_iff.mpr c11
    subst c11
    have H1 : (if (l0_2.length : Int) = a0_0 then ((machine_Check_any.f l0_2 a0_1).bind fun t102=>(machine_Check.j1 kj1 t102 a0_0 a0_1 l0_2 a0_3 a0_4)) else (machine_Check.j1 kj1 true a0_0 a0_1 l0_2 a0_3 a0_4)) = some r:=by rw [if_neg (show ¬ (false = true) by decide)] at H;exact H
    clear H
    have H:=H1
    clear H1
    have HC12:=Aside0.mk H
    clear H
    go_upto_region 3 with (fail)
    go_cut [34] (fun v34 wc=>∃ (kq : Nat) (x34_11 : Bool),v34 = .bool x34_11 ∧ Aside0 (machine_Check.j1 kq x34_11 a0_0 a0_1 l0_2 a0_3 a0_4 = some r) ∧ Aside0 (kq ≤ kj1) ∧ Aside0 (wc.heap[gb101]? = some (.cells #[.int .i64 a0_0,.int .i64 a0_1,(.slice A0_2 l0_2.length c0_2),.int .i64 a0_3,.int .u32 a0_4] 63 (0,0))) ∧ Aside0 (Below w.heap.size w wc))
    case first =>
     have H:=HC12.out
     clear HC12
     by_cases c13 : (l0_2.length : Int) = a0_0
     ·rw [if_pos c13] at H
      have c13b0 : ((l0_2.length : Int) == a0_0) = true:=beq_iff_eq.mpr c13
      have c13b1 : ((l0_2.length : Int) != a0_0) = false:=bne_eq_false_iff_eq.mpr c13
      clear c13
      (first|rw [c13b0]|(simp only [i64_w,i32_w];rw [c13b0])|skip)
      replace H:=Option.bind_eq_some_iff.mp H
      obtain ⟨t102,A140,H⟩:=H
      replace H : (machine_Check.j1 kj1 t102 a0_0 a0_1 l0_2 a0_3 a0_4) = some r:=H
      have A14:=Aside0.mk A140
      clear A140
      have H':=Aside0.mk H
      clear H
      have hcz15_0 : wc.cell? ⟨gb101,0,none⟩ = some (.int .i64 a0_0):=(blk_cell BK101.out 0).trans rfl
      have hcz15_1 : wc.cell? ⟨gb101,1,none⟩ = some (.int .i64 a0_1):=(blk_cell BK101.out 1).trans rfl
      have hcz15_2 : wc.cell? ⟨gb101,2,none⟩ = some (.slice A0_2 l0_2.length c0_2):=(blk_cell BK101.out 2).trans rfl
      have hcz15_3 : wc.cell? ⟨gb101,3,none⟩ = some (.int .i64 a0_3):=(blk_cell BK101.out 3).trans rfl
      have hcz15_4 : wc.cell? ⟨gb101,4,none⟩ = some (.int .u32 a0_4):=(blk_cell BK101.out 4).trans rfl
      have hfz15_0:=blk_frozen BK101.out 0
      have hfz15_1:=blk_frozen BK101.out 1
      have hfz15_2:=blk_frozen BK101.out 2
      have hfz15_3:=blk_frozen BK101.out 3
      have hfz15_4:=blk_frozen BK101.out 4
      go_wp2_with (first|(go_at_call 120;(with_reducible refine (machine_Check_any.calls _ _ l0_2 gb101 #[.int .i64 a0_0,.int .i64 a0_1,.slice A0_2 l0_2.length c0_2,.int .i64 a0_3,.int .u32 a0_4] a0_1 t102 _ ?side1 ?side2 ?side3 ?side4 A14.out).mono ?_);(case side1=>repeat (first|exact (Kd.C_below HR0_2.out HB.out)|(with_reducible refine Kd.C_alloc ?_ _)|(with_reducible refine Kd.C_drewN ?_ _)|(with_reducible refine Kd.C_drew ?_)));(case side2=>exact HC0_2.out);(case side3=>exact by (with_reducible repeat (first|refine blk_drewN ?_ _|refine blk_drew ?_|refine blk_alloc ?_ _));exact BK101.out);(case side4=>rfl);rintro e w' ⟨rfl,⟨nd,rfl⟩⟩))
      go_meet
      case rel=>exact ⟨_,(t102),(by first|rfl|(simp;done)|(simp [*];done)),H',⟨by have:=HJ1.out;first|omega|exact Nat.le_refl _⟩,⟨by (with_reducible repeat (first|refine blk_drewN ?_ _|refine blk_drew ?_|refine blk_alloc ?_ _));exact BK101.out⟩,⟨by repeat (first|(with_reducible first|exact HB.out|apply below_alloc|apply pw_below_drewN|apply below_drew1|refine below_set ?_ GE101.out)|exact HB.out)⟩⟩
     ·rw [if_neg c13] at H
      have c13b0 : ((l0_2.length : Int) == a0_0) = false:=beq_eq_false_iff_ne.mpr c13
      have c13b1 : ((l0_2.length : Int) != a0_0) = true:=bne_iff_ne.mpr c13
      (first|rw [c13b0]|(simp only [i64_w,i32_w];rw [c13b0])|skip)
      have H':=Aside0.mk H
      clear H
      have hcz16_0 : wc.cell? ⟨gb101,0,none⟩ = some (.int .i64 a0_0):=(blk_cell BK101.out 0).trans rfl
      have hcz16_1 : wc.cell? ⟨gb101,1,none⟩ = some (.int .i64 a0_1):=(blk_cell BK101.out 1).trans rfl
      have hcz16_2 : wc.cell? ⟨gb101,2,none⟩ = some (.slice A0_2 l0_2.length c0_2):=(blk_cell BK101.out 2).trans rfl
      have hcz16_3 : wc.cell? ⟨gb101,3,none⟩ = some (.int .i64 a0_3):=(blk_cell BK101.out 3).trans rfl
      have hcz16_4 : wc.cell? ⟨gb101,4,none⟩ = some (.int .u32 a0_4):=(blk_cell BK101.out 4).trans rfl
      have hfz16_0:=blk_frozen BK101.out 0
      have hfz16_1:=blk_frozen BK101.out 1
      have hfz16_2:=blk_frozen BK101.out 2
      have hfz16_3:=blk_frozen BK101.out 3
      have hfz16_4:=blk_frozen BK101.out 4
      go_wp2
      go_meet
      case rel=>exact ⟨_,(true),(by first|rfl|(simp;done)|(simp [*];done)),H',⟨by have:=HJ1.out;first|omega|exact Nat.le_refl _⟩,⟨by (with_reducible repeat (first|refine blk_drewN ?_ _|refine blk_drew ?_|refine blk_alloc ?_ _));exact BK101.out⟩,⟨by repeat (first|(with_reducible first|exact HB.out|apply below_alloc|apply pw_below_drewN|apply below_drew1|refine below_set ?_ GE101.out)|exact HB.out)⟩⟩
    case rest =>
     clear HC12
     try clear c1
     try clear p2
     try clear c4
     try clear c4b0
     try clear c6
     try clear c6b0
     try clear c8
     try clear c8b0
     try clear c11
     try clear c13
     try clear c13b0
     try clear c13b1
     try clear hcz10_0
     try clear hcz10_1
     try clear hcz10_2
     try clear hcz10_3
     try clear hcz10_4
     try clear hcz15_0
     try clear hcz15_1
     try clear hcz15_2
     try clear hcz15_3
     try clear hcz15_4
     try clear hcz16_0
     try clear hcz16_1
     try clear hcz16_2
     try clear hcz16_3
     try clear hcz16_4
     try clear hcz5_0
     try clear hcz5_1
     try clear hcz5_2
     try clear hcz5_3
     try clear hcz5_4
     try clear hcz7_0
     try clear hcz7_1
     try clear hcz7_2
     try clear hcz7_3
     try clear hcz7_4
     try clear hcz9_0
     try clear hcz9_1
     try clear hcz9_2
     try clear hcz9_3
     try clear hcz9_4
     try clear hfz10_0
     try clear hfz10_1
     try clear hfz10_2
     try clear hfz10_3
     try clear hfz10_4
     try clear hfz15_0
     try clear hfz15_1
     try clear hfz15_2
     try clear hfz15_3
     try clear hfz15_4
     try clear hfz16_0
     try clear hfz16_1
     try clear hfz16_2
     try clear hfz16_3
     try clear hfz16_4
     try clear hfz5_0
     try clear hfz5_1
     try clear hfz5_2
     try clear hfz5_3
     try clear hfz5_4
     try clear hfz7_0
     try clear hfz7_1
     try clear hfz7_2
     try clear hfz7_3
     try clear hfz7_4
     try clear hfz9_0
     try clear hfz9_1
     try clear hfz9_2
     try clear hfz9_3
     try clear hfz9_4
     try clear p2
     obtain ⟨kq,x34_11,rfl,HA,HJ11,BK101,HB⟩:=hcut
     cases kq with
     | zero=>exact absurd HA.out (by simp [machine_Check.j1])
     | succ kj11 =>
      have H:=HA.out
      clear HA
      simp only [machine_Check.j1] at H
      by_cases c17 : x34_11 = true
      ·subst c17
       have H1 : (some 3) = some r:=by rw [if_pos rfl] at H;exact H
       clear H
       have H:=H1
       clear H1
       obtain rfl:=Option.some.inj H
       go_wp2
       go_ret
       exact ⟨by first|rfl|(simp [errW_none,errW_some] <;> rfl)|(simp [*,errW_none,errW_some] <;> rfl),by repeat (first|(with_reducible first|exact HB.out|apply below_alloc|apply pw_below_drewN|apply below_drew1|refine below_set ?_ GE101.out)|exact HB.out)⟩
      ·replace c17:=Bool.eq_false_iff.mpr c17
       subst c17
       have H1 : ((slices_Concat_int_int.f l0_2).bind fun t103=>((some (([a0_3] : List Int) : List Int)).bind fun y106=>(if t103.length + y106.length < 17592186044416 then ((some (t103 ++ y106 : List Int)).bind fun y109=>(machine_Check.l0 kj11 y109 (y109.length : Int) 0 a0_0 a0_1 l0_2 a0_3 a0_4)) else (none)))) = some r:=by rw [if_neg (show ¬ (false = true) by decide)] at H;exact H
       clear H
       have H:=H1
       clear H1
       replace H:=Option.bind_eq_some_iff.mp H
       obtain ⟨t103,A180,H⟩:=H
       replace H : ((some (([a0_3] : List Int) : List Int)).bind fun y106=>(if t103.length + y106.length < 17592186044416 then ((some (t103 ++ y106 : List Int)).bind fun y109=>(machine_Check.l0 kj11 y109 (y109.length : Int) 0 a0_0 a0_1 l0_2 a0_3 a0_4)) else (none))) = some r:=H
       have A18:=Aside0.mk A180
       clear A180
       obtain ⟨y106,hy106⟩ : ∃ y_ : List Int,y_ = (([a0_3] : List Int)):=⟨_,rfl⟩
       replace H : (if t103.length + y106.length < 17592186044416 then ((some (t103 ++ y106 : List Int)).bind fun y109=>(machine_Check.l0 kj11 y109 (y109.length : Int) 0 a0_0 a0_1 l0_2 a0_3 a0_4)) else (none)) = some r:=by first|(rw [hy106];with_reducible exact H)|(have H2_:=(Option.bind_some _ _).symm.trans H;rw [hy106];with_reducible exact H2_)|(have H2_:=(Option.bind_some _ _).symm.trans H;with_reducible exact H2_)|with_reducible exact H|(rw [hy106];exact H)|exact H
       have Ny106:=Aside0.mk hy106
       clear hy106
       by_cases c19 : t103.length + y106.length < 17592186044416
       ·rw [if_pos c19] at H
        have LMc19:=Aside0.mk c19
        clear c19
        obtain ⟨y109,hy109⟩ : ∃ y_ : List Int,y_ = (t103 ++ y106):=⟨_,rfl⟩
        replace H : (machine_Check.l0 kj11 y109 (y109.length : Int) 0 a0_0 a0_1 l0_2 a0_3 a0_4) = some r:=by first|(rw [hy109];with_reducible exact H)|(have H2_:=(Option.bind_some _ _).symm.trans H;rw [hy109];with_reducible exact H2_)|(have H2_:=(Option.bind_some _ _).symm.trans H;with_reducible exact H2_)|with_reducible exact H|(rw [hy109];exact H)|exact H
        have Ny109:=Aside0.mk hy109
        clear hy109
        have H':=Aside0.mk H
        clear H
        try go_wp2
        have n0_:=Aside0.mk (blk_drew BK101.out)
        have n1_:=Aside0.mk (below_drew1 HB.out)
        clear BK101
        clear HB
        have BK101:=n0_
        have HB:=n1_
        clear n0_ n1_
        refine start_ (n:=9) (S:=fun w'=>w'.cell? ⟨gb101,0,none⟩ = some (.int .i64 a0_0) ∧ w'.cell? ⟨gb101,1,none⟩ = some (.int .i64 a0_1) ∧ w'.cell? ⟨gb101,2,none⟩ = some (.slice A0_2 l0_2.length c0_2) ∧ w'.cell? ⟨gb101,3,none⟩ = some (.int .i64 a0_3) ∧ w'.cell? ⟨gb101,4,none⟩ = some (.int .u32 a0_4)) (ds:=[]) #[false,false,false,false,false,false,false,false,false] (by kernel_rfl) rfl rfl ⟨(blk_cell BK101.out 0).trans rfl,(blk_cell BK101.out 1).trans rfl,(blk_cell BK101.out 2).trans rfl,(blk_cell BK101.out 3).trans rfl,(blk_cell BK101.out 4).trans rfl⟩ (fun hHeld=>?_);refine with_tabW machine_Check.tab5 machine_Check.bits5 (fun HT_ HW_=>?_)
        generalize wc.drew = w20 at BK101 HB hHeld ⊢
        refine pure_ (i:=0) (N:=some 35) (v:=?_) (a':=?_) #[true,false,false,false,false,false,false,false,false] rfl rfl (any_of HT_.out (by kernel_rfl)) (fun _ _ _ h=>h) (Or.inl ⟨by rfl,?_⟩) ?_ ?_
        rotate_left
        ·intro w'
         go_simp
         with_reducible rfl
        rotate_left
        ·simp only [Act.put,List.setIfInBounds_toArray,List.set_cons_zero,List.set_cons_succ,i64_w,i32_w]
         rfl
        refine pure_ (i:=3) (N:=some 38) (v:=?_) (a':=?_) #[true,false,false,true,false,false,false,false,false] rfl rfl (any_of HT_.out (by kernel_rfl)) (fun _ _ _ h=>h) (Or.inl ⟨by rfl,?_⟩) ?_ ?_
        rotate_left
        ·intro w'
         go_simp
         with_reducible rfl
        rotate_left
        ·simp only [Act.put,List.setIfInBounds_toArray,List.set_cons_zero,List.set_cons_succ,i64_w,i32_w]
         rfl
        refine pure_ (i:=8) (N:=some 43) (v:=?_) (a':=?_) #[true,false,false,true,false,false,false,false,true] rfl rfl (any_of HT_.out (by kernel_rfl)) (fun _ _ _ h=>h) (Or.inl ⟨by rfl,?_⟩) ?_ ?_
        rotate_left
        ·intro w'
         go_simp
         with_reducible rfl
        rotate_left
        ·simp only [Act.put,List.setIfInBounds_toArray,List.set_cons_zero,List.set_cons_succ,i64_w,i32_w]
         rfl
        refine take_ (i:=1) (N:=some 36) (v:=?_) (a':=?_) #[true,true,false,true,false,false,false,false,true] rfl rfl (take_ofW HT_.out HW_.out (by kernel_rfl)) (fun _ _ _ h=>h) (Or.inl ⟨by rfl,?_⟩) hHeld ?_ ?_
        rotate_left
        ·rintro w' ⟨s0,s1,s2,s3,s4⟩
         go_simp
         with_reducible rfl
        rotate_left
        ·simp only [Act.put,List.setIfInBounds_toArray,List.set_cons_zero,List.set_cons_succ,i64_w,i32_w]
         rfl
        refine take_ (i:=4) (N:=some 39) (v:=?_) (a':=?_) #[true,true,false,true,true,false,false,false,true] rfl rfl (take_ofW HT_.out HW_.out (by kernel_rfl)) (fun _ _ _ h=>h) (Or.inl ⟨by rfl,?_⟩) hHeld ?_ ?_
        rotate_left
        ·rintro w' ⟨s0,s1,s2,s3,s4⟩
         go_simp
         with_reducible rfl
        rotate_left
        ·simp only [Act.put,List.setIfInBounds_toArray,List.set_cons_zero,List.set_cons_succ,i64_w,i32_w]
         rfl
        refine join_ (σ:=Value × Value) 2 #[true,true,true,true,true,true,false,false,true] (fun s_=>[(37,s_.1),(40,s_.2)]) (fun s_ w'=>(w'.cell? ⟨gb101,0,none⟩ = some (.int .i64 a0_0) ∧ w'.cell? ⟨gb101,1,none⟩ = some (.int .i64 a0_1) ∧ w'.cell? ⟨gb101,2,none⟩ = some (.slice A0_2 l0_2.length c0_2) ∧ w'.cell? ⟨gb101,3,none⟩ = some (.int .i64 a0_3) ∧ w'.cell? ⟨gb101,4,none⟩ = some (.int .u32 a0_4)) ∧ (Kd.R (Kd.int .i64) 3 w' w.heap.size (fun k_=>some k_ ≠ (s_.2 : Value).ownBlock) s_.1 t103) ∧ (Kd.R (Kd.int .i64) 3 w' w.heap.size (fun k_=>some k_ ≠ (s_.1 : Value).ownBlock) s_.2 y106) ∧ (w'.heap[gb101]? = some (.cells #[.int .i64 a0_0,.int .i64 a0_1,.slice A0_2 l0_2.length c0_2,.int .i64 a0_3,.int .u32 a0_4] 63 (0,0))) ∧ (Below w.heap.size w w')) ?_ ?_
        rotate_left
        ·intro hCont
         refine two_ (i:=2) (j:=5) (Ni:=some 37) (Nj:=some 40) #[true,true,true,true,true,false,false,false,true] #[true,true,false,true,true,true,false,false,true] rfl rfl rfl rfl (two_of HT_.out (by kernel_rfl)) (by decide) (by decide) (fun K hK=>?_) (fun K hK=>?_)
         ·skip
          refine goes_ Try.func59 (by kernel_rfl) rfl #[.slice A0_2 l0_2.length c0_2] (by rfl) rfl rfl (by (try simp only [List.map_toArray,List.map_cons,List.map_nil]);first|done|rfl|(simp only [List.length_drop,List.length_take];rfl)) ?_
          with_reducible refine (slices_Concat_int_int.calls _ _ l0_2 t103 _ ?side1 ?side2 A18.out).mono ?_
          (case side1=>repeat (first|exact (Kd.C_below HR0_2.out HB.out)|(with_reducible refine Kd.C_alloc ?_ _)|(with_reducible refine Kd.C_drewN ?_ _)|(with_reducible refine Kd.C_drew ?_)))
          (case side2=>exact HC0_2.out)
          rintro e w21 ⟨v104,rfl,ho0,hb⟩
          refine ⟨_,rfl,?_⟩
          have n0_:=Aside0.mk (Kd.R_lower ho0 (below_size (by repeat (first|(with_reducible first|exact HB.out|apply below_alloc|apply pw_below_drewN|apply below_drew1|refine below_set ?_ GE101.out)|exact HB.out))))
          have n1_:=Aside0.mk (blk_below (g:=gb101) (o:=.cells #[.int .i64 a0_0,.int .i64 a0_1,.slice A0_2 l0_2.length c0_2,.int .i64 a0_3,.int .u32 a0_4] 63 (0,0)) (by (with_reducible repeat (first|refine blk_drewN ?_ _|refine blk_drew ?_|refine blk_alloc ?_ _));exact BK101.out) hb)
          have n2_:=Aside0.mk (below_step (by repeat (first|(with_reducible first|exact HB.out|apply below_alloc|apply pw_below_drewN|apply below_drew1|refine below_set ?_ GE101.out)|exact HB.out)) hb)
          clear BK101
          clear HB
          have HO105:=n0_
          have BK101:=n1_
          have HB:=n2_
          clear n0_ n1_ n2_
          (try clear hb)
          (try clear hb2)
          (try clear hk)
          (try clear hi)
          (try clear ho0)
          refine hK.out _ _ ⟨(blk_cell BK101.out 0).trans rfl,(blk_cell BK101.out 1).trans rfl,(blk_cell BK101.out 2).trans rfl,(blk_cell BK101.out 3).trans rfl,(blk_cell BK101.out 4).trans rfl⟩ (fun hHeld=>?_)
          clear hK K
          refine norm_ (a':=?_) ?_ ?_
          rotate_left
          ·show Act.put _ (some 37) _ = _
           simp only [Act.put,List.setIfInBounds_toArray,List.set_cons_zero,List.set_cons_succ,i64_w,i32_w]
           rfl
          refine one_ (i:=5) (N:=some 40) #[true,true,true,true,true,true,false,false,true] rfl rfl (one_of HT_.out (by kernel_rfl)) (by decide) (fun K hK=>?_)
          refine Kd.R_lit_step (Kd.int .i64) _ 3 ?hg (N:=40) ?hd (xs:=([a0_3] : List Int)) (inner:=[.int .i64 a0_3]) (ok:=fun _=>True) (okp:=fun _=>True) ?hr ?hp (fun _ hk=>hk) trivial (Below.refl _ _) (Nat.le_refl _) (by simp) ?_;(case hd=>rfl);(case hg=>rfl);(case hr=>first|(go_simp;done)|(go_simp;rfl));(case hp=>exact (Reps.one (show Kd.M (Kd.int .i64) _ _ _ a0_3 [.int .i64 a0_3] from rfl) (Reps.none _ _)))
          intro v107 w22 ho23 hb hg_ hnew_
          clear hg_ hnew_
          (first|rw [← Ny106.out] at ho23|(simp only [Int.reduceToNat] at ho23;rw [← Ny106.out] at ho23))
          have n0_:=Aside0.mk (Kd.R_elder' (by (with_reducible repeat (first|apply Kd.R_alloc|apply Kd.R_drewN|apply Kd.R_drew));exact HO105.out) (Kd.R_base ho23) hb)
          have n1_:=Aside0.mk (Kd.R_lower (Kd.R_new' ho23 (Kd.R_lt (by (with_reducible repeat (first|apply Kd.R_alloc|apply Kd.R_drewN|apply Kd.R_drew));exact HO105.out))) (below_size (by repeat (first|(with_reducible first|exact HB.out|apply below_alloc|apply pw_below_drewN|apply below_drew1|refine below_set ?_ GE101.out)|exact HB.out))))
          have n2_:=Aside0.mk (blk_below (g:=gb101) (o:=.cells #[.int .i64 a0_0,.int .i64 a0_1,.slice A0_2 l0_2.length c0_2,.int .i64 a0_3,.int .u32 a0_4] 63 (0,0)) (by (with_reducible repeat (first|refine blk_drewN ?_ _|refine blk_drew ?_|refine blk_alloc ?_ _));exact BK101.out) hb)
          have n3_:=Aside0.mk (below_step (by repeat (first|(with_reducible first|exact HB.out|apply below_alloc|apply pw_below_drewN|apply below_drew1|refine below_set ?_ GE101.out)|exact HB.out)) hb)
          clear HO105
          clear BK101
          clear HB
          have HO105:=n0_
          have HO108:=n1_
          have BK101:=n2_
          have HB:=n3_
          clear n0_ n1_ n2_ n3_
          clear hb ho23
          refine hK.out _ _ ⟨(blk_cell BK101.out 0).trans rfl,(blk_cell BK101.out 1).trans rfl,(blk_cell BK101.out 2).trans rfl,(blk_cell BK101.out 3).trans rfl,(blk_cell BK101.out 4).trans rfl⟩ (fun hHeld=>?_)
          clear hK K
          refine norm_ (a':=?_) ?_ ?_
          rotate_left
          ·show Act.put _ (some 40) _ = _
           simp only [Act.put,List.setIfInBounds_toArray,List.set_cons_zero,List.set_cons_succ,i64_w,i32_w]
           rfl
          exact norm_ (by simp only [putAll,Act.put,List.setIfInBounds_toArray,List.set_cons_zero,List.set_cons_succ]) (hCont (v104,v107) _ ⟨hHeld,(by (with_reducible repeat (first|apply Kd.R_alloc|apply Kd.R_drewN|apply Kd.R_drew));exact Kd.R_mono HO105.out (fun _ hk=>hk.2)),(by (with_reducible repeat (first|apply Kd.R_alloc|apply Kd.R_drewN|apply Kd.R_drew));exact Kd.R_mono HO108.out (fun _ hk=>hk.2)),(by (with_reducible repeat (first|refine blk_drewN ?_ _|refine blk_drew ?_|refine blk_alloc ?_ _));exact BK101.out),(by repeat (first|(with_reducible first|exact HB.out|apply below_alloc|apply pw_below_drewN|apply below_drew1|refine below_set ?_ GE101.out)|exact HB.out))⟩)
         ·skip
          refine Kd.R_lit_step (Kd.int .i64) _ 3 ?hg (N:=40) ?hd (xs:=([a0_3] : List Int)) (inner:=[.int .i64 a0_3]) (ok:=fun _=>True) (okp:=fun _=>True) ?hr ?hp (fun _ hk=>hk) trivial (Below.refl _ _) (Nat.le_refl _) (by simp) ?_;(case hd=>rfl);(case hg=>rfl);(case hr=>first|(go_simp;done)|(go_simp;rfl));(case hp=>exact (Reps.one (show Kd.M (Kd.int .i64) _ _ _ a0_3 [.int .i64 a0_3] from rfl) (Reps.none _ _)))
          intro v107 w21 ho22 hb hg_ hnew_
          clear hg_ hnew_
          (first|rw [← Ny106.out] at ho22|(simp only [Int.reduceToNat] at ho22;rw [← Ny106.out] at ho22))
          have n0_:=Aside0.mk (Kd.R_lower ho22 (below_size (by repeat (first|(with_reducible first|exact HB.out|apply below_alloc|apply pw_below_drewN|apply below_drew1|refine below_set ?_ GE101.out)|exact HB.out))))
          have n1_:=Aside0.mk (blk_below (g:=gb101) (o:=.cells #[.int .i64 a0_0,.int .i64 a0_1,.slice A0_2 l0_2.length c0_2,.int .i64 a0_3,.int .u32 a0_4] 63 (0,0)) (by (with_reducible repeat (first|refine blk_drewN ?_ _|refine blk_drew ?_|refine blk_alloc ?_ _));exact BK101.out) hb)
          have n2_:=Aside0.mk (below_step (by repeat (first|(with_reducible first|exact HB.out|apply below_alloc|apply pw_below_drewN|apply below_drew1|refine below_set ?_ GE101.out)|exact HB.out)) hb)
          clear BK101
          clear HB
          have HO108:=n0_
          have BK101:=n1_
          have HB:=n2_
          clear n0_ n1_ n2_
          clear hb ho22
          refine hK.out _ _ ⟨(blk_cell BK101.out 0).trans rfl,(blk_cell BK101.out 1).trans rfl,(blk_cell BK101.out 2).trans rfl,(blk_cell BK101.out 3).trans rfl,(blk_cell BK101.out 4).trans rfl⟩ (fun hHeld=>?_)
          clear hK K
          refine norm_ (a':=?_) ?_ ?_
          rotate_left
          ·show Act.put _ (some 40) _ = _
           simp only [Act.put,List.setIfInBounds_toArray,List.set_cons_zero,List.set_cons_succ,i64_w,i32_w]
           rfl
          refine one_ (i:=2) (N:=some 37) #[true,true,true,true,true,true,false,false,true] rfl rfl (one_of HT_.out (by kernel_rfl)) (by decide) (fun K hK=>?_)
          refine goes_ Try.func59 (by kernel_rfl) rfl #[.slice A0_2 l0_2.length c0_2] (by rfl) rfl rfl (by (try simp only [List.map_toArray,List.map_cons,List.map_nil]);first|done|rfl|(simp only [List.length_drop,List.length_take];rfl)) ?_
          with_reducible refine (slices_Concat_int_int.calls _ _ l0_2 t103 _ ?side1 ?side2 A18.out).mono ?_
          (case side1=>repeat (first|exact (Kd.C_below HR0_2.out HB.out)|(with_reducible refine Kd.C_alloc ?_ _)|(with_reducible refine Kd.C_drewN ?_ _)|(with_reducible refine Kd.C_drew ?_)))
          (case side2=>exact HC0_2.out)
          rintro e w23 ⟨v104,rfl,ho0,hb⟩
          refine ⟨_,rfl,?_⟩
          have n0_:=Aside0.mk (Kd.R_elder' (by (with_reducible repeat (first|apply Kd.R_alloc|apply Kd.R_drewN|apply Kd.R_drew));exact HO108.out) (Kd.R_base ho0) hb)
          have n1_:=Aside0.mk (Kd.R_lower (Kd.R_new' ho0 (Kd.R_lt (by (with_reducible repeat (first|apply Kd.R_alloc|apply Kd.R_drewN|apply Kd.R_drew));exact HO108.out))) (below_size (by repeat (first|(with_reducible first|exact HB.out|apply below_alloc|apply pw_below_drewN|apply below_drew1|refine below_set ?_ GE101.out)|exact HB.out))))
          have n2_:=Aside0.mk (blk_below (g:=gb101) (o:=.cells #[.int .i64 a0_0,.int .i64 a0_1,.slice A0_2 l0_2.length c0_2,.int .i64 a0_3,.int .u32 a0_4] 63 (0,0)) (by (with_reducible repeat (first|refine blk_drewN ?_ _|refine blk_drew ?_|refine blk_alloc ?_ _));exact BK101.out) hb)
          have n3_:=Aside0.mk (below_step (by repeat (first|(with_reducible first|exact HB.out|apply below_alloc|apply pw_below_drewN|apply below_drew1|refine below_set ?_ GE101.out)|exact HB.out)) hb)
          clear HO108
          clear BK101
          clear HB
          have HO108:=n0_
          have HO105:=n1_
          have BK101:=n2_
          have HB:=n3_
          clear n0_ n1_ n2_ n3_
          (try clear hb)
          (try clear hb2)
          (try clear hk)
          (try clear hi)
          (try clear ho0)
          refine hK.out _ _ ⟨(blk_cell BK101.out 0).trans rfl,(blk_cell BK101.out 1).trans rfl,(blk_cell BK101.out 2).trans rfl,(blk_cell BK101.out 3).trans rfl,(blk_cell BK101.out 4).trans rfl⟩ (fun hHeld=>?_)
          clear hK K
          refine norm_ (a':=?_) ?_ ?_
          rotate_left
          ·show Act.put _ (some 37) _ = _
           simp only [Act.put,List.setIfInBounds_toArray,List.set_cons_zero,List.set_cons_succ,i64_w,i32_w]
           rfl
          exact norm_ (by simp only [putAll,Act.put,List.setIfInBounds_toArray,List.set_cons_zero,List.set_cons_succ]) (hCont (v104,v107) _ ⟨hHeld,(by (with_reducible repeat (first|apply Kd.R_alloc|apply Kd.R_drewN|apply Kd.R_drew));exact Kd.R_mono HO105.out (fun _ hk=>hk.2)),(by (with_reducible repeat (first|apply Kd.R_alloc|apply Kd.R_drewN|apply Kd.R_drew));exact Kd.R_mono HO108.out (fun _ hk=>hk.2)),(by (with_reducible repeat (first|refine blk_drewN ?_ _|refine blk_drew ?_|refine blk_alloc ?_ _));exact BK101.out),(by repeat (first|(with_reducible first|exact HB.out|apply below_alloc|apply pw_below_drewN|apply below_drew1|refine below_set ?_ GE101.out)|exact HB.out))⟩)
        rintro ⟨v104,v107⟩ w24 ⟨hS_,h0_,h1_,h2_,h3_⟩
        have n0_ : Aside0 (Kd.R (Kd.int .i64) 3 w24 w.heap.size (fun k_=>some k_ ≠ (v107 : Value).ownBlock) v104 t103):=⟨h0_⟩
        have n1_ : Aside0 (Kd.R (Kd.int .i64) 3 w24 w.heap.size (fun k_=>some k_ ≠ (v104 : Value).ownBlock) v107 y106):=⟨h1_⟩
        have n2_ : Aside0 (w24.heap[gb101]? = some (.cells #[.int .i64 a0_0,.int .i64 a0_1,.slice A0_2 l0_2.length c0_2,.int .i64 a0_3,.int .u32 a0_4] 63 (0,0))):=⟨h2_⟩
        have n3_ : Aside0 (Below w.heap.size w w24):=⟨h3_⟩
        clear BK101
        clear HB
        clear h0_ h1_ h2_ h3_
        have HO105:=n0_
        have HO108:=n1_
        have BK101:=n2_
        have HB:=n3_
        clear n0_ n1_ n2_ n3_
        have hHeld : w24.cell? ⟨gb101,0,none⟩ = some (.int .i64 a0_0) ∧ w24.cell? ⟨gb101,1,none⟩ = some (.int .i64 a0_1) ∧ w24.cell? ⟨gb101,2,none⟩ = some (.slice A0_2 l0_2.length c0_2) ∧ w24.cell? ⟨gb101,3,none⟩ = some (.int .i64 a0_3) ∧ w24.cell? ⟨gb101,4,none⟩ = some (.int .u32 a0_4):=hS_
        obtain ⟨Ao26,co26,eo26⟩:=Kd.R_slice HO108.out
        (first|subst eo26|(injection eo26 with f1_ f2_ f3_;have f4_:=f1_.symm;have f5_:=f3_.symm;clear f1_ f2_ f3_;subst f4_;subst f5_))
        refine norm_ (a':=?_) ?_ ?_
        rotate_left
        ·simp only [putAll,Act.put,List.setIfInBounds_toArray,List.set_cons_zero,List.set_cons_succ]
         rfl
        refine one_ (i:=6) (N:=some 41) #[true,true,true,true,true,true,true,false,true] rfl rfl (one_of HT_.out (by kernel_rfl)) (by decide) (fun K hK=>?_)
        refine Kd.R_append_rows_step (Kd.int .i64) (w0:=w) w.heap.size (by rfl) (.tmp 37) (.tmp 40) 23 3 (.int .i64 0) 8 rfl Try.underlying23 info3 rfl (by decide) (by omega) v104 t103 y106 _ _ _ (fun k_=>some k_ ≠ (.slice Ao26 y106.length co26 : Value).ownBlock) (fun _=>False) rfl rfl ?aO ?aR (fun _ _ h=>h) (fun _ h=>h.elim) ?aF ?aB ?aS ?aL ?_
        (case aR=>repeat (first|exact (Kd.R_reads' HO108.out).2.2|(with_reducible refine Kd.C_alloc ?_ _)|(with_reducible refine Kd.C_drewN ?_ _)|(with_reducible refine Kd.C_drew ?_)))
        (case aB=>exact (by repeat (first|(with_reducible first|exact HB.out|apply below_alloc|apply pw_below_drewN|apply below_drew1|refine below_set ?_ GE101.out)|exact HB.out)))
        (case aF=>exact (fun k_ hk=>Kd.fresh' (Kd.R_lt (by (with_reducible repeat (first|apply Kd.R_alloc|apply Kd.R_drewN|apply Kd.R_drew));exact HO108.out)) k_ hk))
        (case aO=>exact (by (with_reducible repeat (first|apply Kd.R_alloc|apply Kd.R_drewN|apply Kd.R_drew));exact HO105.out))
        (case aS=>exact (below_size (by repeat (first|(with_reducible first|exact HB.out|apply below_alloc|apply pw_below_drewN|apply below_drew1|refine below_set ?_ GE101.out)|exact HB.out))))
        (case aL=>have:=LMc19.out;omega)
        intro v110 w25 ho hb hg hat
        rw [← Ny109.out] at ho
        have n0_:=Aside0.mk (blk_grown (g:=gb101) (o:=.cells #[.int .i64 a0_0,.int .i64 a0_1,.slice A0_2 l0_2.length c0_2,.int .i64 a0_3,.int .u32 a0_4] 63 (0,0)) (by (with_reducible repeat (first|refine blk_drewN ?_ _|refine blk_drew ?_|refine blk_alloc ?_ _));exact BK101.out) hg (Kd.R_ne HO105.out BK101.out (by decide)))
        have n1_:=Aside0.mk (Kd.R_after (ok:=(fun _=>True)) (by (with_reducible repeat (first|apply Kd.R_alloc|apply Kd.R_drewN|apply Kd.R_drew));exact Kd.R_mono HO108.out (fun _ hk=>⟨trivial,hk⟩)) hg hat)
        have n2_:=Aside0.mk (hb)
        have n3_:=Aside0.mk (ho)
        clear BK101
        clear HO108
        clear HB
        clear HO105
        have BK101:=n0_
        have HO108:=n1_
        have HB:=n2_
        have HO111:=n3_
        clear n0_ n1_ n2_ n3_
        clear ho hb hg hat
        obtain ⟨Ao27,co27,eo27⟩:=Kd.R_slice HO111.out
        (first|subst eo27|(injection eo27 with f1_ f2_ f3_;have f4_:=f1_.symm;have f5_:=f3_.symm;clear f1_ f2_ f3_;subst f4_;subst f5_))
        refine hK.out _ _ ⟨(blk_cell BK101.out 0).trans rfl,(blk_cell BK101.out 1).trans rfl,(blk_cell BK101.out 2).trans rfl,(blk_cell BK101.out 3).trans rfl,(blk_cell BK101.out 4).trans rfl⟩ (fun hHeld=>?_)
        clear hK K
        refine norm_ (a':=?_) ?_ ?_
        rotate_left
        ·show Act.put _ (some 41) _ = _
         simp only [Act.put,List.setIfInBounds_toArray,List.set_cons_zero,List.set_cons_succ,i64_w,i32_w]
         rfl
        refine pure_ (i:=7) (N:=some 42) (v:=?_) (a':=?_) #[true,true,true,true,true,true,true,true,true] rfl rfl (any_of HT_.out (by kernel_rfl)) (fun _ _ _ h=>h) (Or.inl ⟨by rfl,?_⟩) ?_ ?_
        rotate_left
        ·intro w'
         go_simp
         with_reducible rfl
        rotate_left
        ·simp only [Act.put,List.setIfInBounds_toArray,List.set_cons_zero,List.set_cons_succ,i64_w,i32_w]
         rfl
        refine done_ (done_of HT_.out (by kernel_rfl)) ?_
        try go_wp2
        go_loopg [43] kj11 (fun kq v43 w'=>∃ (x43_3 : Int),v43 = .int .i64 x43_3 ∧ Aside0 (machine_Check.l0 kq y109 (y109.length : Int) x43_3 a0_0 a0_1 l0_2 a0_3 a0_4 = some r) ∧ Aside0 (kq ≤ kj11) ∧ Aside0 (Kd.R (Kd.int .i64) 3 w' w.heap.size (fun _=>True) (.slice Ao27 y109.length co27) y109) ∧ Aside0 (w'.heap[gb101]? = some (.cells #[.int .i64 a0_0,.int .i64 a0_1,(.slice A0_2 l0_2.length c0_2),.int .i64 a0_3,.int .u32 a0_4] 63 (0,0))) ∧ Aside0 (Below w.heap.size w w'))
        case atStart=>exact ⟨(0),(by first|rfl|(simp;done)|(simp [*];done)),H',⟨Nat.le_refl _⟩,⟨by (with_reducible repeat (first|apply Kd.R_alloc|apply Kd.R_drewN|apply Kd.R_drew));exact Kd.R_mono HO111.out (fun _ hk=>trivial)⟩,⟨by (with_reducible repeat (first|refine blk_drewN ?_ _|refine blk_drew ?_|refine blk_alloc ?_ _));exact BK101.out⟩,⟨by repeat (first|(with_reducible first|exact HB.out|apply below_alloc|apply pw_below_drewN|apply below_drew1|refine below_set ?_ GE101.out)|exact HB.out)⟩⟩
        case round =>
         clear H'
         try clear c1
         try clear p2
         try clear c4
         try clear c4b0
         try clear c5
         try clear c6
         try clear c6b0
         try clear c8
         try clear c8b0
         try clear c11
         try clear c13
         try clear c13b0
         try clear c13b1
         try clear c17
         try clear c19
         try clear hcz10_0
         try clear hcz10_1
         try clear hcz10_2
         try clear hcz10_3
         try clear hcz10_4
         try clear hcz15_0
         try clear hcz15_1
         try clear hcz15_2
         try clear hcz15_3
         try clear hcz15_4
         try clear hcz16_0
         try clear hcz16_1
         try clear hcz16_2
         try clear hcz16_3
         try clear hcz16_4
         try clear hcz5_0
         try clear hcz5_1
         try clear hcz5_2
         try clear hcz5_3
         try clear hcz5_4
         try clear hcz7_0
         try clear hcz7_1
         try clear hcz7_2
         try clear hcz7_3
         try clear hcz7_4
         try clear hcz9_0
         try clear hcz9_1
         try clear hcz9_2
         try clear hcz9_3
         try clear hcz9_4
         try clear hfz10_0
         try clear hfz10_1
         try clear hfz10_2
         try clear hfz10_3
         try clear hfz10_4
         try clear hfz15_0
         try clear hfz15_1
         try clear hfz15_2
         try clear hfz15_3
         try clear hfz15_4
         try clear hfz16_0
         try clear hfz16_1
         try clear hfz16_2
         try clear hfz16_3
         try clear hfz16_4
         try clear hfz5_0
         try clear hfz5_1
         try clear hfz5_2
         try clear hfz5_3
         try clear hfz5_4
         try clear hfz7_0
         try clear hfz7_1
         try clear hfz7_2
         try clear hfz7_3
         try clear hfz7_4
         try clear hfz9_0
         try clear hfz9_1
         try clear hfz9_2
         try clear hfz9_3
         try clear hfz9_4
         try clear p2
         obtain ⟨x43_3,rfl,HA,HK3,HO_41,BK101,HB⟩:=hrel
         cases gk with
         | zero=>exact absurd HA.out (by simp [machine_Check.l0])
         | succ k3 =>
          have H:=HA.out
          clear HA
          simp only [machine_Check.l0] at H
          by_cases c28 : x43_3 < (y109.length : Int)
          ·rw [if_pos c28] at H
           have c28b0 : decide (x43_3 < (y109.length : Int)) = true:=decide_eq_true c28
           clear c28
           by_cases c29 : 0 ≤ x43_3
           ·rw [if_pos c29] at H
            have c29b0 : decide (0 ≤ x43_3) = true:=decide_eq_true c29
            clear c29
            by_cases c30 : x43_3 < (y109.length : Int)
            ·rw [if_pos c30] at H
             have c30b0 : decide (x43_3 < (y109.length : Int)) = true:=decide_eq_true c30
             clear c30
             by_cases c31 : (rd y109 x43_3) < 0
             ·rw [if_pos c31] at H
              have c31b0 : decide ((rd y109 x43_3) < 0) = true:=decide_eq_true c31
              clear c31
              obtain rfl:=Option.some.inj H
              have p112 : 0 ≤ (x43_3 : Int):=of_decide_eq_true (by first|(with_reducible assumption)|assumption)
              have q112 : x43_3 < (y109.length : Int):=of_decide_eq_true (by first|(with_reducible assumption)|assumption)
              obtain ⟨ad112,e112,hx112_0⟩:=Kd.at_int (Kd.R_reads' HO_41.out).2.2 x43_3 p112 q112
              cases e112
              replace p112:=eq_true p112
              replace q112:=eq_true q112
              go_wp2
              go_ret
              exact ⟨by first|rfl|(simp [errW_none,errW_some] <;> rfl)|(simp [*,errW_none,errW_some] <;> rfl),by repeat (first|(with_reducible first|exact HB.out|apply below_alloc|apply pw_below_drewN|apply below_drew1|refine below_set ?_ GE101.out)|exact HB.out)⟩
             ·rw [if_neg c31] at H
              have c31b0 : decide ((rd y109 x43_3) < 0) = false:=decide_eq_false c31
              clear c31
              by_cases c32 : (rd y109 x43_3) ≥ a0_0
              ·rw [if_pos c32] at H
               have c32b0 : decide (a0_0 ≤ (rd y109 x43_3)) = true:=decide_eq_true c32
               clear c32
               obtain rfl:=Option.some.inj H
               have p112 : 0 ≤ (x43_3 : Int):=of_decide_eq_true (by first|(with_reducible assumption)|assumption)
               have q112 : x43_3 < (y109.length : Int):=of_decide_eq_true (by first|(with_reducible assumption)|assumption)
               obtain ⟨ad112,e112,hx112_0⟩:=Kd.at_int (Kd.R_reads' HO_41.out).2.2 x43_3 p112 q112
               cases e112
               replace p112:=eq_true p112
               replace q112:=eq_true q112
               have hcz33_0 : wr.cell? ⟨gb101,0,none⟩ = some (.int .i64 a0_0):=(blk_cell BK101.out 0).trans rfl
               have hcz33_1 : wr.cell? ⟨gb101,1,none⟩ = some (.int .i64 a0_1):=(blk_cell BK101.out 1).trans rfl
               have hcz33_2 : wr.cell? ⟨gb101,2,none⟩ = some (.slice A0_2 l0_2.length c0_2):=(blk_cell BK101.out 2).trans rfl
               have hcz33_3 : wr.cell? ⟨gb101,3,none⟩ = some (.int .i64 a0_3):=(blk_cell BK101.out 3).trans rfl
               have hcz33_4 : wr.cell? ⟨gb101,4,none⟩ = some (.int .u32 a0_4):=(blk_cell BK101.out 4).trans rfl
               have hfz33_0:=blk_frozen BK101.out 0
               have hfz33_1:=blk_frozen BK101.out 1
               have hfz33_2:=blk_frozen BK101.out 2
               have hfz33_3:=blk_frozen BK101.out 3
               have hfz33_4:=blk_frozen BK101.out 4
               go_wp2
               go_ret
               exact ⟨by first|rfl|(simp [errW_none,errW_some] <;> rfl)|(simp [*,errW_none,errW_some] <;> rfl),by repeat (first|(with_reducible first|exact HB.out|apply below_alloc|apply pw_below_drewN|apply below_drew1|refine below_set ?_ GE101.out)|exact HB.out)⟩
              ·rw [if_neg c32] at H
               have c32b0 : decide (a0_0 ≤ (rd y109 x43_3)) = false:=decide_eq_false c32
               clear c32
               have H':=Aside0.mk H
               clear H
               have p112 : 0 ≤ (x43_3 : Int):=of_decide_eq_true (by first|(with_reducible assumption)|assumption)
               have q112 : x43_3 < (y109.length : Int):=of_decide_eq_true (by first|(with_reducible assumption)|assumption)
               obtain ⟨ad112,e112,hx112_0⟩:=Kd.at_int (Kd.R_reads' HO_41.out).2.2 x43_3 p112 q112
               cases e112
               replace p112:=eq_true p112
               replace q112:=eq_true q112
               have hcz34_0 : wr.cell? ⟨gb101,0,none⟩ = some (.int .i64 a0_0):=(blk_cell BK101.out 0).trans rfl
               have hcz34_1 : wr.cell? ⟨gb101,1,none⟩ = some (.int .i64 a0_1):=(blk_cell BK101.out 1).trans rfl
               have hcz34_2 : wr.cell? ⟨gb101,2,none⟩ = some (.slice A0_2 l0_2.length c0_2):=(blk_cell BK101.out 2).trans rfl
               have hcz34_3 : wr.cell? ⟨gb101,3,none⟩ = some (.int .i64 a0_3):=(blk_cell BK101.out 3).trans rfl
               have hcz34_4 : wr.cell? ⟨gb101,4,none⟩ = some (.int .u32 a0_4):=(blk_cell BK101.out 4).trans rfl
               have hfz34_0:=blk_frozen BK101.out 0
               have hfz34_1:=blk_frozen BK101.out 1
               have hfz34_2:=blk_frozen BK101.out 2
               have hfz34_3:=blk_frozen BK101.out 3
               have hfz34_4:=blk_frozen BK101.out 4
               go_wp2
               go_roundg k3
               case measure=>have:=HJ1.out;have:=HJ11.out;have:=HK3.out;omega
               case rel=>exact ⟨(wrap64 (x43_3 + 1)),(by first|rfl|(simp;done)|(simp [*];done)),H',⟨by have:=HJ1.out;have:=HJ11.out;have:=HK3.out;omega⟩,⟨by (with_reducible repeat (first|apply Kd.R_alloc|apply Kd.R_drewN|apply Kd.R_drew));exact HO_41.out⟩,⟨by (with_reducible repeat (first|refine blk_drewN ?_ _|refine blk_drew ?_|refine blk_alloc ?_ _));exact BK101.out⟩,⟨by repeat (first|(with_reducible first|exact HB.out|apply below_alloc|apply pw_below_drewN|apply below_drew1|refine below_set ?_ GE101.out)|exact HB.out)⟩⟩
            ·rw [if_neg c30] at H
             exact absurd H (by simp)
           ·rw [if_neg c29] at H
            exact absurd H (by simp)
          ·rw [if_neg c28] at H
           have c28b0 : decide (x43_3 < (y109.length : Int)) = false:=decide_eq_false c28
           clear c28
           by_cases c35 : 0 ≤ a0_0
           ·rw [if_pos c35] at H
            have c35b0:=eq_true c35
            have c35b1 : decide (0 ≤ a0_0) = true:=decide_eq_true c35
            clear c35
            obtain ⟨ji36,hji36⟩ : ∃ j_ : Int,(shr .u32 a0_4 a0_0) = j_:=⟨_,rfl⟩
            replace H : (if (ji36) = 0 then (some 0) else (some 4)) = some r:=by first|(rw [hji36] at H;exact H)|(simp only [hji36] at H ⊢;exact H)
            have hji36_ : (a0_4 / 2 ^ min a0_0.toNat 32) = ji36:=hji36
            have hji36z : a0_0 ≤ 32 → (a0_4 / 2 ^ a0_0.toNat) = ji36:=shr_small hji36
            by_cases c37 : (ji36) = 0
            ·rw [if_pos c37] at H
             have c37b0 : ((ji36) == 0) = true:=beq_iff_eq.mpr c37
             have c37b1 : ((ji36) != 0) = false:=bne_eq_false_iff_eq.mpr c37
             clear c37
             obtain rfl:=Option.some.inj H
             have hcz38_0 : wr.cell? ⟨gb101,0,none⟩ = some (.int .i64 a0_0):=(blk_cell BK101.out 0).trans rfl
             have hcz38_1 : wr.cell? ⟨gb101,1,none⟩ = some (.int .i64 a0_1):=(blk_cell BK101.out 1).trans rfl
             have hcz38_2 : wr.cell? ⟨gb101,2,none⟩ = some (.slice A0_2 l0_2.length c0_2):=(blk_cell BK101.out 2).trans rfl
             have hcz38_3 : wr.cell? ⟨gb101,3,none⟩ = some (.int .i64 a0_3):=(blk_cell BK101.out 3).trans rfl
             have hcz38_4 : wr.cell? ⟨gb101,4,none⟩ = some (.int .u32 a0_4):=(blk_cell BK101.out 4).trans rfl
             have hfz38_0:=blk_frozen BK101.out 0
             have hfz38_1:=blk_frozen BK101.out 1
             have hfz38_2:=blk_frozen BK101.out 2
             have hfz38_3:=blk_frozen BK101.out 3
             have hfz38_4:=blk_frozen BK101.out 4
             go_wp2
             go_ret
             exact ⟨by first|rfl|(simp [errW_none,errW_some] <;> rfl)|(simp only [← hji36];first|rfl|(simp [errW_none,errW_some] <;> rfl))|(simp [*,errW_none,errW_some] <;> rfl),by repeat (first|(with_reducible first|exact HB.out|apply below_alloc|apply pw_below_drewN|apply below_drew1|refine below_set ?_ GE101.out)|exact HB.out)⟩
            ·rw [if_neg c37] at H
             have c37b0 : ((ji36) == 0) = false:=beq_eq_false_iff_ne.mpr c37
             have c37b1 : ((ji36) != 0) = true:=bne_iff_ne.mpr c37
             obtain rfl:=Option.some.inj H
             have hcz39_0 : wr.cell? ⟨gb101,0,none⟩ = some (.int .i64 a0_0):=(blk_cell BK101.out 0).trans rfl
             have hcz39_1 : wr.cell? ⟨gb101,1,none⟩ = some (.int .i64 a0_1):=(blk_cell BK101.out 1).trans rfl
             have hcz39_2 : wr.cell? ⟨gb101,2,none⟩ = some (.slice A0_2 l0_2.length c0_2):=(blk_cell BK101.out 2).trans rfl
             have hcz39_3 : wr.cell? ⟨gb101,3,none⟩ = some (.int .i64 a0_3):=(blk_cell BK101.out 3).trans rfl
             have hcz39_4 : wr.cell? ⟨gb101,4,none⟩ = some (.int .u32 a0_4):=(blk_cell BK101.out 4).trans rfl
             have hfz39_0:=blk_frozen BK101.out 0
             have hfz39_1:=blk_frozen BK101.out 1
             have hfz39_2:=blk_frozen BK101.out 2
             have hfz39_3:=blk_frozen BK101.out 3
             have hfz39_4:=blk_frozen BK101.out 4
             go_wp2
             go_ret
             exact ⟨by first|rfl|(simp [errW_none,errW_some] <;> rfl)|(simp only [← hji36];first|rfl|(simp [errW_none,errW_some] <;> rfl))|(simp [*,errW_none,errW_some] <;> rfl),by repeat (first|(with_reducible first|exact HB.out|apply below_alloc|apply pw_below_drewN|apply below_drew1|refine below_set ?_ GE101.out)|exact HB.out)⟩
           ·rw [if_neg c35] at H
            exact absurd H (by simp)
       ·rw [if_neg c19] at H
        exact absurd H (by simp)
end Go.Proofs.Ythgiiikjcfhgjaa.GV
