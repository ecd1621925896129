-- Written by ext.py, a program of this session.
import Derived.Test.YtlkeemcapemkiaaGA0
import Derived.Test.YtlkeemcapemkiaaGA1
namespace Go.Proofs.Ytlkeemcapemkiaa.GA
open Go.RowKit Go.Proofs.YtlkeemcapemkiaaW.PrintWords Go.Proofs.YtlkeemcapemkiaaW.PrintLast Go.Proofs.YtlkeemcapemkiaaW.PrintMore
attribute [local go_sem] max2_int min2_int max_two min_two max_three min_three max_four min_four cellIs_set   -- for this text's walks alone
set_option linter.unusedVariables false
set_option linter.unusedSimpArgs false
/-! ### turner_Check: function 9 -/
def turner_Check_any.f (l0 : List (List Int)) : Option Bool:=some (l0.any fun l=>decide ((l.length : Int) > 4))
set_option maxHeartbeats 2000000 in
theorem turner_Check_any.idx (g : Nat) (lb : Array Value) (eg : ∀ args w,(callFunc g args).run Try.prog w = .ok (.enter g args) w) (A : Option Addr) (n c : Nat) (raw : Nat → Value) (p : Nat → Bool) (w : World) (hbig : n ≤ 9223372036854775807) (hc : ∀ j,j < n → ∃ ad,A = some ad ∧ w.cell? (ad.add j) = some (raw j))
  (hp : ∀ W j,j < n → Below w.heap.size w W → Calls Try.prog g (#[raw j] ++ lb) W fun e w'=>e = .returned (.bool (p j)) ∧ ∃ q,w' = W.drewN q) :
  Calls Try.prog 20 #[.slice A n c,.func (.func g) #[] lb] w fun e w'=>(∃ r : Int,e = .returned (.int .i64 r) ∧ (0 ≤ r ↔ ∃ j,j < n ∧ p j = true)) ∧ ∃ q,w' = w.drewN q:=by
 go_enter Try.func20,Try.ntmps20
 go_wp2
 go_loopg [5,8] n (fun gg _ s8 wr=>∃ kk q : Nat,kk ≤ n ∧ n - kk ≤ gg ∧ s8 = .int .i64 kk ∧ wr = w.drewN q ∧ Aside0 (∀ j,j < kk → p j = false))
 case atStart=>exact ⟨0,0,Nat.zero_le _,by omega,rfl,rfl,⟨fun j hj=>absurd hj (Nat.not_lt_zero _)⟩⟩
 case round =>
  obtain ⟨kk,q,hkk,hg,rfl,rfl,A0⟩:=hrel
  by_cases hlt : kk < n
  ·have hltz : (kk : Int) < (n : Int):=by omega
   obtain ⟨ad,rfl,hcell⟩:=hc kk hlt
   have hcall:=fun q=>hp (w.drewN q) kk hlt (pw_below_drewN (Below.refl _ w) q)
   clear hc hp
   obtain ⟨b,off,lab⟩:=ad
   generalize raw kk = y at hcell hcall
   cases hq : p kk with
   | true =>
    rw [hq] at hcall
    go_wp2_with (go_at_fn g;refine (hcall _).mono ?_;rintro e w' ⟨rfl,q',rfl⟩)
    go_ret
    exact ⟨⟨(kk : Int),rfl,⟨fun _=>⟨kk,hlt,hq⟩,fun _=>by omega⟩⟩,_,rfl⟩
   | false =>
    rw [hq] at hcall
    go_wp2_with (go_at_fn g;refine (hcall _).mono ?_;rintro e w' ⟨rfl,q',rfl⟩)
    go_roundg (n - (kk + 1))
    case measure=>omega
    case rel =>
     refine ⟨kk + 1,_,by omega,by omega,by go_num,rfl,⟨fun j hj=>?_⟩⟩
     by_cases e : j = kk
     ·subst e;exact hq
     ·exact A0.out j (by omega)
  ·have hltz : ¬ (kk : Int) < (n : Int):=by omega
   have : kk = n:=by omega
   subst this
   go_wp2
   go_ret
   refine ⟨⟨-1,rfl,⟨fun h=>absurd h (by decide),fun ⟨j,hj,hj2⟩=>?_⟩⟩,q,rfl⟩
   rw [A0.out j hj] at hj2
   exact absurd hj2 (by decide)
set_option maxHeartbeats 2000000 in
theorem turner_Check_any.any (g : Nat) (lb : Array Value) (eg : ∀ args w,(callFunc g args).run Try.prog w = .ok (.enter g args) w) (A : Option Addr) (n c : Nat) (raw : Nat → Value) (p : Nat → Bool) (w : World) (hbig : n ≤ 9223372036854775807) (hc : ∀ j,j < n → ∃ ad,A = some ad ∧ w.cell? (ad.add j) = some (raw j))
  (hp : ∀ W j,j < n → Below w.heap.size w W → Calls Try.prog g (#[raw j] ++ lb) W fun e w'=>e = .returned (.bool (p j)) ∧ ∃ q,w' = W.drewN q) (b : Bool) (hb : b = true ↔ ∃ j,j < n ∧ p j = true) :
  Calls Try.prog 14 #[.slice A n c,.func (.func g) #[] lb] w fun e w'=>e = .returned (.bool b) ∧ ∃ q,w' = w.drewN q:=by
 have hI0:=turner_Check_any.idx g lb eg A n c raw p w hbig hc hp
 have hI:=fun q=>turner_Check_any.idx g lb eg A n c raw p (w.drewN q) hbig (fun j hj=>hc j hj) (fun W j hj hB=>hp W j hj ((pw_below_drewN (Below.refl _ w) q).trans hB))
 clear hc hp
 go_enter Try.func14,Try.ntmps14
 go_wp2_with (go_at_call 20;(first|refine hI0.mono ?_|refine (hI _).mono ?_);rintro e w' ⟨⟨r,rfl,hr⟩,q',rfl⟩)
 go_ret
 refine ⟨?_,_,rfl⟩
 have : decide (0 ≤ r) = b:=by
  rw [Bool.eq_iff_iff,decide_eq_true_iff,hr,hb]
 first|rw [this]|(subst this;rfl)|(simp [← this,hr];done)
theorem turner_Check_any.lit (A : Option Addr) (n c : Nat) (w : World) :
  Calls Try.prog 15 #[.slice A n c] w fun e w'=>e = .returned (.bool (decide ((n : Int) > 4))) ∧ ∃ q,w' = w.drewN q:=by
 go_enter Try.func15,Try.ntmps15
 go_wp2
 go_ret
 first|exact ⟨rfl,_,rfl⟩|exact ⟨rfl,0,rfl⟩
theorem turner_Check_any.calls (A0 : Option Addr) (c0 : Nat) (l0 : List (List Int)) (r : Bool) (w : World) (hr0 : Kd.C (Kd.slice 3 (Kd.int .i64)) w A0 l0.length l0) (hc0 : l0.length ≤ c0) (h : turner_Check_any.f l0 = some r) :
  Calls Try.prog 14 #[.slice A0 l0.length c0,.func (.func 15) #[] #[]] w fun e w'=>e = .returned (.bool r) ∧ Drawn0 w w':=by
 unfold turner_Check_any.f at h
 have hr:=Option.some.inj h
 have hcell : ∀ kk : Nat,kk < l0.length → ∃ ad,A0 = some ad ∧ ∃ A' c',w.cell? (ad.add kk) = some (.slice A' (l0.getD kk []).length c'):=fun kk hkk=>by
  obtain ⟨ad,cs',e,_,⟨A',c',rfl,_,hC⟩,hcl⟩:=ReadsRow.get_ hr0 [] (kk : Int) (by omega) (by omega)
  have h2:=hcl 0 _ rfl
  rw [show (Kd.slice 3 (Kd.int .i64)).sz = 1 from rfl,Nat.mul_one,Nat.add_zero,Int.toNat_natCast] at h2
  exact ⟨ad,e,A',c',h2⟩
 have hraw : ∃ raw : Nat → Value,∀ kk,kk < l0.length → (∃ A' c',raw kk = .slice A' (l0.getD kk []).length c') ∧ ∃ ad,A0 = some ad ∧ w.cell? (ad.add kk) = some (raw kk):=by
  refine ⟨fun kk=>if h : kk < l0.length then .slice (hcell kk h).choose_spec.2.choose (l0.getD kk []).length (hcell kk h).choose_spec.2.choose_spec.choose else .bool false,fun kk hkk=>?_⟩
  simp only [dif_pos hkk]
  exact ⟨⟨_,_,rfl⟩,_,(hcell kk hkk).choose_spec.1,(hcell kk hkk).choose_spec.2.choose_spec.choose_spec⟩
 obtain ⟨raw,hraw⟩:=hraw
 have hl : l0.length ≤ 9223372036854775807:=hr0.2.1
 refine (turner_Check_any.any 15 #[] (enters_of Try.func15 (by kernel_rfl) rfl) A0 l0.length c0 raw (fun j=>decide (((l0.getD j []).length : Int) > 4)) w hl (fun j hj=>(hraw j hj).2) (fun W j hj hb=>?_) r ?_).mono ?_
 ·obtain ⟨A',c',e⟩:=(hraw j hj).1
  rw [e]
  exact turner_Check_any.lit A' _ c' W
 ·rw [← hr,List.any_eq_true]
  constructor
  ·rintro ⟨x,hx,hx2⟩
   obtain ⟨j,hj,rfl⟩:=List.getElem_of_mem hx
   refine ⟨j,hj,?_⟩
   rwa [List.getD_eq_getElem?_getD,List.getElem?_eq_getElem hj]
  ·rintro ⟨j,hj,hj2⟩
   rw [List.getD_eq_getElem?_getD,List.getElem?_eq_getElem hj] at hj2
   exact ⟨_,List.getElem_mem hj,hj2⟩
 ·rintro e w' ⟨rfl,q,rfl⟩
  exact ⟨rfl,⟨⟨q,rfl⟩⟩⟩
mutual
def turner_Check.j0 : Nat → Bool → Int → Int → Int → List (List Int) → List (List (List Int)) → Int → Option (Int)
 | 0,_,_,_,_,_,_,_=>none
 | k + 1,x32,x102000,x102001,x102002,x102003,x102004,x102005=>if x32 = true then (some 1) else (if (x102003.length : Int) = x102000 then (turner_Check.j1 k ((x102004.length : Int) != x102000) x102000 x102001 x102002 x102003 x102004 x102005) else (turner_Check.j1 k true x102000 x102001 x102002 x102003 x102004 x102005))
def turner_Check.j1 : Nat → Bool → Int → Int → Int → List (List Int) → List (List (List Int)) → Int → Option (Int)
 | 0,_,_,_,_,_,_,_=>none
 | k + 1,x46,x102000,x102001,x102002,x102003,x102004,x102005=>if x46 = true then (some 3) else (turner_Check.l0 k x102000 0 x102000 x102001 x102002 x102003 x102004 x102005)
def turner_Check.l0 : Nat → Int → Int → Int → Int → Int → List (List Int) → List (List (List Int)) → Int → Option (Int)
 | 0,_,_,_,_,_,_,_,_=>none
 | k + 1,x48,x49,x102000,x102001,x102002,x102003,x102004,x102005=>if x49 < x48 then (if 0 ≤ x49 then (if x49 < (x102003.length : Int) then (if ((rd_L1 x102003 x49).length : Int) = x102001 then (if x49 < (x102004.length : Int) then (if ((rd_L2 x102004 x49).length : Int) = x102001 then (turner_Check.l0 k x48 (wrap64 (x49 + 1)) x102000 x102001 x102002 x102003 x102004 x102005) else (some 3)) else (none)) else (some 3)) else (none)) else (none)) else ((slices_Concat_int_int_13.f x102004).bind fun t104=>((turner_Check_any.f t104).bind fun t107=>(if t107 = true then (some 1) else ((slices_Concat_int_int_16.f x102003).bind fun t108=>((some (([x102005] : List Int) : List Int)).bind fun y111=>(if t108.length + y111.length < 17592186044416 then ((some (t108 ++ y111 : List Int)).bind fun y114=>(turner_Check.l1 k t104 y114 (y114.length : Int) 0 x102000 x102001 x102002 x102003 x102004 x102005)) else (none)))))))
def turner_Check.l1 : Nat → List (List Int) → List Int → Int → Int → Int → Int → Int → List (List Int) → List (List (List Int)) → Int → Option (Int)
 | 0,_,_,_,_,_,_,_,_,_,_=>none
 | k + 1,x4,x84,x85,x86,x102000,x102001,x102002,x102003,x102004,x102005=>if x86 < x85 then (if 0 ≤ x86 then (if x86 < (x84.length : Int) then (if (rd x84 x86) < 0 then (some 2) else (if (rd x84 x86) ≥ x102000 then (some 2) else (turner_Check.l1 k x4 x84 x85 (wrap64 (x86 + 1)) x102000 x102001 x102002 x102003 x102004 x102005))) else (none)) else (none)) else ((slices_Concat_int_int_16.f x4).bind fun t118=>(turner_Check.l2 k t118 (t118.length : Int) 0 x102000 x102001 x102002 x102003 x102004 x102005))
def turner_Check.l2 : Nat → List Int → Int → Int → Int → Int → Int → List (List Int) → List (List (List Int)) → Int → Option (Int)
 | 0,_,_,_,_,_,_,_,_,_=>none
 | k + 1,x100,x101,x102,x102000,x102001,x102002,x102003,x102004,x102005=>if x102 < x101 then (if 0 ≤ x102 then (if x102 < (x100.length : Int) then (if (rd x100 x102) < 0 then (some 2) else (if (rd x100 x102) ≥ x102002 then (some 2) else (turner_Check.l2 k x100 x101 (wrap64 (x102 + 1)) x102000 x102001 x102002 x102003 x102004 x102005))) else (none)) else (none)) else (some 0)
end
def turner_Check.f (k : Nat) (a0_0 : Int) (a0_1 : Int) (a0_2 : Int) (l0_3 : List (List Int)) (l0_4 : List (List (List Int))) (a0_5 : Int) : Option (Int):=if a0_0 < 1 then (turner_Check.j0 k true a0_0 a0_1 a0_2 l0_3 l0_4 a0_5) else (if a0_0 > 7 then (turner_Check.j0 k true a0_0 a0_1 a0_2 l0_3 l0_4 a0_5) else (if (mn a0_1 a0_2) < 1 then (turner_Check.j0 k true a0_0 a0_1 a0_2 l0_3 l0_4 a0_5) else (turner_Check.j0 k (decide ((mx a0_1 a0_2) > 3)) a0_0 a0_1 a0_2 l0_3 l0_4 a0_5)))
theorem turner_Check.mono_l : ∀ k,(∀ y0 y1 y2 y3 y4 y5 y6,LeO (turner_Check.j0 k y0 y1 y2 y3 y4 y5 y6) (turner_Check.j0 (k + 1) y0 y1 y2 y3 y4 y5 y6)) ∧ (∀ y0 y1 y2 y3 y4 y5 y6,LeO (turner_Check.j1 k y0 y1 y2 y3 y4 y5 y6) (turner_Check.j1 (k + 1) y0 y1 y2 y3 y4 y5 y6)) ∧ (∀ y0 y1 y2 y3 y4 y5 y6 y7,LeO (turner_Check.l0 k y0 y1 y2 y3 y4 y5 y6 y7) (turner_Check.l0 (k + 1) y0 y1 y2 y3 y4 y5 y6 y7)) ∧ (∀ y0 y1 y2 y3 y4 y5 y6 y7 y8 y9,LeO (turner_Check.l1 k y0 y1 y2 y3 y4 y5 y6 y7 y8 y9) (turner_Check.l1 (k + 1) y0 y1 y2 y3 y4 y5 y6 y7 y8 y9)) ∧ (∀ y0 y1 y2 y3 y4 y5 y6 y7 y8,LeO (turner_Check.l2 k y0 y1 y2 y3 y4 y5 y6 y7 y8) (turner_Check.l2 (k + 1) y0 y1 y2 y3 y4 y5 y6 y7 y8))
 | 0=>⟨fun _ _ _ _ _ _ _ r h=>by simp [turner_Check.j0] at h,fun _ _ _ _ _ _ _ r h=>by simp [turner_Check.j1] at h,fun _ _ _ _ _ _ _ _ r h=>by simp [turner_Check.l0] at h,fun _ _ _ _ _ _ _ _ _ _ r h=>by simp [turner_Check.l1] at h,fun _ _ _ _ _ _ _ _ _ r h=>by simp [turner_Check.l2] at h⟩
 | k + 1=>by
  obtain ⟨ih0,ih1,ih2,ih3,ih4⟩:=turner_Check.mono_l k
  refine ⟨?_,?_,?_,?_,?_⟩
  ·intro y0 y1 y2 y3 y4 y5 y6
   unfold turner_Check.j0
   repeat' first
   | (with_reducible exact ih0 _ _ _ _ _ _ _)
   | (with_reducible exact ih1 _ _ _ _ _ _ _)
   | (with_reducible exact ih2 _ _ _ _ _ _ _ _)
   | (with_reducible exact ih3 _ _ _ _ _ _ _ _ _ _)
   | (with_reducible exact ih4 _ _ _ _ _ _ _ _ _)
   | (with_reducible exact LeO.refl _)
   | (with_reducible exact LeO.none _)
   | (with_reducible refine LeO.ite ?_ ?_)
   | (with_reducible refine LeO.bind ?_ (fun _=>?_))
   | exact ih0 _ _ _ _ _ _ _
   | exact ih1 _ _ _ _ _ _ _
   | exact ih2 _ _ _ _ _ _ _ _
   | exact ih3 _ _ _ _ _ _ _ _ _ _
   | exact ih4 _ _ _ _ _ _ _ _ _
   | exact LeO.none _
   | refine LeO.ite ?_ ?_
   | refine LeO.bind ?_ (fun _=>?_)
  ·intro y0 y1 y2 y3 y4 y5 y6
   unfold turner_Check.j1
   repeat' first
   | (with_reducible exact ih0 _ _ _ _ _ _ _)
   | (with_reducible exact ih1 _ _ _ _ _ _ _)
   | (with_reducible exact ih2 _ _ _ _ _ _ _ _)
   | (with_reducible exact ih3 _ _ _ _ _ _ _ _ _ _)
   | (with_reducible exact ih4 _ _ _ _ _ _ _ _ _)
   | (with_reducible exact LeO.refl _)
   | (with_reducible exact LeO.none _)
   | (with_reducible refine LeO.ite ?_ ?_)
   | (with_reducible refine LeO.bind ?_ (fun _=>?_))
   | exact ih0 _ _ _ _ _ _ _
   | exact ih1 _ _ _ _ _ _ _
   | exact ih2 _ _ _ _ _ _ _ _
   | exact ih3 _ _ _ _ _ _ _ _ _ _
   | exact ih4 _ _ _ _ _ _ _ _ _
   | exact LeO.none _
   | refine LeO.ite ?_ ?_
   | refine LeO.bind ?_ (fun _=>?_)
  ·intro y0 y1 y2 y3 y4 y5 y6 y7
   unfold turner_Check.l0
   repeat' first
   | (with_reducible exact ih0 _ _ _ _ _ _ _)
   | (with_reducible exact ih1 _ _ _ _ _ _ _)
   | (with_reducible exact ih2 _ _ _ _ _ _ _ _)
   | (with_reducible exact ih3 _ _ _ _ _ _ _ _ _ _)
   | (with_reducible exact ih4 _ _ _ _ _ _ _ _ _)
   | (with_reducible exact LeO.refl _)
   | (with_reducible exact LeO.none _)
   | (with_reducible refine LeO.ite ?_ ?_)
   | (with_reducible refine LeO.bind ?_ (fun _=>?_))
   | exact ih0 _ _ _ _ _ _ _
   | exact ih1 _ _ _ _ _ _ _
   | exact ih2 _ _ _ _ _ _ _ _
   | exact ih3 _ _ _ _ _ _ _ _ _ _
   | exact ih4 _ _ _ _ _ _ _ _ _
   | exact LeO.none _
   | refine LeO.ite ?_ ?_
   | refine LeO.bind ?_ (fun _=>?_)
  ·intro y0 y1 y2 y3 y4 y5 y6 y7 y8 y9
   unfold turner_Check.l1
   repeat' first
   | (with_reducible exact ih0 _ _ _ _ _ _ _)
   | (with_reducible exact ih1 _ _ _ _ _ _ _)
   | (with_reducible exact ih2 _ _ _ _ _ _ _ _)
   | (with_reducible exact ih3 _ _ _ _ _ _ _ _ _ _)
   | (with_reducible exact ih4 _ _ _ _ _ _ _ _ _)
   | (with_reducible exact LeO.refl _)
   | (with_reducible exact LeO.none _)
   | (with_reducible refine LeO.ite ?_ ?_)
   | (with_reducible refine LeO.bind ?_ (fun _=>?_))
   | exact ih0 _ _ _ _ _ _ _
   | exact ih1 _ _ _ _ _ _ _
   | exact ih2 _ _ _ _ _ _ _ _
   | exact ih3 _ _ _ _ _ _ _ _ _ _
   | exact ih4 _ _ _ _ _ _ _ _ _
   | exact LeO.none _
   | refine LeO.ite ?_ ?_
   | refine LeO.bind ?_ (fun _=>?_)
  ·intro y0 y1 y2 y3 y4 y5 y6 y7 y8
   unfold turner_Check.l2
   repeat' first
   | (with_reducible exact ih0 _ _ _ _ _ _ _)
   | (with_reducible exact ih1 _ _ _ _ _ _ _)
   | (with_reducible exact ih2 _ _ _ _ _ _ _ _)
   | (with_reducible exact ih3 _ _ _ _ _ _ _ _ _ _)
   | (with_reducible exact ih4 _ _ _ _ _ _ _ _ _)
   | (with_reducible exact LeO.refl _)
   | (with_reducible exact LeO.none _)
   | (with_reducible refine LeO.ite ?_ ?_)
   | (with_reducible refine LeO.bind ?_ (fun _=>?_))
   | exact ih0 _ _ _ _ _ _ _
   | exact ih1 _ _ _ _ _ _ _
   | exact ih2 _ _ _ _ _ _ _ _
   | exact ih3 _ _ _ _ _ _ _ _ _ _
   | exact ih4 _ _ _ _ _ _ _ _ _
   | exact LeO.none _
   | refine LeO.ite ?_ ?_
   | refine LeO.bind ?_ (fun _=>?_)
theorem turner_Check.mono : ∀ a0 a1 a2 a3 a4 a5 k,LeO (turner_Check.f k a0 a1 a2 a3 a4 a5) (turner_Check.f (k + 1) a0 a1 a2 a3 a4 a5):=by
 intro a0 a1 a2 a3 a4 a5 k
 obtain ⟨ih0,ih1,ih2,ih3,ih4⟩:=turner_Check.mono_l k
 unfold turner_Check.f
 repeat' first
   | (with_reducible exact ih0 _ _ _ _ _ _ _)
   | (with_reducible exact ih1 _ _ _ _ _ _ _)
   | (with_reducible exact ih2 _ _ _ _ _ _ _ _)
   | (with_reducible exact ih3 _ _ _ _ _ _ _ _ _ _)
   | (with_reducible exact ih4 _ _ _ _ _ _ _ _ _)
   | (with_reducible exact LeO.refl _)
   | (with_reducible exact LeO.none _)
   | (with_reducible refine LeO.ite ?_ ?_)
   | (with_reducible refine LeO.bind ?_ (fun _=>?_))
   | exact ih0 _ _ _ _ _ _ _
   | exact ih1 _ _ _ _ _ _ _
   | exact ih2 _ _ _ _ _ _ _ _
   | exact ih3 _ _ _ _ _ _ _ _ _ _
   | exact ih4 _ _ _ _ _ _ _ _ _
   | exact LeO.none _
   | refine LeO.ite ?_ ?_
   | refine LeO.bind ?_ (fun _=>?_)
def turner_Check.T8 : Bool × List (List Nat × List Nat):=(true,[([],[]),([0],[0]),([],[]),([1,2],[1,2]),([3],[3]),([4],[4]),([],[]),([6],[6]),([5,7],[5,7]),([8],[8]),([9],[9]),([10,9],[9,10]),([9],[9]),([11,12,9],[9,11,12]),([13,9],[9,13]),([14,9],[9,14]),([9],[9]),([16,9],[9,16]),([15,17,9],[9,15,17]),([9,18],[9,18])])
def turner_Check.B8 : List Nat:=[0,1,0,7,15,31,0,64,255,511,1023,2047,1023,8191,16383,32767,1023,66559,262143,524287]
theorem turner_Check.tab8 : rtab .any (opsOf Try.f9 8) = turner_Check.T8:=by kernel_rfl
theorem turner_Check.bits8 : waitsOk turner_Check.T8.2 turner_Check.B8 = true:=by kernel_rfl
def turner_Check.T14 : Bool × List (List Nat × List Nat):=(true,[([],[]),([0],[0]),([1],[1]),([],[]),([3],[3]),([4],[4]),([2,5,2],[2,5]),([6],[6]),([],[])])
def turner_Check.B14 : List Nat:=[0,1,3,0,8,24,63,127,0]
theorem turner_Check.tab14 : rtab .any (opsOf Try.f9 14) = turner_Check.T14:=by kernel_rfl
theorem turner_Check.bits14 : waitsOk turner_Check.T14.2 turner_Check.B14 = true:=by kernel_rfl
set_option maxHeartbeats 8000000 in
set_option maxRecDepth 100000 in
theorem turner_Check.calls (k : Nat) (a0_0 : Int) (a0_1 : Int) (a0_2 : Int) (A0_3 : Option Addr) (c0_3 : Nat) (l0_3 : List (List Int)) (A0_4 : Option Addr) (c0_4 : Nat) (l0_4 : List (List (List Int))) (a0_5 : Int) (r : Int) (w : World) (hr0_3 : Kd.C (Kd.slice 3 (Kd.int .i64)) w A0_3 l0_3.length l0_3) (hc0_3 : l0_3.length ≤ c0_3) (hr0_4 : Kd.C (Kd.slice 26 (Kd.slice 3 (Kd.int .i64))) w A0_4 l0_4.length l0_4) (hc0_4 : l0_4.length ≤ c0_4) (h : turner_Check.f k a0_0 a0_1 a0_2 l0_3 l0_4 a0_5 = some r) :
  Calls Try.prog 9 #[.agg #[.int .i64 a0_0,.int .i64 a0_1,.int .i64 a0_2,.slice A0_3 l0_3.length c0_3,.slice A0_4 l0_4.length c0_4,.int .i64 a0_5]] w fun e w'=>e = .returned (.int .i64 r) ∧ Below w.heap.size w w':=by
 have hu25:=Try.underlying25
 have HR0_3:=Aside0.mk hr0_3
 have HC0_3:=Aside0.mk hc0_3
 clear hr0_3 hc0_3
 have HR0_4:=Aside0.mk hr0_4
 have HC0_4:=Aside0.mk hc0_4
 clear hr0_4 hc0_4
 have HB:=Aside0.mk (Below.refl w.heap.size w)
 have H : (if a0_0 < 1 then (turner_Check.j0 k true a0_0 a0_1 a0_2 l0_3 l0_4 a0_5) else (if a0_0 > 7 then (turner_Check.j0 k true a0_0 a0_1 a0_2 l0_3 l0_4 a0_5) else (if (mn a0_1 a0_2) < 1 then (turner_Check.j0 k true a0_0 a0_1 a0_2 l0_3 l0_4 a0_5) else (turner_Check.j0 k (decide ((mx a0_1 a0_2) > 3)) a0_0 a0_1 a0_2 l0_3 l0_4 a0_5)))) = some r:=h
 clear h
 have HC2:=Aside0.mk H
 clear H
 go_enter Try.func9,Try.ntmps9
 go_upto_region 1 with (first|((with_reducible refine gate_dst (N:=1) rfl ?_);(try (refine gate_guard (by rfl) ?_;dsimp only));refine box_event ?hg (N:=1) ?hd (cs:=#[.int .i64 a0_0,.int .i64 a0_1,.int .i64 a0_2,.slice A0_3 l0_3.length c0_3,.slice A0_4 l0_4.length c0_4,.int .i64 a0_5]) (t:=25) ?hr ?_;(case hd=>rfl);(case hg=>rfl);(case hr=>first|(go_simp;done)|(go_simp;rfl));intro gb101 hg w3 hbox hb;have n0_:=Aside0.mk (below_step (by repeat (first|(with_reducible first|exact HB.out|apply below_alloc|apply pw_below_drewN|apply below_drew1)|exact HB.out)) hb);have n1_:=Aside0.mk (hbox);have n2_:=Aside0.mk ((by rw [hg];exact (below_size (by repeat (first|(with_reducible first|exact HB.out|apply below_alloc|apply pw_below_drewN|apply below_drew1)|exact HB.out))) : w.heap.size ≤ gb101));have n3_:=Aside0.mk ((by rw [hg];exact (below_size (by repeat (first|(with_reducible first|exact HB.out|apply below_alloc|apply pw_below_drewN|apply below_drew1)|exact HB.out))) : w.heap.size ≤ gb101));clear HB;have HB:=n0_;have BK101:=n1_;have GW101:=n2_;have GE101:=n3_;clear n0_ n1_ n2_ n3_;clear hb hbox hg))
 (try simp only [Act.put,List.setIfInBounds_toArray,List.set_cons_zero,List.set_cons_succ])
 go_cut [32] (fun v32 wc=>∃ (kq : Nat) (x32_1 : Bool),v32 = .bool x32_1 ∧ Aside0 (turner_Check.j0 kq x32_1 a0_0 a0_1 a0_2 l0_3 l0_4 a0_5 = some r) ∧ Aside0 (kq ≤ k) ∧ Aside0 (wc.heap[gb101]? = some (.cells #[.int .i64 a0_0,.int .i64 a0_1,.int .i64 a0_2,(.slice A0_3 l0_3.length c0_3),(.slice A0_4 l0_4.length c0_4),.int .i64 a0_5] 25 (0,0))) ∧ Aside0 (Below w.heap.size w wc))
 case first =>
  have H:=HC2.out
  clear HC2
  by_cases c4 : a0_0 < 1
  ·rw [if_pos c4] at H
   have c4b0 : decide (a0_0 < 1) = true:=decide_eq_true c4
   clear c4
   (first|rw [c4b0]|(simp only [i64_w,i32_w];rw [c4b0])|skip)
   have H':=Aside0.mk H
   clear H
   have hcz5_0 : w3.cell? ⟨gb101,0,none⟩ = some (.int .i64 a0_0):=(blk_cell BK101.out 0).trans rfl
   have hcz5_1 : w3.cell? ⟨gb101,1,none⟩ = some (.int .i64 a0_1):=(blk_cell BK101.out 1).trans rfl
   have hcz5_2 : w3.cell? ⟨gb101,2,none⟩ = some (.int .i64 a0_2):=(blk_cell BK101.out 2).trans rfl
   have hcz5_3 : w3.cell? ⟨gb101,3,none⟩ = some (.slice A0_3 l0_3.length c0_3):=(blk_cell BK101.out 3).trans rfl
   have hcz5_4 : w3.cell? ⟨gb101,4,none⟩ = some (.slice A0_4 l0_4.length c0_4):=(blk_cell BK101.out 4).trans rfl
   have hcz5_5 : w3.cell? ⟨gb101,5,none⟩ = some (.int .i64 a0_5):=(blk_cell BK101.out 5).trans rfl
   have hfz5_0:=blk_frozen BK101.out 0
   have hfz5_1:=blk_frozen BK101.out 1
   have hfz5_2:=blk_frozen BK101.out 2
   have hfz5_3:=blk_frozen BK101.out 3
   have hfz5_4:=blk_frozen BK101.out 4
   have hfz5_5:=blk_frozen BK101.out 5
   go_wp2
   go_meet
   case rel=>exact ⟨_,(true),(by first|rfl|(simp;done)|(simp [*];done)),H',⟨by first|omega|exact Nat.le_refl _⟩,⟨by (with_reducible repeat (first|refine blk_drewN ?_ _|refine blk_drew ?_|refine blk_alloc ?_ _));exact BK101.out⟩,⟨by repeat (first|(with_reducible first|exact HB.out|apply below_alloc|apply pw_below_drewN|apply below_drew1|refine below_set ?_ GE101.out)|exact HB.out)⟩⟩
  ·rw [if_neg c4] at H
   have c4b0 : decide (a0_0 < 1) = false:=decide_eq_false c4
   clear c4
   (first|rw [c4b0]|(simp only [i64_w,i32_w];rw [c4b0])|skip)
   by_cases c6 : a0_0 > 7
   ·rw [if_pos c6] at H
    have c6b0 : decide (7 < a0_0) = true:=decide_eq_true c6
    clear c6
    have H':=Aside0.mk H
    clear H
    have hcz7_0 : w3.cell? ⟨gb101,0,none⟩ = some (.int .i64 a0_0):=(blk_cell BK101.out 0).trans rfl
    have hcz7_1 : w3.cell? ⟨gb101,1,none⟩ = some (.int .i64 a0_1):=(blk_cell BK101.out 1).trans rfl
    have hcz7_2 : w3.cell? ⟨gb101,2,none⟩ = some (.int .i64 a0_2):=(blk_cell BK101.out 2).trans rfl
    have hcz7_3 : w3.cell? ⟨gb101,3,none⟩ = some (.slice A0_3 l0_3.length c0_3):=(blk_cell BK101.out 3).trans rfl
    have hcz7_4 : w3.cell? ⟨gb101,4,none⟩ = some (.slice A0_4 l0_4.length c0_4):=(blk_cell BK101.out 4).trans rfl
    have hcz7_5 : w3.cell? ⟨gb101,5,none⟩ = some (.int .i64 a0_5):=(blk_cell BK101.out 5).trans rfl
    have hfz7_0:=blk_frozen BK101.out 0
    have hfz7_1:=blk_frozen BK101.out 1
    have hfz7_2:=blk_frozen BK101.out 2
    have hfz7_3:=blk_frozen BK101.out 3
    have hfz7_4:=blk_frozen BK101.out 4
    have hfz7_5:=blk_frozen BK101.out 5
    go_wp2
    go_meet
    case rel=>exact ⟨_,(true),(by first|rfl|(simp;done)|(simp [*];done)),H',⟨by first|omega|exact Nat.le_refl _⟩,⟨by (with_reducible repeat (first|refine blk_drewN ?_ _|refine blk_drew ?_|refine blk_alloc ?_ _));exact BK101.out⟩,⟨by repeat (first|(with_reducible first|exact HB.out|apply below_alloc|apply pw_below_drewN|apply below_drew1|refine below_set ?_ GE101.out)|exact HB.out)⟩⟩
   ·rw [if_neg c6] at H
    have c6b0 : decide (7 < a0_0) = false:=decide_eq_false c6
    clear c6
    obtain ⟨ji8,hji8⟩ : ∃ j_ : Int,(mn a0_1 a0_2) = j_:=⟨_,rfl⟩
    replace H : (if (ji8) < 1 then (turner_Check.j0 k true a0_0 a0_1 a0_2 l0_3 l0_4 a0_5) else (turner_Check.j0 k (decide ((mx a0_1 a0_2) > 3)) a0_0 a0_1 a0_2 l0_3 l0_4 a0_5)) = some r:=by first|(rw [hji8] at H;exact H)|(simp only [hji8] at H ⊢;exact H)
    have hji8_ : (if a0_2 < a0_1 then a0_2 else a0_1) = ji8:=hji8
    by_cases c9 : (ji8) < 1
    ·rw [if_pos c9] at H
     have c9b0 : decide ((ji8) < 1) = true:=decide_eq_true c9
     clear c9
     have H':=Aside0.mk H
     clear H
     have hcz10_0 : w3.cell? ⟨gb101,0,none⟩ = some (.int .i64 a0_0):=(blk_cell BK101.out 0).trans rfl
     have hcz10_1 : w3.cell? ⟨gb101,1,none⟩ = some (.int .i64 a0_1):=(blk_cell BK101.out 1).trans rfl
     have hcz10_2 : w3.cell? ⟨gb101,2,none⟩ = some (.int .i64 a0_2):=(blk_cell BK101.out 2).trans rfl
     have hcz10_3 : w3.cell? ⟨gb101,3,none⟩ = some (.slice A0_3 l0_3.length c0_3):=(blk_cell BK101.out 3).trans rfl
     have hcz10_4 : w3.cell? ⟨gb101,4,none⟩ = some (.slice A0_4 l0_4.length c0_4):=(blk_cell BK101.out 4).trans rfl
     have hcz10_5 : w3.cell? ⟨gb101,5,none⟩ = some (.int .i64 a0_5):=(blk_cell BK101.out 5).trans rfl
     have hfz10_0:=blk_frozen BK101.out 0
     have hfz10_1:=blk_frozen BK101.out 1
     have hfz10_2:=blk_frozen BK101.out 2
     have hfz10_3:=blk_frozen BK101.out 3
     have hfz10_4:=blk_frozen BK101.out 4
     have hfz10_5:=blk_frozen BK101.out 5
     go_wp2
     first|go_meet|((simp only [← hji8]);go_meet)
     case rel=>exact ⟨_,(true),(by first|rfl|(simp;done)|(simp [*];done)),(by first|exact H'|((simp only [hji8]);exact H')|(have h_:=H'.out;simp only [← hji8] at h_ ⊢;exact ⟨h_⟩)),⟨by first|omega|exact Nat.le_refl _⟩,⟨by (with_reducible repeat (first|refine blk_drewN ?_ _|refine blk_drew ?_|refine blk_alloc ?_ _));exact BK101.out⟩,⟨by repeat (first|(with_reducible first|exact HB.out|apply below_alloc|apply pw_below_drewN|apply below_drew1|refine below_set ?_ GE101.out)|exact HB.out)⟩⟩
    ·rw [if_neg c9] at H
     have c9b0 : decide ((ji8) < 1) = false:=decide_eq_false c9
     clear c9
     obtain ⟨ji11,hji11⟩ : ∃ j_ : Int,(mx a0_1 a0_2) = j_:=⟨_,rfl⟩
     replace H : (turner_Check.j0 k (decide ((ji11) > 3)) a0_0 a0_1 a0_2 l0_3 l0_4 a0_5) = some r:=by first|(rw [hji11] at H;exact H)|(simp only [hji11] at H ⊢;exact H)
     have hji11_ : (if a0_1 < a0_2 then a0_2 else a0_1) = ji11:=hji11
     have H':=Aside0.mk H
     clear H
     have hcz12_0 : w3.cell? ⟨gb101,0,none⟩ = some (.int .i64 a0_0):=(blk_cell BK101.out 0).trans rfl
     have hcz12_1 : w3.cell? ⟨gb101,1,none⟩ = some (.int .i64 a0_1):=(blk_cell BK101.out 1).trans rfl
     have hcz12_2 : w3.cell? ⟨gb101,2,none⟩ = some (.int .i64 a0_2):=(blk_cell BK101.out 2).trans rfl
     have hcz12_3 : w3.cell? ⟨gb101,3,none⟩ = some (.slice A0_3 l0_3.length c0_3):=(blk_cell BK101.out 3).trans rfl
     have hcz12_4 : w3.cell? ⟨gb101,4,none⟩ = some (.slice A0_4 l0_4.length c0_4):=(blk_cell BK101.out 4).trans rfl
     have hcz12_5 : w3.cell? ⟨gb101,5,none⟩ = some (.int .i64 a0_5):=(blk_cell BK101.out 5).trans rfl
     have hfz12_0:=blk_frozen BK101.out 0
     have hfz12_1:=blk_frozen BK101.out 1
     have hfz12_2:=blk_frozen BK101.out 2
     have hfz12_3:=blk_frozen BK101.out 3
     have hfz12_4:=blk_frozen BK101.out 4
     have hfz12_5:=blk_frozen BK101.out 5
     go_wp2
     first|go_meet|((simp only [← hji8,← hji11]);go_meet)
     case rel=>exact ⟨_,(decide ((ji11) > 3)),(by first|rfl|(simp;done)|(simp only [← hji11] <;> (first|rfl|simp))|(simp [*];done)),(by first|exact H'|((simp only [hji8,hji11]);exact H')|(have h_:=H'.out;simp only [← hji8,← hji11] at h_ ⊢;exact ⟨h_⟩)),⟨by first|omega|exact Nat.le_refl _⟩,⟨by (with_reducible repeat (first|refine blk_drewN ?_ _|refine blk_drew ?_|refine blk_alloc ?_ _));exact BK101.out⟩,⟨by repeat (first|(with_reducible first|exact HB.out|apply below_alloc|apply pw_below_drewN|apply below_drew1|refine below_set ?_ GE101.out)|exact HB.out)⟩⟩
 case rest =>
  clear HC2
  try clear p2
  try clear c4
  try clear c4b0
  try clear c6
  try clear c6b0
  try clear c9
  try clear c9b0
  try clear hcz10_0
  try clear hcz10_1
  try clear hcz10_2
  try clear hcz10_3
  try clear hcz10_4
  try clear hcz10_5
  try clear hcz12_0
  try clear hcz12_1
  try clear hcz12_2
  try clear hcz12_3
  try clear hcz12_4
  try clear hcz12_5
  try clear hcz5_0
  try clear hcz5_1
  try clear hcz5_2
  try clear hcz5_3
  try clear hcz5_4
  try clear hcz5_5
  try clear hcz7_0
  try clear hcz7_1
  try clear hcz7_2
  try clear hcz7_3
  try clear hcz7_4
  try clear hcz7_5
  try clear hfz10_0
  try clear hfz10_1
  try clear hfz10_2
  try clear hfz10_3
  try clear hfz10_4
  try clear hfz10_5
  try clear hfz12_0
  try clear hfz12_1
  try clear hfz12_2
  try clear hfz12_3
  try clear hfz12_4
  try clear hfz12_5
  try clear hfz5_0
  try clear hfz5_1
  try clear hfz5_2
  try clear hfz5_3
  try clear hfz5_4
  try clear hfz5_5
  try clear hfz7_0
  try clear hfz7_1
  try clear hfz7_2
  try clear hfz7_3
  try clear hfz7_4
  try clear hfz7_5
  obtain ⟨kq,x32_1,rfl,HA,HJ1,BK101,HB⟩:=hcut
  cases kq with
  | zero=>exact absurd HA.out (by simp [turner_Check.j0])
  | succ kj1 =>
   have H:=HA.out
   clear HA
   simp only [turner_Check.j0] at H
   by_cases c13 : x32_1 = true
   ·subst c13
    have H1 : (some 1) = some r:=by rw [if_pos rfl] at H;exact H
    clear H
    have H:=H1
    clear H1
    obtain rfl:=Option.some.inj H
    go_wp2
    go_ret
    exact ⟨by first|rfl|(simp [errW_none,errW_some] <;> rfl)|(simp [*,errW_none,errW_some] <;> rfl),by repeat (first|(with_reducible first|exact HB.out|apply below_alloc|apply pw_below_drewN|apply below_drew1|refine below_set ?_ GE101.out)|exact HB.out)⟩
   ·replace c13:=Bool.eq_false_iff.mpr c13
    subst c13
    have H1 : (if (l0_3.length : Int) = a0_0 then (turner_Check.j1 kj1 ((l0_4.length : Int) != a0_0) a0_0 a0_1 a0_2 l0_3 l0_4 a0_5) else (turner_Check.j1 kj1 true a0_0 a0_1 a0_2 l0_3 l0_4 a0_5)) = some r:=by rw [if_neg (show ¬ (false = true) by decide)] at H;exact H
    clear H
    have H:=H1
    clear H1
    have HC14:=Aside0.mk H
    clear H
    go_upto_region 3 with (fail)
    go_cut [46] (fun v46 wc=>∃ (kq : Nat) (x46_13 : Bool),v46 = .bool x46_13 ∧ Aside0 (turner_Check.j1 kq x46_13 a0_0 a0_1 a0_2 l0_3 l0_4 a0_5 = some r) ∧ Aside0 (kq ≤ kj1) ∧ Aside0 (wc.heap[gb101]? = some (.cells #[.int .i64 a0_0,.int .i64 a0_1,.int .i64 a0_2,(.slice A0_3 l0_3.length c0_3),(.slice A0_4 l0_4.length c0_4),.int .i64 a0_5] 25 (0,0))) ∧ Aside0 (Below w.heap.size w wc))
    case first =>
     have H:=HC14.out
     clear HC14
     by_cases c15 : (l0_3.length : Int) = a0_0
     ·rw [if_pos c15] at H
      have c15b0 : ((l0_3.length : Int) == a0_0) = true:=beq_iff_eq.mpr c15
      have c15b1 : ((l0_3.length : Int) != a0_0) = false:=bne_eq_false_iff_eq.mpr c15
      clear c15
      (first|rw [c15b0]|(simp only [i64_w,i32_w];rw [c15b0])|skip)
      have H':=Aside0.mk H
      clear H
      have hcz16_0 : wc.cell? ⟨gb101,0,none⟩ = some (.int .i64 a0_0):=(blk_cell BK101.out 0).trans rfl
      have hcz16_1 : wc.cell? ⟨gb101,1,none⟩ = some (.int .i64 a0_1):=(blk_cell BK101.out 1).trans rfl
      have hcz16_2 : wc.cell? ⟨gb101,2,none⟩ = some (.int .i64 a0_2):=(blk_cell BK101.out 2).trans rfl
      have hcz16_3 : wc.cell? ⟨gb101,3,none⟩ = some (.slice A0_3 l0_3.length c0_3):=(blk_cell BK101.out 3).trans rfl
      have hcz16_4 : wc.cell? ⟨gb101,4,none⟩ = some (.slice A0_4 l0_4.length c0_4):=(blk_cell BK101.out 4).trans rfl
      have hcz16_5 : wc.cell? ⟨gb101,5,none⟩ = some (.int .i64 a0_5):=(blk_cell BK101.out 5).trans rfl
      have hfz16_0:=blk_frozen BK101.out 0
      have hfz16_1:=blk_frozen BK101.out 1
      have hfz16_2:=blk_frozen BK101.out 2
      have hfz16_3:=blk_frozen BK101.out 3
      have hfz16_4:=blk_frozen BK101.out 4
      have hfz16_5:=blk_frozen BK101.out 5
      go_wp2
      go_meet
      case rel=>exact ⟨_,(((l0_4.length : Int) != a0_0)),(by first|rfl|(simp;done)|(simp [*];done)),H',⟨by have:=HJ1.out;first|omega|exact Nat.le_refl _⟩,⟨by (with_reducible repeat (first|refine blk_drewN ?_ _|refine blk_drew ?_|refine blk_alloc ?_ _));exact BK101.out⟩,⟨by repeat (first|(with_reducible first|exact HB.out|apply below_alloc|apply pw_below_drewN|apply below_drew1|refine below_set ?_ GE101.out)|exact HB.out)⟩⟩
     ·rw [if_neg c15] at H
      have c15b0 : ((l0_3.length : Int) == a0_0) = false:=beq_eq_false_iff_ne.mpr c15
      have c15b1 : ((l0_3.length : Int) != a0_0) = true:=bne_iff_ne.mpr c15
      (first|rw [c15b0]|(simp only [i64_w,i32_w];rw [c15b0])|skip)
      have H':=Aside0.mk H
      clear H
      have hcz17_0 : wc.cell? ⟨gb101,0,none⟩ = some (.int .i64 a0_0):=(blk_cell BK101.out 0).trans rfl
      have hcz17_1 : wc.cell? ⟨gb101,1,none⟩ = some (.int .i64 a0_1):=(blk_cell BK101.out 1).trans rfl
      have hcz17_2 : wc.cell? ⟨gb101,2,none⟩ = some (.int .i64 a0_2):=(blk_cell BK101.out 2).trans rfl
      have hcz17_3 : wc.cell? ⟨gb101,3,none⟩ = some (.slice A0_3 l0_3.length c0_3):=(blk_cell BK101.out 3).trans rfl
      have hcz17_4 : wc.cell? ⟨gb101,4,none⟩ = some (.slice A0_4 l0_4.length c0_4):=(blk_cell BK101.out 4).trans rfl
      have hcz17_5 : wc.cell? ⟨gb101,5,none⟩ = some (.int .i64 a0_5):=(blk_cell BK101.out 5).trans rfl
      have hfz17_0:=blk_frozen BK101.out 0
      have hfz17_1:=blk_frozen BK101.out 1
      have hfz17_2:=blk_frozen BK101.out 2
      have hfz17_3:=blk_frozen BK101.out 3
      have hfz17_4:=blk_frozen BK101.out 4
      have hfz17_5:=blk_frozen BK101.out 5
      go_wp2
      go_meet
      case rel=>exact ⟨_,(true),(by first|rfl|(simp;done)|(simp [*];done)),H',⟨by have:=HJ1.out;first|omega|exact Nat.le_refl _⟩,⟨by (with_reducible repeat (first|refine blk_drewN ?_ _|refine blk_drew ?_|refine blk_alloc ?_ _));exact BK101.out⟩,⟨by repeat (first|(with_reducible first|exact HB.out|apply below_alloc|apply pw_below_drewN|apply below_drew1|refine below_set ?_ GE101.out)|exact HB.out)⟩⟩
    case rest =>
     clear HC14
     try clear c1
     try clear p2
     try clear c4
     try clear c4b0
     try clear c6
     try clear c6b0
     try clear c9
     try clear c9b0
     try clear c13
     try clear c15
     try clear c15b0
     try clear c15b1
     try clear hcz10_0
     try clear hcz10_1
     try clear hcz10_2
     try clear hcz10_3
     try clear hcz10_4
     try clear hcz10_5
     try clear hcz12_0
     try clear hcz12_1
     try clear hcz12_2
     try clear hcz12_3
     try clear hcz12_4
     try clear hcz12_5
     try clear hcz16_0
     try clear hcz16_1
     try clear hcz16_2
     try clear hcz16_3
     try clear hcz16_4
     try clear hcz16_5
     try clear hcz17_0
     try clear hcz17_1
     try clear hcz17_2
     try clear hcz17_3
     try clear hcz17_4
     try clear hcz17_5
     try clear hcz5_0
     try clear hcz5_1
     try clear hcz5_2
     try clear hcz5_3
     try clear hcz5_4
     try clear hcz5_5
     try clear hcz7_0
     try clear hcz7_1
     try clear hcz7_2
     try clear hcz7_3
     try clear hcz7_4
     try clear hcz7_5
     try clear hfz10_0
     try clear hfz10_1
     try clear hfz10_2
     try clear hfz10_3
     try clear hfz10_4
     try clear hfz10_5
     try clear hfz12_0
     try clear hfz12_1
     try clear hfz12_2
     try clear hfz12_3
     try clear hfz12_4
     try clear hfz12_5
     try clear hfz16_0
     try clear hfz16_1
     try clear hfz16_2
     try clear hfz16_3
     try clear hfz16_4
     try clear hfz16_5
     try clear hfz17_0
     try clear hfz17_1
     try clear hfz17_2
     try clear hfz17_3
     try clear hfz17_4
     try clear hfz17_5
     try clear hfz5_0
     try clear hfz5_1
     try clear hfz5_2
     try clear hfz5_3
     try clear hfz5_4
     try clear hfz5_5
     try clear hfz7_0
     try clear hfz7_1
     try clear hfz7_2
     try clear hfz7_3
     try clear hfz7_4
     try clear hfz7_5
     try clear p2
     obtain ⟨kq,x46_13,rfl,HA,HJ13,BK101,HB⟩:=hcut
     cases kq with
     | zero=>exact absurd HA.out (by simp [turner_Check.j1])
     | succ kj13 =>
      have H:=HA.out
      clear HA
      simp only [turner_Check.j1] at H
      by_cases c18 : x46_13 = true
      ·subst c18
       have H1 : (some 3) = some r:=by rw [if_pos rfl] at H;exact H
       clear H
       have H:=H1
       clear H1
       obtain rfl:=Option.some.inj H
       go_wp2
       go_ret
       exact ⟨by first|rfl|(simp [errW_none,errW_some] <;> rfl)|(simp [*,errW_none,errW_some] <;> rfl),by repeat (first|(with_reducible first|exact HB.out|apply below_alloc|apply pw_below_drewN|apply below_drew1|refine below_set ?_ GE101.out)|exact HB.out)⟩
      ·replace c18:=Bool.eq_false_iff.mpr c18
       subst c18
       have H1 : (turner_Check.l0 kj13 a0_0 0 a0_0 a0_1 a0_2 l0_3 l0_4 a0_5) = some r:=by rw [if_neg (show ¬ (false = true) by decide)] at H;exact H
       clear H
       have H:=H1
       clear H1
       have H':=Aside0.mk H
       clear H
       have hcz19_0 : wc.cell? ⟨gb101,0,none⟩ = some (.int .i64 a0_0):=(blk_cell BK101.out 0).trans rfl
       have hcz19_1 : wc.cell? ⟨gb101,1,none⟩ = some (.int .i64 a0_1):=(blk_cell BK101.out 1).trans rfl
       have hcz19_2 : wc.cell? ⟨gb101,2,none⟩ = some (.int .i64 a0_2):=(blk_cell BK101.out 2).trans rfl
       have hcz19_3 : wc.cell? ⟨gb101,3,none⟩ = some (.slice A0_3 l0_3.length c0_3):=(blk_cell BK101.out 3).trans rfl
       have hcz19_4 : wc.cell? ⟨gb101,4,none⟩ = some (.slice A0_4 l0_4.length c0_4):=(blk_cell BK101.out 4).trans rfl
       have hcz19_5 : wc.cell? ⟨gb101,5,none⟩ = some (.int .i64 a0_5):=(blk_cell BK101.out 5).trans rfl
       have hfz19_0:=blk_frozen BK101.out 0
       have hfz19_1:=blk_frozen BK101.out 1
       have hfz19_2:=blk_frozen BK101.out 2
       have hfz19_3:=blk_frozen BK101.out 3
       have hfz19_4:=blk_frozen BK101.out 4
       have hfz19_5:=blk_frozen BK101.out 5
       go_wp2
       go_loopg [49] kj13 (fun kq v49 w'=>∃ (x49_3 : Int),v49 = .int .i64 x49_3 ∧ Aside0 (turner_Check.l0 kq a0_0 x49_3 a0_0 a0_1 a0_2 l0_3 l0_4 a0_5 = some r) ∧ Aside0 (kq ≤ kj13) ∧ Aside0 (w'.heap[gb101]? = some (.cells #[.int .i64 a0_0,.int .i64 a0_1,.int .i64 a0_2,(.slice A0_3 l0_3.length c0_3),(.slice A0_4 l0_4.length c0_4),.int .i64 a0_5] 25 (0,0))) ∧ Aside0 (Below w.heap.size w w'))
       case atStart=>exact ⟨(0),(by first|rfl|(simp;done)|(simp [*];done)),H',⟨Nat.le_refl _⟩,⟨by (with_reducible repeat (first|refine blk_drewN ?_ _|refine blk_drew ?_|refine blk_alloc ?_ _));exact BK101.out⟩,⟨by repeat (first|(with_reducible first|exact HB.out|apply below_alloc|apply pw_below_drewN|apply below_drew1|refine below_set ?_ GE101.out)|exact HB.out)⟩⟩
       case round =>
        clear H'
        try clear c1
        try clear p2
        try clear c4
        try clear c4b0
        try clear c6
        try clear c6b0
        try clear c9
        try clear c9b0
        try clear c13
        try clear c15
        try clear c15b0
        try clear c15b1
        try clear c18
        try clear hcz10_0
        try clear hcz10_1
        try clear hcz10_2
        try clear hcz10_3
        try clear hcz10_4
        try clear hcz10_5
        try clear hcz12_0
        try clear hcz12_1
        try clear hcz12_2
        try clear hcz12_3
        try clear hcz12_4
        try clear hcz12_5
        try clear hcz16_0
        try clear hcz16_1
        try clear hcz16_2
        try clear hcz16_3
        try clear hcz16_4
        try clear hcz16_5
        try clear hcz17_0
        try clear hcz17_1
        try clear hcz17_2
        try clear hcz17_3
        try clear hcz17_4
        try clear hcz17_5
        try clear hcz19_0
        try clear hcz19_1
        try clear hcz19_2
        try clear hcz19_3
        try clear hcz19_4
        try clear hcz19_5
        try clear hcz5_0
        try clear hcz5_1
        try clear hcz5_2
        try clear hcz5_3
        try clear hcz5_4
        try clear hcz5_5
        try clear hcz7_0
        try clear hcz7_1
        try clear hcz7_2
        try clear hcz7_3
        try clear hcz7_4
        try clear hcz7_5
        try clear hfz10_0
        try clear hfz10_1
        try clear hfz10_2
        try clear hfz10_3
        try clear hfz10_4
        try clear hfz10_5
        try clear hfz12_0
        try clear hfz12_1
        try clear hfz12_2
        try clear hfz12_3
        try clear hfz12_4
        try clear hfz12_5
        try clear hfz16_0
        try clear hfz16_1
        try clear hfz16_2
        try clear hfz16_3
        try clear hfz16_4
        try clear hfz16_5
        try clear hfz17_0
        try clear hfz17_1
        try clear hfz17_2
        try clear hfz17_3
        try clear hfz17_4
        try clear hfz17_5
        try clear hfz19_0
        try clear hfz19_1
        try clear hfz19_2
        try clear hfz19_3
        try clear hfz19_4
        try clear hfz19_5
        try clear hfz5_0
        try clear hfz5_1
        try clear hfz5_2
        try clear hfz5_3
        try clear hfz5_4
        try clear hfz5_5
        try clear hfz7_0
        try clear hfz7_1
        try clear hfz7_2
        try clear hfz7_3
        try clear hfz7_4
        try clear hfz7_5
        try clear p2
        obtain ⟨x49_3,rfl,HA,HK3,BK101,HB⟩:=hrel
        cases gk with
        | zero=>exact absurd HA.out (by simp [turner_Check.l0])
        | succ k3 =>
         have H:=HA.out
         clear HA
         simp only [turner_Check.l0] at H
         by_cases c20 : x49_3 < a0_0
         ·rw [if_pos c20] at H
          have c20b0 : decide (x49_3 < a0_0) = true:=decide_eq_true c20
          clear c20
          by_cases c21 : 0 ≤ x49_3
          ·rw [if_pos c21] at H
           have c21b0 : decide (0 ≤ x49_3) = true:=decide_eq_true c21
           clear c21
           by_cases c22 : x49_3 < (l0_3.length : Int)
           ·rw [if_pos c22] at H
            have c22b0 : decide (x49_3 < (l0_3.length : Int)) = true:=decide_eq_true c22
            clear c22
            by_cases c23 : ((rd_L1 l0_3 x49_3).length : Int) = a0_1
            ·rw [if_pos c23] at H
             have c23b0 : (((rd_L1 l0_3 x49_3).length : Int) == a0_1) = true:=beq_iff_eq.mpr c23
             have c23b1 : (((rd_L1 l0_3 x49_3).length : Int) != a0_1) = false:=bne_eq_false_iff_eq.mpr c23
             clear c23
             by_cases c24 : x49_3 < (l0_4.length : Int)
             ·rw [if_pos c24] at H
              have c24b0 : decide (x49_3 < (l0_4.length : Int)) = true:=decide_eq_true c24
              clear c24
              by_cases c25 : ((rd_L2 l0_4 x49_3).length : Int) = a0_1
              ·rw [if_pos c25] at H
               have c25b0 : (((rd_L2 l0_4 x49_3).length : Int) == a0_1) = true:=beq_iff_eq.mpr c25
               have c25b1 : (((rd_L2 l0_4 x49_3).length : Int) != a0_1) = false:=bne_eq_false_iff_eq.mpr c25
               clear c25
               have H':=Aside0.mk H
               clear H
               try go_wp2
               have n0_:=Aside0.mk (blk_drew BK101.out)
               have n1_:=Aside0.mk (below_drew1 HB.out)
               clear BK101
               clear HB
               have BK101:=n0_
               have HB:=n1_
               clear n0_ n1_
               have p102 : 0 ≤ (x49_3 : Int):=of_decide_eq_true (by first|(with_reducible assumption)|assumption)
               have q102 : x49_3 < (l0_3.length : Int):=of_decide_eq_true (by first|(with_reducible assumption)|assumption)
               obtain ⟨ad102,A102_0,c102_0,e102,hx102_0,hl102_0,hi102_0⟩:=at_L1 HR0_3.out x49_3 p102 q102
               have hw102_0:=hx102_0
               cases e102
               replace hx102_0:=(HB.out.cell (World.block_lt_of_cell? w _ hx102_0)).trans hx102_0
               have HR102_0:=Aside0.mk hi102_0
               have HC102_0:=Aside0.mk hl102_0
               clear hi102_0 hl102_0
               replace p102:=eq_true p102
               replace q102:=eq_true q102
               have p103 : 0 ≤ (x49_3 : Int):=of_decide_eq_true (by first|(with_reducible assumption)|assumption)
               have q103 : x49_3 < (l0_4.length : Int):=of_decide_eq_true (by first|(with_reducible assumption)|assumption)
               obtain ⟨ad103,A103_0,c103_0,e103,hx103_0,hl103_0,hi103_0⟩:=at_L2 HR0_4.out x49_3 p103 q103
               have hw103_0:=hx103_0
               cases e103
               replace hx103_0:=(HB.out.cell (World.block_lt_of_cell? w _ hx103_0)).trans hx103_0
               have HR103_0:=Aside0.mk hi103_0
               have HC103_0:=Aside0.mk hl103_0
               clear hi103_0 hl103_0
               replace p103:=eq_true p103
               replace q103:=eq_true q103
               refine start_ (n:=20) (S:=fun w'=>w'.cell? ⟨gb101,0,none⟩ = some (.int .i64 a0_0) ∧ w'.cell? ⟨gb101,1,none⟩ = some (.int .i64 a0_1) ∧ w'.cell? ⟨gb101,2,none⟩ = some (.int .i64 a0_2) ∧ w'.cell? ⟨gb101,3,none⟩ = some (.slice (some ad102) l0_3.length c0_3) ∧ w'.cell? ⟨gb101,4,none⟩ = some (.slice (some ad103) l0_4.length c0_4) ∧ w'.cell? ⟨gb101,5,none⟩ = some (.int .i64 a0_5) ∧ w'.cell? (ad102.add (x49_3).toNat) = some (.slice A102_0 (rd_L1 l0_3 x49_3).length c102_0) ∧ w'.cell? (ad103.add (x49_3).toNat) = some (.slice A103_0 (rd_L2 l0_4 x49_3).length c103_0)) (ds:=[]) #[false,false,false,false,false,false,false,false,false,false,false,false,false,false,false,false,false,false,false,false] (by kernel_rfl) rfl rfl ⟨(blk_cell BK101.out 0).trans rfl,(blk_cell BK101.out 1).trans rfl,(blk_cell BK101.out 2).trans rfl,(blk_cell BK101.out 3).trans rfl,(blk_cell BK101.out 4).trans rfl,(blk_cell BK101.out 5).trans rfl,((HB.out.cell (World.block_lt_of_cell? w _ hw102_0)).trans hw102_0),((HB.out.cell (World.block_lt_of_cell? w _ hw103_0)).trans hw103_0)⟩ (fun hHeld=>?_);refine with_tabW turner_Check.tab8 turner_Check.bits8 (fun HT_ HW_=>?_)
               generalize wr.drew = w26 at BK101 HB HR102_0 HR103_0 hx102_0 hx103_0 hHeld ⊢
               refine pure_ (i:=0) (N:=some 52) (v:=?_) (a':=?_) #[true,false,false,false,false,false,false,false,false,false,false,false,false,false,false,false,false,false,false,false] rfl rfl (any_of HT_.out (by kernel_rfl)) (fun _ _ _ h=>h) (Or.inl ⟨by rfl,?_⟩) ?_ ?_
               rotate_left
               ·intro w'
                go_simp
                with_reducible rfl
               rotate_left
               ·simp only [Act.put,List.setIfInBounds_toArray,List.set_cons_zero,List.set_cons_succ,i64_w,i32_w]
                rfl
               refine pure_ (i:=2) (N:=some 54) (v:=?_) (a':=?_) #[true,false,true,false,false,false,false,false,false,false,false,false,false,false,false,false,false,false,false,false] rfl rfl (any_of HT_.out (by kernel_rfl)) (fun _ _ _ h=>h) (Or.inl ⟨by rfl,?_⟩) ?_ ?_
               rotate_left
               ·intro w'
                go_simp
                with_reducible rfl
               rotate_left
               ·simp only [Act.put,List.setIfInBounds_toArray,List.set_cons_zero,List.set_cons_succ,i64_w,i32_w]
                rfl
               refine pure_ (i:=6) (N:=some 58) (v:=?_) (a':=?_) #[true,false,true,false,false,false,true,false,false,false,false,false,false,false,false,false,false,false,false,false] rfl rfl (any_of HT_.out (by kernel_rfl)) (fun _ _ _ h=>h) (Or.inl ⟨by rfl,?_⟩) ?_ ?_
               rotate_left
               ·intro w'
                go_simp
                with_reducible rfl
               rotate_left
               ·simp only [Act.put,List.setIfInBounds_toArray,List.set_cons_zero,List.set_cons_succ,i64_w,i32_w]
                rfl
               refine take_ (i:=1) (N:=some 53) (v:=?_) (a':=?_) #[true,true,true,false,false,false,true,false,false,false,false,false,false,false,false,false,false,false,false,false] rfl rfl (take_ofW HT_.out HW_.out (by kernel_rfl)) (fun _ _ _ h=>h) (Or.inl ⟨by rfl,?_⟩) hHeld ?_ ?_
               rotate_left
               ·rintro w' ⟨s0,s1,s2,s3,s4,s5,s6,s7⟩
                go_simp
                with_reducible rfl
               rotate_left
               ·simp only [Act.put,List.setIfInBounds_toArray,List.set_cons_zero,List.set_cons_succ,i64_w,i32_w]
                rfl
               refine pure_ (i:=3) (N:=some 55) (v:=?_) (a':=?_) #[true,true,true,true,false,false,true,false,false,false,false,false,false,false,false,false,false,false,false,false] rfl rfl (any_of HT_.out (by kernel_rfl)) (fun _ _ _ h=>h) (Or.inl ⟨by rfl,?_⟩) ?_ ?_
               rotate_left
               ·intro w'
                go_simp
                with_reducible rfl
               rotate_left
               ·simp only [Act.put,List.setIfInBounds_toArray,List.set_cons_zero,List.set_cons_succ,i64_w,i32_w]
                rfl
               refine take_ (i:=4) (N:=some 56) (v:=?_) (a':=?_) #[true,true,true,true,true,false,true,false,false,false,false,false,false,false,false,false,false,false,false,false] rfl rfl (take_ofW HT_.out HW_.out (by kernel_rfl)) (fun _ _ _ h=>h) (Or.inl ⟨by rfl,?_⟩) hHeld ?_ ?_
               rotate_left
               ·rintro w' ⟨s0,s1,s2,s3,s4,s5,s6,s7⟩
                go_simp
                with_reducible rfl
               rotate_left
               ·simp only [Act.put,List.setIfInBounds_toArray,List.set_cons_zero,List.set_cons_succ,i64_w,i32_w]
                rfl
               refine pure_ (i:=5) (N:=some 57) (v:=?_) (a':=?_) #[true,true,true,true,true,true,true,false,false,false,false,false,false,false,false,false,false,false,false,false] rfl rfl (any_of HT_.out (by kernel_rfl)) (fun _ _ _ h=>h) (Or.inl ⟨by rfl,?_⟩) ?_ ?_
               rotate_left
               ·intro w'
                go_simp
                with_reducible rfl
               rotate_left
               ·simp only [Act.put,List.setIfInBounds_toArray,List.set_cons_zero,List.set_cons_succ,i64_w,i32_w]
                rfl
               refine take_ (i:=7) (N:=some 59) (v:=?_) (a':=?_) #[true,true,true,true,true,true,true,true,false,false,false,false,false,false,false,false,false,false,false,false] rfl rfl (take_ofW HT_.out HW_.out (by kernel_rfl)) (fun _ _ _ h=>h) (Or.inl ⟨by rfl,?_⟩) hHeld ?_ ?_
               rotate_left
               ·rintro w' ⟨s0,s1,s2,s3,s4,s5,s6,s7⟩
                go_simp
                with_reducible rfl
               rotate_left
               ·simp only [Act.put,List.setIfInBounds_toArray,List.set_cons_zero,List.set_cons_succ,i64_w,i32_w]
                rfl
               refine pure_ (i:=8) (N:=some 60) (v:=?_) (a':=?_) #[true,true,true,true,true,true,true,true,true,false,false,false,false,false,false,false,false,false,false,false] rfl rfl (any_of HT_.out (by kernel_rfl)) (fun _ _ _ h=>h) (Or.inl ⟨by rfl,?_⟩) ?_ ?_
               rotate_left
               ·intro w'
                go_simp
                with_reducible rfl
               rotate_left
               ·simp only [Act.put,List.setIfInBounds_toArray,List.set_cons_zero,List.set_cons_succ,i64_w,i32_w]
                rfl
               refine pure_ (i:=9) (N:=some 61) (v:=?_) (a':=?_) #[true,true,true,true,true,true,true,true,true,true,false,false,false,false,false,false,false,false,false,false] rfl rfl (any_of HT_.out (by kernel_rfl)) (fun _ _ _ h=>h) (Or.inl ⟨by rfl,?_⟩) ?_ ?_
               rotate_left
               ·intro w'
                go_simp
                with_reducible rfl
               rotate_left
               ·simp only [Act.put,List.setIfInBounds_toArray,List.set_cons_zero,List.set_cons_succ,i64_w,i32_w]
                rfl
               refine pure_ (i:=10) (N:=some 62) (v:=?_) (a':=?_) #[true,true,true,true,true,true,true,true,true,true,true,false,false,false,false,false,false,false,false,false] rfl rfl (any_of HT_.out (by kernel_rfl)) (fun _ _ _ h=>h) (Or.inl ⟨by rfl,?_⟩) ?_ ?_
               rotate_left
               ·intro w'
                go_simp
                with_reducible rfl
               rotate_left
               ·simp only [Act.put,List.setIfInBounds_toArray,List.set_cons_zero,List.set_cons_succ,i64_w,i32_w]
                rfl
               refine pure_ (i:=12) (N:=some 64) (v:=?_) (a':=?_) #[true,true,true,true,true,true,true,true,true,true,true,false,true,false,false,false,false,false,false,false] rfl rfl (any_of HT_.out (by kernel_rfl)) (fun _ _ _ h=>h) (Or.inl ⟨by rfl,?_⟩) ?_ ?_
               rotate_left
               ·intro w'
                go_simp
                with_reducible rfl
               rotate_left
               ·simp only [Act.put,List.setIfInBounds_toArray,List.set_cons_zero,List.set_cons_succ,i64_w,i32_w]
                rfl
               refine pure_ (i:=16) (N:=some 68) (v:=?_) (a':=?_) #[true,true,true,true,true,true,true,true,true,true,true,false,true,false,false,false,true,false,false,false] rfl rfl (any_of HT_.out (by kernel_rfl)) (fun _ _ _ h=>h) (Or.inl ⟨by rfl,?_⟩) ?_ ?_
               rotate_left
               ·intro w'
                go_simp
                with_reducible rfl
               rotate_left
               ·simp only [Act.put,List.setIfInBounds_toArray,List.set_cons_zero,List.set_cons_succ,i64_w,i32_w]
                rfl
               refine take_ (i:=11) (N:=some 63) (v:=?_) (a':=?_) #[true,true,true,true,true,true,true,true,true,true,true,true,true,false,false,false,true,false,false,false] rfl rfl (take_ofW HT_.out HW_.out (by kernel_rfl)) (fun _ _ _ h=>h) (Or.inl ⟨by rfl,?_⟩) hHeld ?_ ?_
               rotate_left
               ·rintro w' ⟨s0,s1,s2,s3,s4,s5,s6,s7⟩
                go_simp
                with_reducible rfl
               rotate_left
               ·simp only [Act.put,List.setIfInBounds_toArray,List.set_cons_zero,List.set_cons_succ,i64_w,i32_w]
                rfl
               refine pure_ (i:=13) (N:=some 65) (v:=?_) (a':=?_) #[true,true,true,true,true,true,true,true,true,true,true,true,true,true,false,false,true,false,false,false] rfl rfl (any_of HT_.out (by kernel_rfl)) (fun _ _ _ h=>h) (Or.inl ⟨by rfl,?_⟩) ?_ ?_
               rotate_left
               ·intro w'
                go_simp
                with_reducible rfl
               rotate_left
               ·simp only [Act.put,List.setIfInBounds_toArray,List.set_cons_zero,List.set_cons_succ,i64_w,i32_w]
                rfl
               refine take_ (i:=14) (N:=some 66) (v:=?_) (a':=?_) #[true,true,true,true,true,true,true,true,true,true,true,true,true,true,true,false,true,false,false,false] rfl rfl (take_ofW HT_.out HW_.out (by kernel_rfl)) (fun _ _ _ h=>h) (Or.inl ⟨by rfl,?_⟩) hHeld ?_ ?_
               rotate_left
               ·rintro w' ⟨s0,s1,s2,s3,s4,s5,s6,s7⟩
                go_simp
                with_reducible rfl
               rotate_left
               ·simp only [Act.put,List.setIfInBounds_toArray,List.set_cons_zero,List.set_cons_succ,i64_w,i32_w]
                rfl
               refine pure_ (i:=15) (N:=some 67) (v:=?_) (a':=?_) #[true,true,true,true,true,true,true,true,true,true,true,true,true,true,true,true,true,false,false,false] rfl rfl (any_of HT_.out (by kernel_rfl)) (fun _ _ _ h=>h) (Or.inl ⟨by rfl,?_⟩) ?_ ?_
               rotate_left
               ·intro w'
                go_simp
                with_reducible rfl
               rotate_left
               ·simp only [Act.put,List.setIfInBounds_toArray,List.set_cons_zero,List.set_cons_succ,i64_w,i32_w]
                rfl
               refine take_ (i:=17) (N:=some 69) (v:=?_) (a':=?_) #[true,true,true,true,true,true,true,true,true,true,true,true,true,true,true,true,true,true,false,false] rfl rfl (take_ofW HT_.out HW_.out (by kernel_rfl)) (fun _ _ _ h=>h) (Or.inl ⟨by rfl,?_⟩) hHeld ?_ ?_
               rotate_left
               ·rintro w' ⟨s0,s1,s2,s3,s4,s5,s6,s7⟩
                go_simp
                with_reducible rfl
               rotate_left
               ·simp only [Act.put,List.setIfInBounds_toArray,List.set_cons_zero,List.set_cons_succ,i64_w,i32_w]
                rfl
               refine pure_ (i:=18) (N:=some 70) (v:=?_) (a':=?_) #[true,true,true,true,true,true,true,true,true,true,true,true,true,true,true,true,true,true,true,false] rfl rfl (any_of HT_.out (by kernel_rfl)) (fun _ _ _ h=>h) (Or.inl ⟨by rfl,?_⟩) ?_ ?_
               rotate_left
               ·intro w'
                go_simp
                with_reducible rfl
               rotate_left
               ·simp only [Act.put,List.setIfInBounds_toArray,List.set_cons_zero,List.set_cons_succ,i64_w,i32_w]
                rfl
               refine pure_ (i:=19) (N:=some 71) (v:=?_) (a':=?_) #[true,true,true,true,true,true,true,true,true,true,true,true,true,true,true,true,true,true,true,true] rfl rfl (any_of HT_.out (by kernel_rfl)) (fun _ _ _ h=>h) (Or.inl ⟨by rfl,?_⟩) ?_ ?_
               rotate_left
               ·intro w'
                go_simp
                with_reducible rfl
               rotate_left
               ·simp only [Act.put,List.setIfInBounds_toArray,List.set_cons_zero,List.set_cons_succ,i64_w,i32_w]
                rfl
               refine done_ (done_of HT_.out (by kernel_rfl)) ?_
               try go_wp2
               go_roundg k3
               case measure=>have:=HJ1.out;have:=HJ13.out;have:=HK3.out;omega
               case rel=>exact ⟨(wrap64 (x49_3 + 1)),(by first|rfl|(simp;done)|(simp [*];done)),H',⟨by have:=HJ1.out;have:=HJ13.out;have:=HK3.out;omega⟩,⟨by (with_reducible repeat (first|refine blk_drewN ?_ _|refine blk_drew ?_|refine blk_alloc ?_ _));exact BK101.out⟩,⟨by repeat (first|(with_reducible first|exact HB.out|apply below_alloc|apply pw_below_drewN|apply below_drew1|refine below_set ?_ GE101.out)|exact HB.out)⟩⟩
              ·rw [if_neg c25] at H
               have c25b0 : (((rd_L2 l0_4 x49_3).length : Int) == a0_1) = false:=beq_eq_false_iff_ne.mpr c25
               have c25b1 : (((rd_L2 l0_4 x49_3).length : Int) != a0_1) = true:=bne_iff_ne.mpr c25
               obtain rfl:=Option.some.inj H
               try go_wp2
               have n0_:=Aside0.mk (blk_drew BK101.out)
               have n1_:=Aside0.mk (below_drew1 HB.out)
               clear BK101
               clear HB
               have BK101:=n0_
               have HB:=n1_
               clear n0_ n1_
               have p102 : 0 ≤ (x49_3 : Int):=of_decide_eq_true (by first|(with_reducible assumption)|assumption)
               have q102 : x49_3 < (l0_3.length : Int):=of_decide_eq_true (by first|(with_reducible assumption)|assumption)
               obtain ⟨ad102,A102_0,c102_0,e102,hx102_0,hl102_0,hi102_0⟩:=at_L1 HR0_3.out x49_3 p102 q102
               have hw102_0:=hx102_0
               cases e102
               replace hx102_0:=(HB.out.cell (World.block_lt_of_cell? w _ hx102_0)).trans hx102_0
               have HR102_0:=Aside0.mk hi102_0
               have HC102_0:=Aside0.mk hl102_0
               clear hi102_0 hl102_0
               replace p102:=eq_true p102
               replace q102:=eq_true q102
               have p103 : 0 ≤ (x49_3 : Int):=of_decide_eq_true (by first|(with_reducible assumption)|assumption)
               have q103 : x49_3 < (l0_4.length : Int):=of_decide_eq_true (by first|(with_reducible assumption)|assumption)
               obtain ⟨ad103,A103_0,c103_0,e103,hx103_0,hl103_0,hi103_0⟩:=at_L2 HR0_4.out x49_3 p103 q103
               have hw103_0:=hx103_0
               cases e103
               replace hx103_0:=(HB.out.cell (World.block_lt_of_cell? w _ hx103_0)).trans hx103_0
               have HR103_0:=Aside0.mk hi103_0
               have HC103_0:=Aside0.mk hl103_0
               clear hi103_0 hl103_0
               replace p103:=eq_true p103
               replace q103:=eq_true q103
               refine start_ (n:=20) (S:=fun w'=>w'.cell? ⟨gb101,0,none⟩ = some (.int .i64 a0_0) ∧ w'.cell? ⟨gb101,1,none⟩ = some (.int .i64 a0_1) ∧ w'.cell? ⟨gb101,2,none⟩ = some (.int .i64 a0_2) ∧ w'.cell? ⟨gb101,3,none⟩ = some (.slice (some ad102) l0_3.length c0_3) ∧ w'.cell? ⟨gb101,4,none⟩ = some (.slice (some ad103) l0_4.length c0_4) ∧ w'.cell? ⟨gb101,5,none⟩ = some (.int .i64 a0_5) ∧ w'.cell? (ad102.add (x49_3).toNat) = some (.slice A102_0 (rd_L1 l0_3 x49_3).length c102_0) ∧ w'.cell? (ad103.add (x49_3).toNat) = some (.slice A103_0 (rd_L2 l0_4 x49_3).length c103_0)) (ds:=[]) #[false,false,false,false,false,false,false,false,false,false,false,false,false,false,false,false,false,false,false,false] (by kernel_rfl) rfl rfl ⟨(blk_cell BK101.out 0).trans rfl,(blk_cell BK101.out 1).trans rfl,(blk_cell BK101.out 2).trans rfl,(blk_cell BK101.out 3).trans rfl,(blk_cell BK101.out 4).trans rfl,(blk_cell BK101.out 5).trans rfl,((HB.out.cell (World.block_lt_of_cell? w _ hw102_0)).trans hw102_0),((HB.out.cell (World.block_lt_of_cell? w _ hw103_0)).trans hw103_0)⟩ (fun hHeld=>?_);refine with_tabW turner_Check.tab8 turner_Check.bits8 (fun HT_ HW_=>?_)
               generalize wr.drew = w27 at BK101 HB HR102_0 HR103_0 hx102_0 hx103_0 hHeld ⊢
               refine pure_ (i:=0) (N:=some 52) (v:=?_) (a':=?_) #[true,false,false,false,false,false,false,false,false,false,false,false,false,false,false,false,false,false,false,false] rfl rfl (any_of HT_.out (by kernel_rfl)) (fun _ _ _ h=>h) (Or.inl ⟨by rfl,?_⟩) ?_ ?_
               rotate_left
               ·intro w'
                go_simp
                with_reducible rfl
               rotate_left
               ·simp only [Act.put,List.setIfInBounds_toArray,List.set_cons_zero,List.set_cons_succ,i64_w,i32_w]
                rfl
               refine pure_ (i:=2) (N:=some 54) (v:=?_) (a':=?_) #[true,false,true,false,false,false,false,false,false,false,false,false,false,false,false,false,false,false,false,false] rfl rfl (any_of HT_.out (by kernel_rfl)) (fun _ _ _ h=>h) (Or.inl ⟨by rfl,?_⟩) ?_ ?_
               rotate_left
               ·intro w'
                go_simp
                with_reducible rfl
               rotate_left
               ·simp only [Act.put,List.setIfInBounds_toArray,List.set_cons_zero,List.set_cons_succ,i64_w,i32_w]
                rfl
               refine pure_ (i:=6) (N:=some 58) (v:=?_) (a':=?_) #[true,false,true,false,false,false,true,false,false,false,false,false,false,false,false,false,false,false,false,false] rfl rfl (any_of HT_.out (by kernel_rfl)) (fun _ _ _ h=>h) (Or.inl ⟨by rfl,?_⟩) ?_ ?_
               rotate_left
               ·intro w'
                go_simp
                with_reducible rfl
               rotate_left
               ·simp only [Act.put,List.setIfInBounds_toArray,List.set_cons_zero,List.set_cons_succ,i64_w,i32_w]
                rfl
               refine take_ (i:=1) (N:=some 53) (v:=?_) (a':=?_) #[true,true,true,false,false,false,true,false,false,false,false,false,false,false,false,false,false,false,false,false] rfl rfl (take_ofW HT_.out HW_.out (by kernel_rfl)) (fun _ _ _ h=>h) (Or.inl ⟨by rfl,?_⟩) hHeld ?_ ?_
               rotate_left
               ·rintro w' ⟨s0,s1,s2,s3,s4,s5,s6,s7⟩
                go_simp
                with_reducible rfl
               rotate_left
               ·simp only [Act.put,List.setIfInBounds_toArray,List.set_cons_zero,List.set_cons_succ,i64_w,i32_w]
                rfl
               refine pure_ (i:=3) (N:=some 55) (v:=?_) (a':=?_) #[true,true,true,true,false,false,true,false,false,false,false,false,false,false,false,false,false,false,false,false] rfl rfl (any_of HT_.out (by kernel_rfl)) (fun _ _ _ h=>h) (Or.inl ⟨by rfl,?_⟩) ?_ ?_
               rotate_left
               ·intro w'
                go_simp
                with_reducible rfl
               rotate_left
               ·simp only [Act.put,List.setIfInBounds_toArray,List.set_cons_zero,List.set_cons_succ,i64_w,i32_w]
                rfl
               refine take_ (i:=4) (N:=some 56) (v:=?_) (a':=?_) #[true,true,true,true,true,false,true,false,false,false,false,false,false,false,false,false,false,false,false,false] rfl rfl (take_ofW HT_.out HW_.out (by kernel_rfl)) (fun _ _ _ h=>h) (Or.inl ⟨by rfl,?_⟩) hHeld ?_ ?_
               rotate_left
               ·rintro w' ⟨s0,s1,s2,s3,s4,s5,s6,s7⟩
                go_simp
                with_reducible rfl
               rotate_left
               ·simp only [Act.put,List.setIfInBounds_toArray,List.set_cons_zero,List.set_cons_succ,i64_w,i32_w]
                rfl
               refine pure_ (i:=5) (N:=some 57) (v:=?_) (a':=?_) #[true,true,true,true,true,true,true,false,false,false,false,false,false,false,false,false,false,false,false,false] rfl rfl (any_of HT_.out (by kernel_rfl)) (fun _ _ _ h=>h) (Or.inl ⟨by rfl,?_⟩) ?_ ?_
               rotate_left
               ·intro w'
                go_simp
                with_reducible rfl
               rotate_left
               ·simp only [Act.put,List.setIfInBounds_toArray,List.set_cons_zero,List.set_cons_succ,i64_w,i32_w]
                rfl
               refine take_ (i:=7) (N:=some 59) (v:=?_) (a':=?_) #[true,true,true,true,true,true,true,true,false,false,false,false,false,false,false,false,false,false,false,false] rfl rfl (take_ofW HT_.out HW_.out (by kernel_rfl)) (fun _ _ _ h=>h) (Or.inl ⟨by rfl,?_⟩) hHeld ?_ ?_
               rotate_left
               ·rintro w' ⟨s0,s1,s2,s3,s4,s5,s6,s7⟩
                go_simp
                with_reducible rfl
               rotate_left
               ·simp only [Act.put,List.setIfInBounds_toArray,List.set_cons_zero,List.set_cons_succ,i64_w,i32_w]
                rfl
               refine pure_ (i:=8) (N:=some 60) (v:=?_) (a':=?_) #[true,true,true,true,true,true,true,true,true,false,false,false,false,false,false,false,false,false,false,false] rfl rfl (any_of HT_.out (by kernel_rfl)) (fun _ _ _ h=>h) (Or.inl ⟨by rfl,?_⟩) ?_ ?_
               rotate_left
               ·intro w'
                go_simp
                with_reducible rfl
               rotate_left
               ·simp only [Act.put,List.setIfInBounds_toArray,List.set_cons_zero,List.set_cons_succ,i64_w,i32_w]
                rfl
               refine pure_ (i:=9) (N:=some 61) (v:=?_) (a':=?_) #[true,true,true,true,true,true,true,true,true,true,false,false,false,false,false,false,false,false,false,false] rfl rfl (any_of HT_.out (by kernel_rfl)) (fun _ _ _ h=>h) (Or.inl ⟨by rfl,?_⟩) ?_ ?_
               rotate_left
               ·intro w'
                go_simp
                with_reducible rfl
               rotate_left
               ·simp only [Act.put,List.setIfInBounds_toArray,List.set_cons_zero,List.set_cons_succ,i64_w,i32_w]
                rfl
               refine pure_ (i:=10) (N:=some 62) (v:=?_) (a':=?_) #[true,true,true,true,true,true,true,true,true,true,true,false,false,false,false,false,false,false,false,false] rfl rfl (any_of HT_.out (by kernel_rfl)) (fun _ _ _ h=>h) (Or.inl ⟨by rfl,?_⟩) ?_ ?_
               rotate_left
               ·intro w'
                go_simp
                with_reducible rfl
               rotate_left
               ·simp only [Act.put,List.setIfInBounds_toArray,List.set_cons_zero,List.set_cons_succ,i64_w,i32_w]
                rfl
               refine pure_ (i:=12) (N:=some 64) (v:=?_) (a':=?_) #[true,true,true,true,true,true,true,true,true,true,true,false,true,false,false,false,false,false,false,false] rfl rfl (any_of HT_.out (by kernel_rfl)) (fun _ _ _ h=>h) (Or.inl ⟨by rfl,?_⟩) ?_ ?_
               rotate_left
               ·intro w'
                go_simp
                with_reducible rfl
               rotate_left
               ·simp only [Act.put,List.setIfInBounds_toArray,List.set_cons_zero,List.set_cons_succ,i64_w,i32_w]
                rfl
               refine pure_ (i:=16) (N:=some 68) (v:=?_) (a':=?_) #[true,true,true,true,true,true,true,true,true,true,true,false,true,false,false,false,true,false,false,false] rfl rfl (any_of HT_.out (by kernel_rfl)) (fun _ _ _ h=>h) (Or.inl ⟨by rfl,?_⟩) ?_ ?_
               rotate_left
               ·intro w'
                go_simp
                with_reducible rfl
               rotate_left
               ·simp only [Act.put,List.setIfInBounds_toArray,List.set_cons_zero,List.set_cons_succ,i64_w,i32_w]
                rfl
               refine take_ (i:=11) (N:=some 63) (v:=?_) (a':=?_) #[true,true,true,true,true,true,true,true,true,true,true,true,true,false,false,false,true,false,false,false] rfl rfl (take_ofW HT_.out HW_.out (by kernel_rfl)) (fun _ _ _ h=>h) (Or.inl ⟨by rfl,?_⟩) hHeld ?_ ?_
               rotate_left
               ·rintro w' ⟨s0,s1,s2,s3,s4,s5,s6,s7⟩
                go_simp
                with_reducible rfl
               rotate_left
               ·simp only [Act.put,List.setIfInBounds_toArray,List.set_cons_zero,List.set_cons_succ,i64_w,i32_w]
                rfl
               refine pure_ (i:=13) (N:=some 65) (v:=?_) (a':=?_) #[true,true,true,true,true,true,true,true,true,true,true,true,true,true,false,false,true,false,false,false] rfl rfl (any_of HT_.out (by kernel_rfl)) (fun _ _ _ h=>h) (Or.inl ⟨by rfl,?_⟩) ?_ ?_
               rotate_left
               ·intro w'
                go_simp
                with_reducible rfl
               rotate_left
               ·simp only [Act.put,List.setIfInBounds_toArray,List.set_cons_zero,List.set_cons_succ,i64_w,i32_w]
                rfl
               refine take_ (i:=14) (N:=some 66) (v:=?_) (a':=?_) #[true,true,true,true,true,true,true,true,true,true,true,true,true,true,true,false,true,false,false,false] rfl rfl (take_ofW HT_.out HW_.out (by kernel_rfl)) (fun _ _ _ h=>h) (Or.inl ⟨by rfl,?_⟩) hHeld ?_ ?_
               rotate_left
               ·rintro w' ⟨s0,s1,s2,s3,s4,s5,s6,s7⟩
                go_simp
                with_reducible rfl
               rotate_left
               ·simp only [Act.put,List.setIfInBounds_toArray,List.set_cons_zero,List.set_cons_succ,i64_w,i32_w]
                rfl
               refine pure_ (i:=15) (N:=some 67) (v:=?_) (a':=?_) #[true,true,true,true,true,true,true,true,true,true,true,true,true,true,true,true,true,false,false,false] rfl rfl (any_of HT_.out (by kernel_rfl)) (fun _ _ _ h=>h) (Or.inl ⟨by rfl,?_⟩) ?_ ?_
               rotate_left
               ·intro w'
                go_simp
                with_reducible rfl
               rotate_left
               ·simp only [Act.put,List.setIfInBounds_toArray,List.set_cons_zero,List.set_cons_succ,i64_w,i32_w]
                rfl
               refine take_ (i:=17) (N:=some 69) (v:=?_) (a':=?_) #[true,true,true,true,true,true,true,true,true,true,true,true,true,true,true,true,true,true,false,false] rfl rfl (take_ofW HT_.out HW_.out (by kernel_rfl)) (fun _ _ _ h=>h) (Or.inl ⟨by rfl,?_⟩) hHeld ?_ ?_
               rotate_left
               ·rintro w' ⟨s0,s1,s2,s3,s4,s5,s6,s7⟩
                go_simp
                with_reducible rfl
               rotate_left
               ·simp only [Act.put,List.setIfInBounds_toArray,List.set_cons_zero,List.set_cons_succ,i64_w,i32_w]
                rfl
               refine pure_ (i:=18) (N:=some 70) (v:=?_) (a':=?_) #[true,true,true,true,true,true,true,true,true,true,true,true,true,true,true,true,true,true,true,false] rfl rfl (any_of HT_.out (by kernel_rfl)) (fun _ _ _ h=>h) (Or.inl ⟨by rfl,?_⟩) ?_ ?_
               rotate_left
               ·intro w'
                go_simp
                with_reducible rfl
               rotate_left
               ·simp only [Act.put,List.setIfInBounds_toArray,List.set_cons_zero,List.set_cons_succ,i64_w,i32_w]
                rfl
               refine pure_ (i:=19) (N:=some 71) (v:=?_) (a':=?_) #[true,true,true,true,true,true,true,true,true,true,true,true,true,true,true,true,true,true,true,true] rfl rfl (any_of HT_.out (by kernel_rfl)) (fun _ _ _ h=>h) (Or.inl ⟨by rfl,?_⟩) ?_ ?_
               rotate_left
               ·intro w'
                go_simp
                with_reducible rfl
               rotate_left
               ·simp only [Act.put,List.setIfInBounds_toArray,List.set_cons_zero,List.set_cons_succ,i64_w,i32_w]
                rfl
               refine done_ (done_of HT_.out (by kernel_rfl)) ?_
               try go_wp2
               go_ret
               exact ⟨by first|rfl|(simp [errW_none,errW_some] <;> rfl)|(simp [*,errW_none,errW_some] <;> rfl),by repeat (first|(with_reducible first|exact HB.out|apply below_alloc|apply pw_below_drewN|apply below_drew1|refine below_set ?_ GE101.out)|exact HB.out)⟩
             ·rw [if_neg c24] at H
              exact absurd H (by simp)
            ·rw [if_neg c23] at H
             have c23b0 : (((rd_L1 l0_3 x49_3).length : Int) == a0_1) = false:=beq_eq_false_iff_ne.mpr c23
             have c23b1 : (((rd_L1 l0_3 x49_3).length : Int) != a0_1) = true:=bne_iff_ne.mpr c23
             obtain rfl:=Option.some.inj H
             try go_wp2
             have n0_:=Aside0.mk (blk_drew BK101.out)
             have n1_:=Aside0.mk (below_drew1 HB.out)
             clear BK101
             clear HB
             have BK101:=n0_
             have HB:=n1_
             clear n0_ n1_
             have p102 : 0 ≤ (x49_3 : Int):=of_decide_eq_true (by first|(with_reducible assumption)|assumption)
             have q102 : x49_3 < (l0_3.length : Int):=of_decide_eq_true (by first|(with_reducible assumption)|assumption)
             obtain ⟨ad102,A102_0,c102_0,e102,hx102_0,hl102_0,hi102_0⟩:=at_L1 HR0_3.out x49_3 p102 q102
             have hw102_0:=hx102_0
             cases e102
             replace hx102_0:=(HB.out.cell (World.block_lt_of_cell? w _ hx102_0)).trans hx102_0
             have HR102_0:=Aside0.mk hi102_0
             have HC102_0:=Aside0.mk hl102_0
             clear hi102_0 hl102_0
             replace p102:=eq_true p102
             replace q102:=eq_true q102
             refine start_ (n:=20) (S:=fun w'=>w'.cell? ⟨gb101,0,none⟩ = some (.int .i64 a0_0) ∧ w'.cell? ⟨gb101,1,none⟩ = some (.int .i64 a0_1) ∧ w'.cell? ⟨gb101,2,none⟩ = some (.int .i64 a0_2) ∧ w'.cell? ⟨gb101,3,none⟩ = some (.slice (some ad102) l0_3.length c0_3) ∧ w'.cell? ⟨gb101,4,none⟩ = some (.slice A0_4 l0_4.length c0_4) ∧ w'.cell? ⟨gb101,5,none⟩ = some (.int .i64 a0_5) ∧ w'.cell? (ad102.add (x49_3).toNat) = some (.slice A102_0 (rd_L1 l0_3 x49_3).length c102_0)) (ds:=[]) #[false,false,false,false,false,false,false,false,false,false,false,false,false,false,false,false,false,false,false,false] (by kernel_rfl) rfl rfl ⟨(blk_cell BK101.out 0).trans rfl,(blk_cell BK101.out 1).trans rfl,(blk_cell BK101.out 2).trans rfl,(blk_cell BK101.out 3).trans rfl,(blk_cell BK101.out 4).trans rfl,(blk_cell BK101.out 5).trans rfl,((HB.out.cell (World.block_lt_of_cell? w _ hw102_0)).trans hw102_0)⟩ (fun hHeld=>?_);refine with_tabW turner_Check.tab8 turner_Check.bits8 (fun HT_ HW_=>?_)
             generalize wr.drew = w28 at BK101 HB HR102_0 hx102_0 hHeld ⊢
             refine pure_ (i:=0) (N:=some 52) (v:=?_) (a':=?_) #[true,false,false,false,false,false,false,false,false,false,false,false,false,false,false,false,false,false,false,false] rfl rfl (any_of HT_.out (by kernel_rfl)) (fun _ _ _ h=>h) (Or.inl ⟨by rfl,?_⟩) ?_ ?_
             rotate_left
             ·intro w'
              go_simp
              with_reducible rfl
             rotate_left
             ·simp only [Act.put,List.setIfInBounds_toArray,List.set_cons_zero,List.set_cons_succ,i64_w,i32_w]
              rfl
             refine pure_ (i:=2) (N:=some 54) (v:=?_) (a':=?_) #[true,false,true,false,false,false,false,false,false,false,false,false,false,false,false,false,false,false,false,false] rfl rfl (any_of HT_.out (by kernel_rfl)) (fun _ _ _ h=>h) (Or.inl ⟨by rfl,?_⟩) ?_ ?_
             rotate_left
             ·intro w'
              go_simp
              with_reducible rfl
             rotate_left
             ·simp only [Act.put,List.setIfInBounds_toArray,List.set_cons_zero,List.set_cons_succ,i64_w,i32_w]
              rfl
             refine pure_ (i:=6) (N:=some 58) (v:=?_) (a':=?_) #[true,false,true,false,false,false,true,false,false,false,false,false,false,false,false,false,false,false,false,false] rfl rfl (any_of HT_.out (by kernel_rfl)) (fun _ _ _ h=>h) (Or.inl ⟨by rfl,?_⟩) ?_ ?_
             rotate_left
             ·intro w'
              go_simp
              with_reducible rfl
             rotate_left
             ·simp only [Act.put,List.setIfInBounds_toArray,List.set_cons_zero,List.set_cons_succ,i64_w,i32_w]
              rfl
             refine take_ (i:=1) (N:=some 53) (v:=?_) (a':=?_) #[true,true,true,false,false,false,true,false,false,false,false,false,false,false,false,false,false,false,false,false] rfl rfl (take_ofW HT_.out HW_.out (by kernel_rfl)) (fun _ _ _ h=>h) (Or.inl ⟨by rfl,?_⟩) hHeld ?_ ?_
             rotate_left
             ·rintro w' ⟨s0,s1,s2,s3,s4,s5,s6⟩
              go_simp
              with_reducible rfl
             rotate_left
             ·simp only [Act.put,List.setIfInBounds_toArray,List.set_cons_zero,List.set_cons_succ,i64_w,i32_w]
              rfl
             refine pure_ (i:=3) (N:=some 55) (v:=?_) (a':=?_) #[true,true,true,true,false,false,true,false,false,false,false,false,false,false,false,false,false,false,false,false] rfl rfl (any_of HT_.out (by kernel_rfl)) (fun _ _ _ h=>h) (Or.inl ⟨by rfl,?_⟩) ?_ ?_
             rotate_left
             ·intro w'
              go_simp
              with_reducible rfl
             rotate_left
             ·simp only [Act.put,List.setIfInBounds_toArray,List.set_cons_zero,List.set_cons_succ,i64_w,i32_w]
              rfl
             refine take_ (i:=4) (N:=some 56) (v:=?_) (a':=?_) #[true,true,true,true,true,false,true,false,false,false,false,false,false,false,false,false,false,false,false,false] rfl rfl (take_ofW HT_.out HW_.out (by kernel_rfl)) (fun _ _ _ h=>h) (Or.inl ⟨by rfl,?_⟩) hHeld ?_ ?_
             rotate_left
             ·rintro w' ⟨s0,s1,s2,s3,s4,s5,s6⟩
              go_simp
              with_reducible rfl
             rotate_left
             ·simp only [Act.put,List.setIfInBounds_toArray,List.set_cons_zero,List.set_cons_succ,i64_w,i32_w]
              rfl
             refine pure_ (i:=5) (N:=some 57) (v:=?_) (a':=?_) #[true,true,true,true,true,true,true,false,false,false,false,false,false,false,false,false,false,false,false,false] rfl rfl (any_of HT_.out (by kernel_rfl)) (fun _ _ _ h=>h) (Or.inl ⟨by rfl,?_⟩) ?_ ?_
             rotate_left
             ·intro w'
              go_simp
              with_reducible rfl
             rotate_left
             ·simp only [Act.put,List.setIfInBounds_toArray,List.set_cons_zero,List.set_cons_succ,i64_w,i32_w]
              rfl
             refine take_ (i:=7) (N:=some 59) (v:=?_) (a':=?_) #[true,true,true,true,true,true,true,true,false,false,false,false,false,false,false,false,false,false,false,false] rfl rfl (take_ofW HT_.out HW_.out (by kernel_rfl)) (fun _ _ _ h=>h) (Or.inl ⟨by rfl,?_⟩) hHeld ?_ ?_
             rotate_left
             ·rintro w' ⟨s0,s1,s2,s3,s4,s5,s6⟩
              go_simp
              with_reducible rfl
             rotate_left
             ·simp only [Act.put,List.setIfInBounds_toArray,List.set_cons_zero,List.set_cons_succ,i64_w,i32_w]
              rfl
             refine pure_ (i:=8) (N:=some 60) (v:=?_) (a':=?_) #[true,true,true,true,true,true,true,true,true,false,false,false,false,false,false,false,false,false,false,false] rfl rfl (any_of HT_.out (by kernel_rfl)) (fun _ _ _ h=>h) (Or.inl ⟨by rfl,?_⟩) ?_ ?_
             rotate_left
             ·intro w'
              go_simp
              with_reducible rfl
             rotate_left
             ·simp only [Act.put,List.setIfInBounds_toArray,List.set_cons_zero,List.set_cons_succ,i64_w,i32_w]
              rfl
             refine pure_ (i:=9) (N:=some 61) (v:=?_) (a':=?_) #[true,true,true,true,true,true,true,true,true,true,false,false,false,false,false,false,false,false,false,false] rfl rfl (any_of HT_.out (by kernel_rfl)) (fun _ _ _ h=>h) (Or.inl ⟨by rfl,?_⟩) ?_ ?_
             rotate_left
             ·intro w'
              go_simp
              with_reducible rfl
             rotate_left
             ·simp only [Act.put,List.setIfInBounds_toArray,List.set_cons_zero,List.set_cons_succ,i64_w,i32_w]
              rfl
             refine pure_ (i:=10) (N:=some 62) (v:=undef) (a':=?_) #[true,true,true,true,true,true,true,true,true,true,true,false,false,false,false,false,false,false,false,false] rfl rfl (any_of HT_.out (by kernel_rfl)) (fun _ _ _ h=>h) (Or.inr ⟨by rfl,rfl⟩) ?_ ?_
             rotate_left
             ·simp only [Act.put,List.setIfInBounds_toArray,List.set_cons_zero,List.set_cons_succ,i64_w,i32_w]
              rfl
             refine pure_ (i:=11) (N:=some 63) (v:=undef) (a':=?_) #[true,true,true,true,true,true,true,true,true,true,true,true,false,false,false,false,false,false,false,false] rfl rfl (any_of HT_.out (by kernel_rfl)) (fun _ _ _ h=>h) (Or.inr ⟨by rfl,rfl⟩) ?_ ?_
             rotate_left
             ·simp only [Act.put,List.setIfInBounds_toArray,List.set_cons_zero,List.set_cons_succ,i64_w,i32_w]
              rfl
             refine pure_ (i:=12) (N:=some 64) (v:=undef) (a':=?_) #[true,true,true,true,true,true,true,true,true,true,true,true,true,false,false,false,false,false,false,false] rfl rfl (any_of HT_.out (by kernel_rfl)) (fun _ _ _ h=>h) (Or.inr ⟨by rfl,rfl⟩) ?_ ?_
             rotate_left
             ·simp only [Act.put,List.setIfInBounds_toArray,List.set_cons_zero,List.set_cons_succ,i64_w,i32_w]
              rfl
             refine pure_ (i:=13) (N:=some 65) (v:=undef) (a':=?_) #[true,true,true,true,true,true,true,true,true,true,true,true,true,true,false,false,false,false,false,false] rfl rfl (any_of HT_.out (by kernel_rfl)) (fun _ _ _ h=>h) (Or.inr ⟨by rfl,rfl⟩) ?_ ?_
             rotate_left
             ·simp only [Act.put,List.setIfInBounds_toArray,List.set_cons_zero,List.set_cons_succ,i64_w,i32_w]
              rfl
             refine pure_ (i:=14) (N:=some 66) (v:=undef) (a':=?_) #[true,true,true,true,true,true,true,true,true,true,true,true,true,true,true,false,false,false,false,false] rfl rfl (any_of HT_.out (by kernel_rfl)) (fun _ _ _ h=>h) (Or.inr ⟨by rfl,rfl⟩) ?_ ?_
             rotate_left
             ·simp only [Act.put,List.setIfInBounds_toArray,List.set_cons_zero,List.set_cons_succ,i64_w,i32_w]
              rfl
             refine pure_ (i:=15) (N:=some 67) (v:=undef) (a':=?_) #[true,true,true,true,true,true,true,true,true,true,true,true,true,true,true,true,false,false,false,false] rfl rfl (any_of HT_.out (by kernel_rfl)) (fun _ _ _ h=>h) (Or.inr ⟨by rfl,rfl⟩) ?_ ?_
             rotate_left
             ·simp only [Act.put,List.setIfInBounds_toArray,List.set_cons_zero,List.set_cons_succ,i64_w,i32_w]
              rfl
             refine pure_ (i:=16) (N:=some 68) (v:=undef) (a':=?_) #[true,true,true,true,true,true,true,true,true,true,true,true,true,true,true,true,true,false,false,false] rfl rfl (any_of HT_.out (by kernel_rfl)) (fun _ _ _ h=>h) (Or.inr ⟨by rfl,rfl⟩) ?_ ?_
             rotate_left
             ·simp only [Act.put,List.setIfInBounds_toArray,List.set_cons_zero,List.set_cons_succ,i64_w,i32_w]
              rfl
             refine pure_ (i:=17) (N:=some 69) (v:=undef) (a':=?_) #[true,true,true,true,true,true,true,true,true,true,true,true,true,true,true,true,true,true,false,false] rfl rfl (any_of HT_.out (by kernel_rfl)) (fun _ _ _ h=>h) (Or.inr ⟨by rfl,rfl⟩) ?_ ?_
             rotate_left
             ·simp only [Act.put,List.setIfInBounds_toArray,List.set_cons_zero,List.set_cons_succ,i64_w,i32_w]
              rfl
             refine pure_ (i:=18) (N:=some 70) (v:=undef) (a':=?_) #[true,true,true,true,true,true,true,true,true,true,true,true,true,true,true,true,true,true,true,false] rfl rfl (any_of HT_.out (by kernel_rfl)) (fun _ _ _ h=>h) (Or.inr ⟨by rfl,rfl⟩) ?_ ?_
             rotate_left
             ·simp only [Act.put,List.setIfInBounds_toArray,List.set_cons_zero,List.set_cons_succ,i64_w,i32_w]
              rfl
             refine pure_ (i:=19) (N:=some 71) (v:=?_) (a':=?_) #[true,true,true,true,true,true,true,true,true,true,true,true,true,true,true,true,true,true,true,true] rfl rfl (any_of HT_.out (by kernel_rfl)) (fun _ _ _ h=>h) (Or.inl ⟨by rfl,?_⟩) ?_ ?_
             rotate_left
             ·intro w'
              go_simp
              with_reducible rfl
             rotate_left
             ·simp only [Act.put,List.setIfInBounds_toArray,List.set_cons_zero,List.set_cons_succ,i64_w,i32_w]
              rfl
             refine done_ (done_of HT_.out (by kernel_rfl)) ?_
             try go_wp2
             go_ret
             exact ⟨by first|rfl|(simp [errW_none,errW_some] <;> rfl)|(simp [*,errW_none,errW_some] <;> rfl),by repeat (first|(with_reducible first|exact HB.out|apply below_alloc|apply pw_below_drewN|apply below_drew1|refine below_set ?_ GE101.out)|exact HB.out)⟩
           ·rw [if_neg c22] at H
            exact absurd H (by simp)
          ·rw [if_neg c21] at H
           exact absurd H (by simp)
         ·rw [if_neg c20] at H
          have c20b0 : decide (x49_3 < a0_0) = false:=decide_eq_false c20
          clear c20
          replace H:=Option.bind_eq_some_iff.mp H
          obtain ⟨t104,A290,H⟩:=H
          replace H : ((turner_Check_any.f t104).bind fun t107=>(if t107 = true then (some 1) else ((slices_Concat_int_int_16.f l0_3).bind fun t108=>((some (([a0_5] : List Int) : List Int)).bind fun y111=>(if t108.length + y111.length < 17592186044416 then ((some (t108 ++ y111 : List Int)).bind fun y114=>(turner_Check.l1 k3 t104 y114 (y114.length : Int) 0 a0_0 a0_1 a0_2 l0_3 l0_4 a0_5)) else (none)))))) = some r:=H
          have A29:=Aside0.mk A290
          clear A290
          replace H:=Option.bind_eq_some_iff.mp H
          obtain ⟨t107,A300,H⟩:=H
          replace H : (if t107 = true then (some 1) else ((slices_Concat_int_int_16.f l0_3).bind fun t108=>((some (([a0_5] : List Int) : List Int)).bind fun y111=>(if t108.length + y111.length < 17592186044416 then ((some (t108 ++ y111 : List Int)).bind fun y114=>(turner_Check.l1 k3 t104 y114 (y114.length : Int) 0 a0_0 a0_1 a0_2 l0_3 l0_4 a0_5)) else (none))))) = some r:=H
          have A30:=Aside0.mk A300
          clear A300
          by_cases c31 : t107 = true
          ·subst c31
           have H1 : (some 1) = some r:=by rw [if_pos rfl] at H;exact H
           clear H
           have H:=H1
           clear H1
           obtain rfl:=Option.some.inj H
           have hcz32_0 : wr.cell? ⟨gb101,0,none⟩ = some (.int .i64 a0_0):=(blk_cell BK101.out 0).trans rfl
           have hcz32_1 : wr.cell? ⟨gb101,1,none⟩ = some (.int .i64 a0_1):=(blk_cell BK101.out 1).trans rfl
           have hcz32_2 : wr.cell? ⟨gb101,2,none⟩ = some (.int .i64 a0_2):=(blk_cell BK101.out 2).trans rfl
           have hcz32_3 : wr.cell? ⟨gb101,3,none⟩ = some (.slice A0_3 l0_3.length c0_3):=(blk_cell BK101.out 3).trans rfl
           have hcz32_4 : wr.cell? ⟨gb101,4,none⟩ = some (.slice A0_4 l0_4.length c0_4):=(blk_cell BK101.out 4).trans rfl
           have hcz32_5 : wr.cell? ⟨gb101,5,none⟩ = some (.int .i64 a0_5):=(blk_cell BK101.out 5).trans rfl
           have hfz32_0:=blk_frozen BK101.out 0
           have hfz32_1:=blk_frozen BK101.out 1
           have hfz32_2:=blk_frozen BK101.out 2
           have hfz32_3:=blk_frozen BK101.out 3
           have hfz32_4:=blk_frozen BK101.out 4
           have hfz32_5:=blk_frozen BK101.out 5
           go_wp2_with (first|((with_reducible refine gate_callee (f:=13) rfl ?_);refine goesL_ (some 75) rfl rfl Try.func13 (by kernel_rfl) rfl #[.slice A0_4 l0_4.length c0_4] rfl (by (try simp only [List.map_toArray,List.map_cons,List.map_nil]);first|done|rfl|(simp only [List.length_drop,List.length_take];rfl)) ?_;(with_reducible refine (slices_Concat_int_int_13.calls (fun k_=>k_ < w.heap.size) _ _ l0_4 t104 _ ?side1 A29.out).mono ?_);(case side1=>exact Kd.V_mk HC0_4.out (Kd.F_below (Kd.C_F (Kd.heap_slice 26 (Kd.heap_slice 3 (Kd.heap_int .i64))) HR0_4.out) (by repeat (first|(with_reducible first|exact HB.out|apply below_alloc|apply pw_below_drewN|apply below_drew1|refine below_set ?_ GE101.out)|exact HB.out))));rintro e w33 ⟨v105,rfl,ho0,hb⟩;refine ⟨_,rfl,?_⟩;have n0_:=Aside0.mk (Kd.V_lower (Kd.V_mono (ok':=fun k_=>k_ ≠ gb101) ho0 (fun k_ hk_=>Or.elim hk_ (fun hs_=>fun e_=>Nat.not_le.2 hs_ (by rw [e_];exact GW101.out)) (fun hn_=>(Kd.freshB (g:=gb101) (o:=.cells #[.int .i64 a0_0,.int .i64 a0_1,.int .i64 a0_2,.slice A0_3 l0_3.length c0_3,.slice A0_4 l0_4.length c0_4,.int .i64 a0_5] 25 (0,0)) (by (with_reducible repeat (first|refine blk_drewN ?_ _|refine blk_drew ?_|refine blk_alloc ?_ _));exact BK101.out) k_ hn_)))) (below_size (by repeat (first|(with_reducible first|exact HB.out|apply below_alloc|apply pw_below_drewN|apply below_drew1|refine below_set ?_ GE101.out)|exact HB.out))));have n1_:=Aside0.mk (blk_below (g:=gb101) (o:=.cells #[.int .i64 a0_0,.int .i64 a0_1,.int .i64 a0_2,.slice A0_3 l0_3.length c0_3,.slice A0_4 l0_4.length c0_4,.int .i64 a0_5] 25 (0,0)) (by (with_reducible repeat (first|refine blk_drewN ?_ _|refine blk_drew ?_|refine blk_alloc ?_ _));exact BK101.out) hb);have n2_:=Aside0.mk (below_step (by repeat (first|(with_reducible first|exact HB.out|apply below_alloc|apply pw_below_drewN|apply below_drew1|refine below_set ?_ GE101.out)|exact HB.out)) hb);clear BK101;clear HB;have HO106:=n0_;have BK101:=n1_;have HB:=n2_;clear n0_ n1_ n2_;(try clear hb);(try clear hb2);(try clear hk);(try clear hi);(try clear ho0);obtain ⟨Ao34,co34,eo34⟩:=Kd.V_slice HO106.out;subst eo34)|((with_reducible refine gate_callee (f:=14) rfl ?_);refine goesL_ (some 77) rfl rfl Try.func14 (by kernel_rfl) rfl #[.slice Ao34 t104.length co34,.func (.func 15) #[] #[]] rfl (by (try simp only [List.map_toArray,List.map_cons,List.map_nil]);first|done|rfl|(simp only [List.length_drop,List.length_take];rfl)) ?_;(with_reducible refine (turner_Check_any.calls _ _ t104  true _ ?side1 ?side2 A30.out).mono ?_);(case side1=>repeat (first|exact (Kd.V_reads' HO106.out).2.2|(with_reducible refine Kd.C_alloc ?_ _)|(with_reducible refine Kd.C_drewN ?_ _)|(with_reducible refine Kd.C_drew ?_)));(case side2=>exact (Kd.V_reads' HO106.out).2.1);rintro e w' ⟨rfl,⟨nd,rfl⟩⟩;refine ⟨_,rfl,?_⟩))
           go_ret
           exact ⟨by first|rfl|(simp [errW_none,errW_some] <;> rfl)|(simp [*,errW_none,errW_some] <;> rfl),by repeat (first|(with_reducible first|exact HB.out|apply below_alloc|apply pw_below_drewN|apply below_drew1|refine below_set ?_ GE101.out)|exact HB.out)⟩
          ·replace c31:=Bool.eq_false_iff.mpr c31
           subst c31
           have H1 : ((slices_Concat_int_int_16.f l0_3).bind fun t108=>((some (([a0_5] : List Int) : List Int)).bind fun y111=>(if t108.length + y111.length < 17592186044416 then ((some (t108 ++ y111 : List Int)).bind fun y114=>(turner_Check.l1 k3 t104 y114 (y114.length : Int) 0 a0_0 a0_1 a0_2 l0_3 l0_4 a0_5)) else (none)))) = some r:=by rw [if_neg (show ¬ (false = true) by decide)] at H;exact H
           clear H
           have H:=H1
           clear H1
           replace H:=Option.bind_eq_some_iff.mp H
           obtain ⟨t108,A350,H⟩:=H
           replace H : ((some (([a0_5] : List Int) : List Int)).bind fun y111=>(if t108.length + y111.length < 17592186044416 then ((some (t108 ++ y111 : List Int)).bind fun y114=>(turner_Check.l1 k3 t104 y114 (y114.length : Int) 0 a0_0 a0_1 a0_2 l0_3 l0_4 a0_5)) else (none))) = some r:=H
           have A35:=Aside0.mk A350
           clear A350
           obtain ⟨y111,hy111⟩ : ∃ y_ : List Int,y_ = (([a0_5] : List Int)):=⟨_,rfl⟩
           replace H : (if t108.length + y111.length < 17592186044416 then ((some (t108 ++ y111 : List Int)).bind fun y114=>(turner_Check.l1 k3 t104 y114 (y114.length : Int) 0 a0_0 a0_1 a0_2 l0_3 l0_4 a0_5)) else (none)) = some r:=by first|(rw [hy111];with_reducible exact H)|(have H2_:=(Option.bind_some _ _).symm.trans H;rw [hy111];with_reducible exact H2_)|(have H2_:=(Option.bind_some _ _).symm.trans H;with_reducible exact H2_)|with_reducible exact H|(rw [hy111];exact H)|exact H
           have Ny111:=Aside0.mk hy111
           clear hy111
           by_cases c36 : t108.length + y111.length < 17592186044416
           ·rw [if_pos c36] at H
            have LMc36:=Aside0.mk c36
            clear c36
            obtain ⟨y114,hy114⟩ : ∃ y_ : List Int,y_ = (t108 ++ y111):=⟨_,rfl⟩
            replace H : (turner_Check.l1 k3 t104 y114 (y114.length : Int) 0 a0_0 a0_1 a0_2 l0_3 l0_4 a0_5) = some r:=by first|(rw [hy114];with_reducible exact H)|(have H2_:=(Option.bind_some _ _).symm.trans H;rw [hy114];with_reducible exact H2_)|(have H2_:=(Option.bind_some _ _).symm.trans H;with_reducible exact H2_)|with_reducible exact H|(rw [hy114];exact H)|exact H
            have Ny114:=Aside0.mk hy114
            clear hy114
            have H':=Aside0.mk H
            clear H
            have hcz37_0 : wr.cell? ⟨gb101,0,none⟩ = some (.int .i64 a0_0):=(blk_cell BK101.out 0).trans rfl
            have hcz37_1 : wr.cell? ⟨gb101,1,none⟩ = some (.int .i64 a0_1):=(blk_cell BK101.out 1).trans rfl
            have hcz37_2 : wr.cell? ⟨gb101,2,none⟩ = some (.int .i64 a0_2):=(blk_cell BK101.out 2).trans rfl
            have hcz37_3 : wr.cell? ⟨gb101,3,none⟩ = some (.slice A0_3 l0_3.length c0_3):=(blk_cell BK101.out 3).trans rfl
            have hcz37_4 : wr.cell? ⟨gb101,4,none⟩ = some (.slice A0_4 l0_4.length c0_4):=(blk_cell BK101.out 4).trans rfl
            have hcz37_5 : wr.cell? ⟨gb101,5,none⟩ = some (.int .i64 a0_5):=(blk_cell BK101.out 5).trans rfl
            have hfz37_0:=blk_frozen BK101.out 0
            have hfz37_1:=blk_frozen BK101.out 1
            have hfz37_2:=blk_frozen BK101.out 2
            have hfz37_3:=blk_frozen BK101.out 3
            have hfz37_4:=blk_frozen BK101.out 4
            have hfz37_5:=blk_frozen BK101.out 5
            try go_wp2_with (first|((with_reducible refine gate_callee (f:=13) rfl ?_);refine goesL_ (some 75) rfl rfl Try.func13 (by kernel_rfl) rfl #[.slice A0_4 l0_4.length c0_4] rfl (by (try simp only [List.map_toArray,List.map_cons,List.map_nil]);first|done|rfl|(simp only [List.length_drop,List.length_take];rfl)) ?_;(with_reducible refine (slices_Concat_int_int_13.calls (fun k_=>k_ < w.heap.size) _ _ l0_4 t104 _ ?side1 A29.out).mono ?_);(case side1=>exact Kd.V_mk HC0_4.out (Kd.F_below (Kd.C_F (Kd.heap_slice 26 (Kd.heap_slice 3 (Kd.heap_int .i64))) HR0_4.out) (by repeat (first|(with_reducible first|exact HB.out|apply below_alloc|apply pw_below_drewN|apply below_drew1|refine below_set ?_ GE101.out)|exact HB.out))));rintro e w38 ⟨v105,rfl,ho0,hb⟩;refine ⟨_,rfl,?_⟩;have n0_:=Aside0.mk (Kd.V_lower (Kd.V_mono (ok':=fun k_=>k_ ≠ gb101) ho0 (fun k_ hk_=>Or.elim hk_ (fun hs_=>fun e_=>Nat.not_le.2 hs_ (by rw [e_];exact GW101.out)) (fun hn_=>(Kd.freshB (g:=gb101) (o:=.cells #[.int .i64 a0_0,.int .i64 a0_1,.int .i64 a0_2,.slice A0_3 l0_3.length c0_3,.slice A0_4 l0_4.length c0_4,.int .i64 a0_5] 25 (0,0)) (by (with_reducible repeat (first|refine blk_drewN ?_ _|refine blk_drew ?_|refine blk_alloc ?_ _));exact BK101.out) k_ hn_)))) (below_size (by repeat (first|(with_reducible first|exact HB.out|apply below_alloc|apply pw_below_drewN|apply below_drew1|refine below_set ?_ GE101.out)|exact HB.out))));have n1_:=Aside0.mk (blk_below (g:=gb101) (o:=.cells #[.int .i64 a0_0,.int .i64 a0_1,.int .i64 a0_2,.slice A0_3 l0_3.length c0_3,.slice A0_4 l0_4.length c0_4,.int .i64 a0_5] 25 (0,0)) (by (with_reducible repeat (first|refine blk_drewN ?_ _|refine blk_drew ?_|refine blk_alloc ?_ _));exact BK101.out) hb);have n2_:=Aside0.mk (below_step (by repeat (first|(with_reducible first|exact HB.out|apply below_alloc|apply pw_below_drewN|apply below_drew1|refine below_set ?_ GE101.out)|exact HB.out)) hb);clear BK101;clear HB;have HO106:=n0_;have BK101:=n1_;have HB:=n2_;clear n0_ n1_ n2_;(try clear hb);(try clear hb2);(try clear hk);(try clear hi);(try clear ho0);obtain ⟨Ao39,co39,eo39⟩:=Kd.V_slice HO106.out;subst eo39)|((with_reducible refine gate_callee (f:=14) rfl ?_);refine goesL_ (some 77) rfl rfl Try.func14 (by kernel_rfl) rfl #[.slice Ao39 t104.length co39,.func (.func 15) #[] #[]] rfl (by (try simp only [List.map_toArray,List.map_cons,List.map_nil]);first|done|rfl|(simp only [List.length_drop,List.length_take];rfl)) ?_;(with_reducible refine (turner_Check_any.calls _ _ t104  false _ ?side1 ?side2 A30.out).mono ?_);(case side1=>repeat (first|exact (Kd.V_reads' HO106.out).2.2|(with_reducible refine Kd.C_alloc ?_ _)|(with_reducible refine Kd.C_drewN ?_ _)|(with_reducible refine Kd.C_drew ?_)));(case side2=>exact (Kd.V_reads' HO106.out).2.1);rintro e w' ⟨rfl,⟨nd,rfl⟩⟩;refine ⟨_,rfl,?_⟩;(try (rw [drewN_self w38];generalize hq_ : World.drewN w38 _ = w38;have n0_ : Aside0 (Kd.V (Kd.slice 3 (Kd.int .i64)) 26 w38 w.heap.size (fun k_=>k_ ≠ gb101) (.slice Ao39 t104.length co39) t104):=⟨by rw [← hq_];exact (by (with_reducible repeat (first|apply Kd.V_alloc|apply Kd.V_drewN|apply Kd.V_drew));exact HO106.out)⟩;have n1_ : Aside0 (w38.heap[gb101]? = some (.cells #[.int .i64 a0_0,.int .i64 a0_1,.int .i64 a0_2,.slice A0_3 l0_3.length c0_3,.slice A0_4 l0_4.length c0_4,.int .i64 a0_5] 25 (0,0))):=⟨by rw [← hq_];exact (by (with_reducible repeat (first|refine blk_drewN ?_ _|refine blk_drew ?_|refine blk_alloc ?_ _));exact BK101.out)⟩;have n2_ : Aside0 (Below w.heap.size w w38):=⟨by rw [← hq_];exact (by repeat (first|(with_reducible first|exact HB.out|apply below_alloc|apply pw_below_drewN|apply below_drew1|refine below_set ?_ GE101.out)|exact HB.out))⟩;clear HO106 BK101 HB hq_;have HO106:=n0_;have BK101:=n1_;have HB:=n2_;clear n0_ n1_ n2_))))
            have n0_:=Aside0.mk (Kd.V_drew HO106.out)
            have n1_:=Aside0.mk (blk_drew BK101.out)
            have n2_:=Aside0.mk (below_drew1 HB.out)
            clear HO106
            clear BK101
            clear HB
            have HO106:=n0_
            have BK101:=n1_
            have HB:=n2_
            clear n0_ n1_ n2_
            refine start_ (n:=9) (S:=fun w'=>w'.cell? ⟨gb101,0,none⟩ = some (.int .i64 a0_0) ∧ w'.cell? ⟨gb101,1,none⟩ = some (.int .i64 a0_1) ∧ w'.cell? ⟨gb101,2,none⟩ = some (.int .i64 a0_2) ∧ w'.cell? ⟨gb101,3,none⟩ = some (.slice A0_3 l0_3.length c0_3) ∧ w'.cell? ⟨gb101,4,none⟩ = some (.slice A0_4 l0_4.length c0_4) ∧ w'.cell? ⟨gb101,5,none⟩ = some (.int .i64 a0_5)) (ds:=[]) #[false,false,false,false,false,false,false,false,false] (by kernel_rfl) rfl rfl ⟨(blk_cell BK101.out 0).trans rfl,(blk_cell BK101.out 1).trans rfl,(blk_cell BK101.out 2).trans rfl,(blk_cell BK101.out 3).trans rfl,(blk_cell BK101.out 4).trans rfl,(blk_cell BK101.out 5).trans rfl⟩ (fun hHeld=>?_);refine with_tabW turner_Check.tab14 turner_Check.bits14 (fun HT_ HW_=>?_)
            generalize w38.drew = w40 at HO106 BK101 HB hHeld ⊢
            refine pure_ (i:=0) (N:=some 78) (v:=?_) (a':=?_) #[true,false,false,false,false,false,false,false,false] rfl rfl (any_of HT_.out (by kernel_rfl)) (fun _ _ _ h=>h) (Or.inl ⟨by rfl,?_⟩) ?_ ?_
            rotate_left
            ·intro w'
             go_simp
             with_reducible rfl
            rotate_left
            ·simp only [Act.put,List.setIfInBounds_toArray,List.set_cons_zero,List.set_cons_succ,i64_w,i32_w]
             rfl
            refine pure_ (i:=3) (N:=some 81) (v:=?_) (a':=?_) #[true,false,false,true,false,false,false,false,false] rfl rfl (any_of HT_.out (by kernel_rfl)) (fun _ _ _ h=>h) (Or.inl ⟨by rfl,?_⟩) ?_ ?_
            rotate_left
            ·intro w'
             go_simp
             with_reducible rfl
            rotate_left
            ·simp only [Act.put,List.setIfInBounds_toArray,List.set_cons_zero,List.set_cons_succ,i64_w,i32_w]
             rfl
            refine pure_ (i:=8) (N:=some 86) (v:=?_) (a':=?_) #[true,false,false,true,false,false,false,false,true] rfl rfl (any_of HT_.out (by kernel_rfl)) (fun _ _ _ h=>h) (Or.inl ⟨by rfl,?_⟩) ?_ ?_
            rotate_left
            ·intro w'
             go_simp
             with_reducible rfl
            rotate_left
            ·simp only [Act.put,List.setIfInBounds_toArray,List.set_cons_zero,List.set_cons_succ,i64_w,i32_w]
             rfl
            refine take_ (i:=1) (N:=some 79) (v:=?_) (a':=?_) #[true,true,false,true,false,false,false,false,true] rfl rfl (take_ofW HT_.out HW_.out (by kernel_rfl)) (fun _ _ _ h=>h) (Or.inl ⟨by rfl,?_⟩) hHeld ?_ ?_
            rotate_left
            ·rintro w' ⟨s0,s1,s2,s3,s4,s5⟩
             go_simp
             with_reducible rfl
            rotate_left
            ·simp only [Act.put,List.setIfInBounds_toArray,List.set_cons_zero,List.set_cons_succ,i64_w,i32_w]
             rfl
            refine take_ (i:=4) (N:=some 82) (v:=?_) (a':=?_) #[true,true,false,true,true,false,false,false,true] rfl rfl (take_ofW HT_.out HW_.out (by kernel_rfl)) (fun _ _ _ h=>h) (Or.inl ⟨by rfl,?_⟩) hHeld ?_ ?_
            rotate_left
            ·rintro w' ⟨s0,s1,s2,s3,s4,s5⟩
             go_simp
             with_reducible rfl
            rotate_left
            ·simp only [Act.put,List.setIfInBounds_toArray,List.set_cons_zero,List.set_cons_succ,i64_w,i32_w]
             rfl
            refine join_ (σ:=Value × Value) 2 #[true,true,true,true,true,true,false,false,true] (fun s_=>[(80,s_.1),(83,s_.2)]) (fun s_ w'=>(w'.cell? ⟨gb101,0,none⟩ = some (.int .i64 a0_0) ∧ w'.cell? ⟨gb101,1,none⟩ = some (.int .i64 a0_1) ∧ w'.cell? ⟨gb101,2,none⟩ = some (.int .i64 a0_2) ∧ w'.cell? ⟨gb101,3,none⟩ = some (.slice A0_3 l0_3.length c0_3) ∧ w'.cell? ⟨gb101,4,none⟩ = some (.slice A0_4 l0_4.length c0_4) ∧ w'.cell? ⟨gb101,5,none⟩ = some (.int .i64 a0_5)) ∧ (Kd.V (Kd.slice 3 (Kd.int .i64)) 26 w' w.heap.size (fun k_=>some k_ ≠ (s_.1 : Value).ownBlock ∧ some k_ ≠ (s_.2 : Value).ownBlock ∧ k_ ≠ gb101) (.slice Ao39 t104.length co39) t104) ∧ (Kd.R (Kd.int .i64) 3 w' w.heap.size (fun k_=>some k_ ≠ (s_.2 : Value).ownBlock) s_.1 t108) ∧ (Kd.R (Kd.int .i64) 3 w' w.heap.size (fun k_=>some k_ ≠ (s_.1 : Value).ownBlock) s_.2 y111) ∧ (w'.heap[gb101]? = some (.cells #[.int .i64 a0_0,.int .i64 a0_1,.int .i64 a0_2,.slice A0_3 l0_3.length c0_3,.slice A0_4 l0_4.length c0_4,.int .i64 a0_5] 25 (0,0))) ∧ (Below w.heap.size w w')) ?_ ?_
            rotate_left
            ·intro hCont
             refine two_ (i:=2) (j:=5) (Ni:=some 80) (Nj:=some 83) #[true,true,true,true,true,false,false,false,true] #[true,true,false,true,true,true,false,false,true] rfl rfl rfl rfl (two_of HT_.out (by kernel_rfl)) (by decide) (by decide) (fun K hK=>?_) (fun K hK=>?_)
             ·skip
              refine goes_ Try.func16 (by kernel_rfl) rfl #[.slice A0_3 l0_3.length c0_3] (by rfl) rfl rfl (by (try simp only [List.map_toArray,List.map_cons,List.map_nil]);first|done|rfl|(simp only [List.length_drop,List.length_take];rfl)) ?_
              with_reducible refine (slices_Concat_int_int_16.calls _ _ l0_3 t108 _ ?side1 ?side2 A35.out).mono ?_
              (case side1=>repeat (first|exact (Kd.C_below HR0_3.out HB.out)|(with_reducible refine Kd.C_alloc ?_ _)|(with_reducible refine Kd.C_drewN ?_ _)|(with_reducible refine Kd.C_drew ?_)))
              (case side2=>exact HC0_3.out)
              rintro e w41 ⟨v109,rfl,ho0,hb⟩
              refine ⟨_,rfl,?_⟩
              have n0_:=Aside0.mk (Kd.V_elder' (by (with_reducible repeat (first|apply Kd.V_alloc|apply Kd.V_drewN|apply Kd.V_drew));exact HO106.out) (Kd.R_base ho0) hb)
              have n1_:=Aside0.mk (Kd.R_lower ho0 (below_size (by repeat (first|(with_reducible first|exact HB.out|apply below_alloc|apply pw_below_drewN|apply below_drew1|refine below_set ?_ GE101.out)|exact HB.out))))
              have n2_:=Aside0.mk (blk_below (g:=gb101) (o:=.cells #[.int .i64 a0_0,.int .i64 a0_1,.int .i64 a0_2,.slice A0_3 l0_3.length c0_3,.slice A0_4 l0_4.length c0_4,.int .i64 a0_5] 25 (0,0)) (by (with_reducible repeat (first|refine blk_drewN ?_ _|refine blk_drew ?_|refine blk_alloc ?_ _));exact BK101.out) hb)
              have n3_:=Aside0.mk (below_step (by repeat (first|(with_reducible first|exact HB.out|apply below_alloc|apply pw_below_drewN|apply below_drew1|refine below_set ?_ GE101.out)|exact HB.out)) hb)
              clear HO106
              clear BK101
              clear HB
              have HO106:=n0_
              have HO110:=n1_
              have BK101:=n2_
              have HB:=n3_
              clear n0_ n1_ n2_ n3_
              (try clear hb)
              (try clear hb2)
              (try clear hk)
              (try clear hi)
              (try clear ho0)
              refine hK.out _ _ ⟨(blk_cell BK101.out 0).trans rfl,(blk_cell BK101.out 1).trans rfl,(blk_cell BK101.out 2).trans rfl,(blk_cell BK101.out 3).trans rfl,(blk_cell BK101.out 4).trans rfl,(blk_cell BK101.out 5).trans rfl⟩ (fun hHeld=>?_)
              clear hK K
              refine norm_ (a':=?_) ?_ ?_
              rotate_left
              ·show Act.put _ (some 80) _ = _
               simp only [Act.put,List.setIfInBounds_toArray,List.set_cons_zero,List.set_cons_succ,i64_w,i32_w]
               rfl
              refine one_ (i:=5) (N:=some 83) #[true,true,true,true,true,true,false,false,true] rfl rfl (one_of HT_.out (by kernel_rfl)) (by decide) (fun K hK=>?_)
              refine Kd.R_lit_step (Kd.int .i64) _ 3 ?hg (N:=83) ?hd (xs:=([a0_5] : List Int)) (inner:=[.int .i64 a0_5]) (ok:=fun _=>True) (okp:=fun _=>True) ?hr ?hp (fun _ hk=>hk) trivial (Below.refl _ _) (Nat.le_refl _) (by simp) ?_;(case hd=>rfl);(case hg=>rfl);(case hr=>first|(go_simp;done)|(go_simp;rfl));(case hp=>exact (Reps.one (show Kd.M (Kd.int .i64) _ _ _ a0_5 [.int .i64 a0_5] from rfl) (Reps.none _ _)))
              intro v112 w42 ho43 hb hg_ hnew_
              clear hg_ hnew_
              (first|rw [← Ny111.out] at ho43|(simp only [Int.reduceToNat] at ho43;rw [← Ny111.out] at ho43))
              have n0_:=Aside0.mk (Kd.V_elder' (by (with_reducible repeat (first|apply Kd.V_alloc|apply Kd.V_drewN|apply Kd.V_drew));exact HO106.out) (Kd.R_base ho43) hb)
              have n1_:=Aside0.mk (Kd.R_elder' (by (with_reducible repeat (first|apply Kd.R_alloc|apply Kd.R_drewN|apply Kd.R_drew));exact HO110.out) (Kd.R_base ho43) hb)
              have n2_:=Aside0.mk (Kd.R_lower (Kd.R_new' ho43 (Kd.R_lt (by (with_reducible repeat (first|apply Kd.R_alloc|apply Kd.R_drewN|apply Kd.R_drew));exact HO110.out))) (below_size (by repeat (first|(with_reducible first|exact HB.out|apply below_alloc|apply pw_below_drewN|apply below_drew1|refine below_set ?_ GE101.out)|exact HB.out))))
              have n3_:=Aside0.mk (blk_below (g:=gb101) (o:=.cells #[.int .i64 a0_0,.int .i64 a0_1,.int .i64 a0_2,.slice A0_3 l0_3.length c0_3,.slice A0_4 l0_4.length c0_4,.int .i64 a0_5] 25 (0,0)) (by (with_reducible repeat (first|refine blk_drewN ?_ _|refine blk_drew ?_|refine blk_alloc ?_ _));exact BK101.out) hb)
              have n4_:=Aside0.mk (below_step (by repeat (first|(with_reducible first|exact HB.out|apply below_alloc|apply pw_below_drewN|apply below_drew1|refine below_set ?_ GE101.out)|exact HB.out)) hb)
              clear HO106
              clear HO110
              clear BK101
              clear HB
              have HO106:=n0_
              have HO110:=n1_
              have HO113:=n2_
              have BK101:=n3_
              have HB:=n4_
              clear n0_ n1_ n2_ n3_ n4_
              clear hb ho43
              refine hK.out _ _ ⟨(blk_cell BK101.out 0).trans rfl,(blk_cell BK101.out 1).trans rfl,(blk_cell BK101.out 2).trans rfl,(blk_cell BK101.out 3).trans rfl,(blk_cell BK101.out 4).trans rfl,(blk_cell BK101.out 5).trans rfl⟩ (fun hHeld=>?_)
              clear hK K
              refine norm_ (a':=?_) ?_ ?_
              rotate_left
              ·show Act.put _ (some 83) _ = _
               simp only [Act.put,List.setIfInBounds_toArray,List.set_cons_zero,List.set_cons_succ,i64_w,i32_w]
               rfl
              exact norm_ (by simp only [putAll,Act.put,List.setIfInBounds_toArray,List.set_cons_zero,List.set_cons_succ]) (hCont (v109,v112) _ ⟨hHeld,(by (with_reducible repeat (first|apply Kd.V_alloc|apply Kd.V_drewN|apply Kd.V_drew));exact Kd.V_mono HO106.out (fun _ hk=>⟨hk.1.2,⟨hk.2,hk.1.1⟩⟩)),(by (with_reducible repeat (first|apply Kd.R_alloc|apply Kd.R_drewN|apply Kd.R_drew));exact Kd.R_mono HO110.out (fun _ hk=>hk.2)),(by (with_reducible repeat (first|apply Kd.R_alloc|apply Kd.R_drewN|apply Kd.R_drew));exact Kd.R_mono HO113.out (fun _ hk=>hk.2)),(by (with_reducible repeat (first|refine blk_drewN ?_ _|refine blk_drew ?_|refine blk_alloc ?_ _));exact BK101.out),(by repeat (first|(with_reducible first|exact HB.out|apply below_alloc|apply pw_below_drewN|apply below_drew1|refine below_set ?_ GE101.out)|exact HB.out))⟩)
             ·skip
              refine Kd.R_lit_step (Kd.int .i64) _ 3 ?hg (N:=83) ?hd (xs:=([a0_5] : List Int)) (inner:=[.int .i64 a0_5]) (ok:=fun _=>True) (okp:=fun _=>True) ?hr ?hp (fun _ hk=>hk) trivial (Below.refl _ _) (Nat.le_refl _) (by simp) ?_;(case hd=>rfl);(case hg=>rfl);(case hr=>first|(go_simp;done)|(go_simp;rfl));(case hp=>exact (Reps.one (show Kd.M (Kd.int .i64) _ _ _ a0_5 [.int .i64 a0_5] from rfl) (Reps.none _ _)))
              intro v112 w41 ho42 hb hg_ hnew_
              clear hg_ hnew_
              (first|rw [← Ny111.out] at ho42|(simp only [Int.reduceToNat] at ho42;rw [← Ny111.out] at ho42))
              have n0_:=Aside0.mk (Kd.V_elder' (by (with_reducible repeat (first|apply Kd.V_alloc|apply Kd.V_drewN|apply Kd.V_drew));exact HO106.out) (Kd.R_base ho42) hb)
              have n1_:=Aside0.mk (Kd.R_lower ho42 (below_size (by repeat (first|(with_reducible first|exact HB.out|apply below_alloc|apply pw_below_drewN|apply below_drew1|refine below_set ?_ GE101.out)|exact HB.out))))
              have n2_:=Aside0.mk (blk_below (g:=gb101) (o:=.cells #[.int .i64 a0_0,.int .i64 a0_1,.int .i64 a0_2,.slice A0_3 l0_3.length c0_3,.slice A0_4 l0_4.length c0_4,.int .i64 a0_5] 25 (0,0)) (by (with_reducible repeat (first|refine blk_drewN ?_ _|refine blk_drew ?_|refine blk_alloc ?_ _));exact BK101.out) hb)
              have n3_:=Aside0.mk (below_step (by repeat (first|(with_reducible first|exact HB.out|apply below_alloc|apply pw_below_drewN|apply below_drew1|refine below_set ?_ GE101.out)|exact HB.out)) hb)
              clear HO106
              clear BK101
              clear HB
              have HO106:=n0_
              have HO113:=n1_
              have BK101:=n2_
              have HB:=n3_
              clear n0_ n1_ n2_ n3_
              clear hb ho42
              refine hK.out _ _ ⟨(blk_cell BK101.out 0).trans rfl,(blk_cell BK101.out 1).trans rfl,(blk_cell BK101.out 2).trans rfl,(blk_cell BK101.out 3).trans rfl,(blk_cell BK101.out 4).trans rfl,(blk_cell BK101.out 5).trans rfl⟩ (fun hHeld=>?_)
              clear hK K
              refine norm_ (a':=?_) ?_ ?_
              rotate_left
              ·show Act.put _ (some 83) _ = _
               simp only [Act.put,List.setIfInBounds_toArray,List.set_cons_zero,List.set_cons_succ,i64_w,i32_w]
               rfl
              refine one_ (i:=2) (N:=some 80) #[true,true,true,true,true,true,false,false,true] rfl rfl (one_of HT_.out (by kernel_rfl)) (by decide) (fun K hK=>?_)
              refine goes_ Try.func16 (by kernel_rfl) rfl #[.slice A0_3 l0_3.length c0_3] (by rfl) rfl rfl (by (try simp only [List.map_toArray,List.map_cons,List.map_nil]);first|done|rfl|(simp only [List.length_drop,List.length_take];rfl)) ?_
              with_reducible refine (slices_Concat_int_int_16.calls _ _ l0_3 t108 _ ?side1 ?side2 A35.out).mono ?_
              (case side1=>repeat (first|exact (Kd.C_below HR0_3.out HB.out)|(with_reducible refine Kd.C_alloc ?_ _)|(with_reducible refine Kd.C_drewN ?_ _)|(with_reducible refine Kd.C_drew ?_)))
              (case side2=>exact HC0_3.out)
              rintro e w43 ⟨v109,rfl,ho0,hb⟩
              refine ⟨_,rfl,?_⟩
              have n0_:=Aside0.mk (Kd.V_elder' (by (with_reducible repeat (first|apply Kd.V_alloc|apply Kd.V_drewN|apply Kd.V_drew));exact HO106.out) (Kd.R_base ho0) hb)
              have n1_:=Aside0.mk (Kd.R_elder' (by (with_reducible repeat (first|apply Kd.R_alloc|apply Kd.R_drewN|apply Kd.R_drew));exact HO113.out) (Kd.R_base ho0) hb)
              have n2_:=Aside0.mk (Kd.R_lower (Kd.R_new' ho0 (Kd.R_lt (by (with_reducible repeat (first|apply Kd.R_alloc|apply Kd.R_drewN|apply Kd.R_drew));exact HO113.out))) (below_size (by repeat (first|(with_reducible first|exact HB.out|apply below_alloc|apply pw_below_drewN|apply below_drew1|refine below_set ?_ GE101.out)|exact HB.out))))
              have n3_:=Aside0.mk (blk_below (g:=gb101) (o:=.cells #[.int .i64 a0_0,.int .i64 a0_1,.int .i64 a0_2,.slice A0_3 l0_3.length c0_3,.slice A0_4 l0_4.length c0_4,.int .i64 a0_5] 25 (0,0)) (by (with_reducible repeat (first|refine blk_drewN ?_ _|refine blk_drew ?_|refine blk_alloc ?_ _));exact BK101.out) hb)
              have n4_:=Aside0.mk (below_step (by repeat (first|(with_reducible first|exact HB.out|apply below_alloc|apply pw_below_drewN|apply below_drew1|refine below_set ?_ GE101.out)|exact HB.out)) hb)
              clear HO106
              clear HO113
              clear BK101
              clear HB
              have HO106:=n0_
              have HO113:=n1_
              have HO110:=n2_
              have BK101:=n3_
              have HB:=n4_
              clear n0_ n1_ n2_ n3_ n4_
              (try clear hb)
              (try clear hb2)
              (try clear hk)
              (try clear hi)
              (try clear ho0)
              refine hK.out _ _ ⟨(blk_cell BK101.out 0).trans rfl,(blk_cell BK101.out 1).trans rfl,(blk_cell BK101.out 2).trans rfl,(blk_cell BK101.out 3).trans rfl,(blk_cell BK101.out 4).trans rfl,(blk_cell BK101.out 5).trans rfl⟩ (fun hHeld=>?_)
              clear hK K
              refine norm_ (a':=?_) ?_ ?_
              rotate_left
              ·show Act.put _ (some 80) _ = _
               simp only [Act.put,List.setIfInBounds_toArray,List.set_cons_zero,List.set_cons_succ,i64_w,i32_w]
               rfl
              exact norm_ (by simp only [putAll,Act.put,List.setIfInBounds_toArray,List.set_cons_zero,List.set_cons_succ]) (hCont (v109,v112) _ ⟨hHeld,(by (with_reducible repeat (first|apply Kd.V_alloc|apply Kd.V_drewN|apply Kd.V_drew));exact Kd.V_mono HO106.out (fun _ hk=>⟨hk.2,⟨hk.1.2,hk.1.1⟩⟩)),(by (with_reducible repeat (first|apply Kd.R_alloc|apply Kd.R_drewN|apply Kd.R_drew));exact Kd.R_mono HO110.out (fun _ hk=>hk.2)),(by (with_reducible repeat (first|apply Kd.R_alloc|apply Kd.R_drewN|apply Kd.R_drew));exact Kd.R_mono HO113.out (fun _ hk=>hk.2)),(by (with_reducible repeat (first|refine blk_drewN ?_ _|refine blk_drew ?_|refine blk_alloc ?_ _));exact BK101.out),(by repeat (first|(with_reducible first|exact HB.out|apply below_alloc|apply pw_below_drewN|apply below_drew1|refine below_set ?_ GE101.out)|exact HB.out))⟩)
            rintro ⟨v109,v112⟩ w44 ⟨hS_,h0_,h1_,h2_,h3_,h4_⟩
            have n0_ : Aside0 (Kd.V (Kd.slice 3 (Kd.int .i64)) 26 w44 w.heap.size (fun k_=>some k_ ≠ (v109 : Value).ownBlock ∧ some k_ ≠ (v112 : Value).ownBlock ∧ k_ ≠ gb101) (.slice Ao39 t104.length co39) t104):=⟨h0_⟩
            have n1_ : Aside0 (Kd.R (Kd.int .i64) 3 w44 w.heap.size (fun k_=>some k_ ≠ (v112 : Value).ownBlock) v109 t108):=⟨h1_⟩
            have n2_ : Aside0 (Kd.R (Kd.int .i64) 3 w44 w.heap.size (fun k_=>some k_ ≠ (v109 : Value).ownBlock) v112 y111):=⟨h2_⟩
            have n3_ : Aside0 (w44.heap[gb101]? = some (.cells #[.int .i64 a0_0,.int .i64 a0_1,.int .i64 a0_2,.slice A0_3 l0_3.length c0_3,.slice A0_4 l0_4.length c0_4,.int .i64 a0_5] 25 (0,0))):=⟨h3_⟩
            have n4_ : Aside0 (Below w.heap.size w w44):=⟨h4_⟩
            clear HO106
            clear BK101
            clear HB
            clear h0_ h1_ h2_ h3_ h4_
            have HO106:=n0_
            have HO110:=n1_
            have HO113:=n2_
            have BK101:=n3_
            have HB:=n4_
            clear n0_ n1_ n2_ n3_ n4_
            have hHeld : w44.cell? ⟨gb101,0,none⟩ = some (.int .i64 a0_0) ∧ w44.cell? ⟨gb101,1,none⟩ = some (.int .i64 a0_1) ∧ w44.cell? ⟨gb101,2,none⟩ = some (.int .i64 a0_2) ∧ w44.cell? ⟨gb101,3,none⟩ = some (.slice A0_3 l0_3.length c0_3) ∧ w44.cell? ⟨gb101,4,none⟩ = some (.slice A0_4 l0_4.length c0_4) ∧ w44.cell? ⟨gb101,5,none⟩ = some (.int .i64 a0_5):=hS_
            obtain ⟨Ao46,co46,eo46⟩:=Kd.R_slice HO113.out
            (first|subst eo46|(injection eo46 with f1_ f2_ f3_;have f4_:=f1_.symm;have f5_:=f3_.symm;clear f1_ f2_ f3_;subst f4_;subst f5_))
            refine norm_ (a':=?_) ?_ ?_
            rotate_left
            ·simp only [putAll,Act.put,List.setIfInBounds_toArray,List.set_cons_zero,List.set_cons_succ]
             rfl
            refine one_ (i:=6) (N:=some 84) #[true,true,true,true,true,true,true,false,true] rfl rfl (one_of HT_.out (by kernel_rfl)) (by decide) (fun K hK=>?_)
            refine Kd.R_append_rows_step (Kd.int .i64) (w0:=w) w.heap.size (by rfl) (.tmp 80) (.tmp 83) 26 3 (.int .i64 0) 8 rfl Try.underlying26 info3 rfl (by decide) (by omega) v109 t108 y111 _ _ _ (fun k_=>some k_ ≠ (.slice Ao46 y111.length co46 : Value).ownBlock) (fun _=>False) rfl rfl ?aO ?aR (fun _ _ h=>h) (fun _ h=>h.elim) ?aF ?aB ?aS ?aL ?_
            (case aR=>repeat (first|exact (Kd.R_reads' HO113.out).2.2|(with_reducible refine Kd.C_alloc ?_ _)|(with_reducible refine Kd.C_drewN ?_ _)|(with_reducible refine Kd.C_drew ?_)))
            (case aB=>exact (by repeat (first|(with_reducible first|exact HB.out|apply below_alloc|apply pw_below_drewN|apply below_drew1|refine below_set ?_ GE101.out)|exact HB.out)))
            (case aF=>exact (fun k_ hk=>Kd.fresh' (Kd.R_lt (by (with_reducible repeat (first|apply Kd.R_alloc|apply Kd.R_drewN|apply Kd.R_drew));exact HO113.out)) k_ hk))
            (case aO=>exact (by (with_reducible repeat (first|apply Kd.R_alloc|apply Kd.R_drewN|apply Kd.R_drew));exact HO110.out))
            (case aS=>exact (below_size (by repeat (first|(with_reducible first|exact HB.out|apply below_alloc|apply pw_below_drewN|apply below_drew1|refine below_set ?_ GE101.out)|exact HB.out))))
            (case aL=>have:=LMc36.out;omega)
            intro v115 w45 ho hb hg hat
            rw [← Ny114.out] at ho
            have n0_:=Aside0.mk (blk_grown (g:=gb101) (o:=.cells #[.int .i64 a0_0,.int .i64 a0_1,.int .i64 a0_2,.slice A0_3 l0_3.length c0_3,.slice A0_4 l0_4.length c0_4,.int .i64 a0_5] 25 (0,0)) (by (with_reducible repeat (first|refine blk_drewN ?_ _|refine blk_drew ?_|refine blk_alloc ?_ _));exact BK101.out) hg (Kd.R_ne HO110.out BK101.out (by decide)))
            have n1_:=Aside0.mk (Kd.V_afterv (ok:=(fun k_=>some k_ ≠ (.slice Ao46 y111.length co46 : Value).ownBlock ∧ k_ ≠ gb101)) (by (with_reducible repeat (first|apply Kd.V_alloc|apply Kd.V_drewN|apply Kd.V_drew));exact Kd.V_mono HO106.out (fun _ hk=>⟨⟨hk.2.1,hk.2.2⟩,hk.1⟩)) hg hat)
            have n2_:=Aside0.mk (Kd.R_after (ok:=(fun _=>True)) (by (with_reducible repeat (first|apply Kd.R_alloc|apply Kd.R_drewN|apply Kd.R_drew));exact Kd.R_mono HO113.out (fun _ hk=>⟨trivial,hk⟩)) hg hat)
            have n3_:=Aside0.mk (hb)
            have n4_:=Aside0.mk (ho)
            clear BK101
            clear HO106
            clear HO113
            clear HB
            clear HO110
            have BK101:=n0_
            have HO106:=n1_
            have HO113:=n2_
            have HB:=n3_
            have HO116:=n4_
            clear n0_ n1_ n2_ n3_ n4_
            clear ho hb hg hat
            obtain ⟨Ao47,co47,eo47⟩:=Kd.R_slice HO116.out
            (first|subst eo47|(injection eo47 with f1_ f2_ f3_;have f4_:=f1_.symm;have f5_:=f3_.symm;clear f1_ f2_ f3_;subst f4_;subst f5_))
            refine hK.out _ _ ⟨(blk_cell BK101.out 0).trans rfl,(blk_cell BK101.out 1).trans rfl,(blk_cell BK101.out 2).trans rfl,(blk_cell BK101.out 3).trans rfl,(blk_cell BK101.out 4).trans rfl,(blk_cell BK101.out 5).trans rfl⟩ (fun hHeld=>?_)
            clear hK K
            refine norm_ (a':=?_) ?_ ?_
            rotate_left
            ·show Act.put _ (some 84) _ = _
             simp only [Act.put,List.setIfInBounds_toArray,List.set_cons_zero,List.set_cons_succ,i64_w,i32_w]
             rfl
            refine pure_ (i:=7) (N:=some 85) (v:=?_) (a':=?_) #[true,true,true,true,true,true,true,true,true] rfl rfl (any_of HT_.out (by kernel_rfl)) (fun _ _ _ h=>h) (Or.inl ⟨by rfl,?_⟩) ?_ ?_
            rotate_left
            ·intro w'
             go_simp
             with_reducible rfl
            rotate_left
            ·simp only [Act.put,List.setIfInBounds_toArray,List.set_cons_zero,List.set_cons_succ,i64_w,i32_w]
             rfl
            refine done_ (done_of HT_.out (by kernel_rfl)) ?_
            try go_wp2
            go_loopg [86] k3 (fun kq v86 w'=>∃ (x86_4 : Int),v86 = .int .i64 x86_4 ∧ Aside0 (turner_Check.l1 kq t104 y114 (y114.length : Int) x86_4 a0_0 a0_1 a0_2 l0_3 l0_4 a0_5 = some r) ∧ Aside0 (kq ≤ k3) ∧ Aside0 (Kd.V (Kd.slice 3 (Kd.int .i64)) 26 w' w.heap.size (fun k_=>some k_ ≠ ((.slice Ao47 y114.length co47) : Value).ownBlock ∧ k_ ≠ gb101) (.slice Ao39 t104.length co39) t104) ∧ Aside0 (Kd.R (Kd.int .i64) 3 w' w.heap.size (fun _=>True) (.slice Ao47 y114.length co47) y114) ∧ Aside0 (w'.heap[gb101]? = some (.cells #[.int .i64 a0_0,.int .i64 a0_1,.int .i64 a0_2,(.slice A0_3 l0_3.length c0_3),(.slice A0_4 l0_4.length c0_4),.int .i64 a0_5] 25 (0,0))) ∧ Aside0 (Below w.heap.size w w'))
            case atStart=>exact ⟨(0),(by first|rfl|(simp;done)|(simp [*];done)),H',⟨Nat.le_refl _⟩,⟨by (with_reducible repeat (first|apply Kd.V_alloc|apply Kd.V_drewN|apply Kd.V_drew));exact Kd.V_mono HO106.out (fun _ hk=>⟨hk.2,hk.1.2⟩)⟩,⟨by (with_reducible repeat (first|apply Kd.R_alloc|apply Kd.R_drewN|apply Kd.R_drew));exact Kd.R_mono HO116.out (fun _ hk=>trivial)⟩,⟨by (with_reducible repeat (first|refine blk_drewN ?_ _|refine blk_drew ?_|refine blk_alloc ?_ _));exact BK101.out⟩,⟨by repeat (first|(with_reducible first|exact HB.out|apply below_alloc|apply pw_below_drewN|apply below_drew1|refine below_set ?_ GE101.out)|exact HB.out)⟩⟩
            case round =>
             clear H'
             try clear c1
             try clear p1
             try clear q1
             try clear hx1
             try clear c2
             try clear p2
             try clear c3
             try clear c10
             try clear p10
             try clear q10
             try clear hx10
             try clear c13
             try clear c14
             try clear c16
             try clear c20
             try clear c20b0
             try clear c21
             try clear c22
             try clear c23
             try clear c23b0
             try clear c23b1
             try clear c24
             try clear c31
             try clear c36
             try clear hcz32_0
             try clear hcz32_1
             try clear hcz32_2
             try clear hcz32_3
             try clear hcz32_4
             try clear hcz32_5
             try clear hcz37_0
             try clear hcz37_1
             try clear hcz37_2
             try clear hcz37_3
             try clear hcz37_4
             try clear hcz37_5
             try clear hfz32_0
             try clear hfz32_1
             try clear hfz32_2
             try clear hfz32_3
             try clear hfz32_4
             try clear hfz32_5
             try clear hfz37_0
             try clear hfz37_1
             try clear hfz37_2
             try clear hfz37_3
             try clear hfz37_4
             try clear hfz37_5
             try clear hx102_0
             try clear p102
             try clear q102
             obtain ⟨x86_4,rfl,HA,HK4,HO_4,HO_84,BK101,HB⟩:=hrel
             cases gk with
             | zero=>exact absurd HA.out (by simp [turner_Check.l1])
             | succ k4 =>
              have H:=HA.out
              clear HA
              simp only [turner_Check.l1] at H
              by_cases c48 : x86_4 < (y114.length : Int)
              ·rw [if_pos c48] at H
               have c48b0 : decide (x86_4 < (y114.length : Int)) = true:=decide_eq_true c48
               clear c48
               by_cases c49 : 0 ≤ x86_4
               ·rw [if_pos c49] at H
                have c49b0 : decide (0 ≤ x86_4) = true:=decide_eq_true c49
                clear c49
                by_cases c50 : x86_4 < (y114.length : Int)
                ·rw [if_pos c50] at H
                 have c50b0 : decide (x86_4 < (y114.length : Int)) = true:=decide_eq_true c50
                 clear c50
                 by_cases c51 : (rd y114 x86_4) < 0
                 ·rw [if_pos c51] at H
                  have c51b0 : decide ((rd y114 x86_4) < 0) = true:=decide_eq_true c51
                  clear c51
                  obtain rfl:=Option.some.inj H
                  have p117 : 0 ≤ (x86_4 : Int):=of_decide_eq_true (by first|(with_reducible assumption)|assumption)
                  have q117 : x86_4 < (y114.length : Int):=of_decide_eq_true (by first|(with_reducible assumption)|assumption)
                  obtain ⟨ad117,e117,hx117_0⟩:=Kd.at_int (Kd.R_reads' HO_84.out).2.2 x86_4 p117 q117
                  cases e117
                  replace p117:=eq_true p117
                  replace q117:=eq_true q117
                  go_wp2
                  go_ret
                  exact ⟨by first|rfl|(simp [errW_none,errW_some] <;> rfl)|(simp [*,errW_none,errW_some] <;> rfl),by repeat (first|(with_reducible first|exact HB.out|apply below_alloc|apply pw_below_drewN|apply below_drew1|refine below_set ?_ GE101.out)|exact HB.out)⟩
                 ·rw [if_neg c51] at H
                  have c51b0 : decide ((rd y114 x86_4) < 0) = false:=decide_eq_false c51
                  clear c51
                  by_cases c52 : (rd y114 x86_4) ≥ a0_0
                  ·rw [if_pos c52] at H
                   have c52b0 : decide (a0_0 ≤ (rd y114 x86_4)) = true:=decide_eq_true c52
                   clear c52
                   obtain rfl:=Option.some.inj H
                   have p117 : 0 ≤ (x86_4 : Int):=of_decide_eq_true (by first|(with_reducible assumption)|assumption)
                   have q117 : x86_4 < (y114.length : Int):=of_decide_eq_true (by first|(with_reducible assumption)|assumption)
                   obtain ⟨ad117,e117,hx117_0⟩:=Kd.at_int (Kd.R_reads' HO_84.out).2.2 x86_4 p117 q117
                   cases e117
                   replace p117:=eq_true p117
                   replace q117:=eq_true q117
                   have hcz53_0 : wr.cell? ⟨gb101,0,none⟩ = some (.int .i64 a0_0):=(blk_cell BK101.out 0).trans rfl
                   have hcz53_1 : wr.cell? ⟨gb101,1,none⟩ = some (.int .i64 a0_1):=(blk_cell BK101.out 1).trans rfl
                   have hcz53_2 : wr.cell? ⟨gb101,2,none⟩ = some (.int .i64 a0_2):=(blk_cell BK101.out 2).trans rfl
                   have hcz53_3 : wr.cell? ⟨gb101,3,none⟩ = some (.slice A0_3 l0_3.length c0_3):=(blk_cell BK101.out 3).trans rfl
                   have hcz53_4 : wr.cell? ⟨gb101,4,none⟩ = some (.slice A0_4 l0_4.length c0_4):=(blk_cell BK101.out 4).trans rfl
                   have hcz53_5 : wr.cell? ⟨gb101,5,none⟩ = some (.int .i64 a0_5):=(blk_cell BK101.out 5).trans rfl
                   have hfz53_0:=blk_frozen BK101.out 0
                   have hfz53_1:=blk_frozen BK101.out 1
                   have hfz53_2:=blk_frozen BK101.out 2
                   have hfz53_3:=blk_frozen BK101.out 3
                   have hfz53_4:=blk_frozen BK101.out 4
                   have hfz53_5:=blk_frozen BK101.out 5
                   go_wp2
                   go_ret
                   exact ⟨by first|rfl|(simp [errW_none,errW_some] <;> rfl)|(simp [*,errW_none,errW_some] <;> rfl),by repeat (first|(with_reducible first|exact HB.out|apply below_alloc|apply pw_below_drewN|apply below_drew1|refine below_set ?_ GE101.out)|exact HB.out)⟩
                  ·rw [if_neg c52] at H
                   have c52b0 : decide (a0_0 ≤ (rd y114 x86_4)) = false:=decide_eq_false c52
                   clear c52
                   have H':=Aside0.mk H
                   clear H
                   have p117 : 0 ≤ (x86_4 : Int):=of_decide_eq_true (by first|(with_reducible assumption)|assumption)
                   have q117 : x86_4 < (y114.length : Int):=of_decide_eq_true (by first|(with_reducible assumption)|assumption)
                   obtain ⟨ad117,e117,hx117_0⟩:=Kd.at_int (Kd.R_reads' HO_84.out).2.2 x86_4 p117 q117
                   cases e117
                   replace p117:=eq_true p117
                   replace q117:=eq_true q117
                   have hcz54_0 : wr.cell? ⟨gb101,0,none⟩ = some (.int .i64 a0_0):=(blk_cell BK101.out 0).trans rfl
                   have hcz54_1 : wr.cell? ⟨gb101,1,none⟩ = some (.int .i64 a0_1):=(blk_cell BK101.out 1).trans rfl
                   have hcz54_2 : wr.cell? ⟨gb101,2,none⟩ = some (.int .i64 a0_2):=(blk_cell BK101.out 2).trans rfl
                   have hcz54_3 : wr.cell? ⟨gb101,3,none⟩ = some (.slice A0_3 l0_3.length c0_3):=(blk_cell BK101.out 3).trans rfl
                   have hcz54_4 : wr.cell? ⟨gb101,4,none⟩ = some (.slice A0_4 l0_4.length c0_4):=(blk_cell BK101.out 4).trans rfl
                   have hcz54_5 : wr.cell? ⟨gb101,5,none⟩ = some (.int .i64 a0_5):=(blk_cell BK101.out 5).trans rfl
                   have hfz54_0:=blk_frozen BK101.out 0
                   have hfz54_1:=blk_frozen BK101.out 1
                   have hfz54_2:=blk_frozen BK101.out 2
                   have hfz54_3:=blk_frozen BK101.out 3
                   have hfz54_4:=blk_frozen BK101.out 4
                   have hfz54_5:=blk_frozen BK101.out 5
                   go_wp2
                   go_roundg k4
                   case measure=>have:=HJ1.out;have:=HJ13.out;have:=HK3.out;have:=HK4.out;omega
                   case rel=>exact ⟨(wrap64 (x86_4 + 1)),(by first|rfl|(simp;done)|(simp [*];done)),H',⟨by have:=HJ1.out;have:=HJ13.out;have:=HK3.out;have:=HK4.out;omega⟩,⟨by (with_reducible repeat (first|apply Kd.V_alloc|apply Kd.V_drewN|apply Kd.V_drew));exact HO_4.out⟩,⟨by (with_reducible repeat (first|apply Kd.R_alloc|apply Kd.R_drewN|apply Kd.R_drew));exact HO_84.out⟩,⟨by (with_reducible repeat (first|refine blk_drewN ?_ _|refine blk_drew ?_|refine blk_alloc ?_ _));exact BK101.out⟩,⟨by repeat (first|(with_reducible first|exact HB.out|apply below_alloc|apply pw_below_drewN|apply below_drew1|refine below_set ?_ GE101.out)|exact HB.out)⟩⟩
                ·rw [if_neg c50] at H
                 exact absurd H (by simp)
               ·rw [if_neg c49] at H
                exact absurd H (by simp)
              ·rw [if_neg c48] at H
               have c48b0 : decide (x86_4 < (y114.length : Int)) = false:=decide_eq_false c48
               clear c48
               replace H:=Option.bind_eq_some_iff.mp H
               obtain ⟨t118,A550,H⟩:=H
               replace H : (turner_Check.l2 k4 t118 (t118.length : Int) 0 a0_0 a0_1 a0_2 l0_3 l0_4 a0_5) = some r:=H
               have A55:=Aside0.mk A550
               clear A550
               have H':=Aside0.mk H
               clear H
               go_wp2_with (first|((with_reducible refine gate_callee (f:=16) rfl ?_);refine goesL_ (some 100) rfl rfl Try.func16 (by kernel_rfl) rfl #[.slice Ao39 t104.length co39] rfl (by (try simp only [List.map_toArray,List.map_cons,List.map_nil]);first|done|rfl|(simp only [List.length_drop,List.length_take];rfl)) ?_;(with_reducible refine (slices_Concat_int_int_16.calls _ _ t104 t118 _ ?side1 ?side2 A55.out).mono ?_);(case side1=>repeat (first|exact (Kd.V_reads' HO_4.out).2.2|(with_reducible refine Kd.C_alloc ?_ _)|(with_reducible refine Kd.C_drewN ?_ _)|(with_reducible refine Kd.C_drew ?_)));(case side2=>exact (Kd.V_reads' HO_4.out).2.1);rintro e w56 ⟨v119,rfl,ho0,hb⟩;refine ⟨_,rfl,?_⟩;have n0_:=Aside0.mk (Kd.V_elder' (by (with_reducible repeat (first|apply Kd.V_alloc|apply Kd.V_drewN|apply Kd.V_drew));exact HO_4.out) (Kd.R_base ho0) hb);have n1_:=Aside0.mk (Kd.R_elder' (by (with_reducible repeat (first|apply Kd.R_alloc|apply Kd.R_drewN|apply Kd.R_drew));exact HO_84.out) (Kd.R_base ho0) hb);have n2_:=Aside0.mk (Kd.R_lower (Kd.R_new' ho0 (Kd.R_lt (by (with_reducible repeat (first|apply Kd.R_alloc|apply Kd.R_drewN|apply Kd.R_drew));exact HO_84.out))) (below_size (by repeat (first|(with_reducible first|exact HB.out|apply below_alloc|apply pw_below_drewN|apply below_drew1|refine below_set ?_ GE101.out)|exact HB.out))));have n3_:=Aside0.mk (blk_below (g:=gb101) (o:=.cells #[.int .i64 a0_0,.int .i64 a0_1,.int .i64 a0_2,.slice A0_3 l0_3.length c0_3,.slice A0_4 l0_4.length c0_4,.int .i64 a0_5] 25 (0,0)) (by (with_reducible repeat (first|refine blk_drewN ?_ _|refine blk_drew ?_|refine blk_alloc ?_ _));exact BK101.out) hb);have n4_:=Aside0.mk (below_step (by repeat (first|(with_reducible first|exact HB.out|apply below_alloc|apply pw_below_drewN|apply below_drew1|refine below_set ?_ GE101.out)|exact HB.out)) hb);clear HO_4;clear HO_84;clear BK101;clear HB;have HO_4:=n0_;have HO_84:=n1_;have HO120:=n2_;have BK101:=n3_;have HB:=n4_;clear n0_ n1_ n2_ n3_ n4_;(try clear hb);(try clear hb2);(try clear hk);(try clear hi);(try clear ho0);obtain ⟨Ao57,co57,eo57⟩:=Kd.R_slice HO120.out;subst eo57))
               go_loopg [102] k4 (fun kq v102 w'=>∃ (x102_5 : Int),v102 = .int .i64 x102_5 ∧ Aside0 (turner_Check.l2 kq t118 (t118.length : Int) x102_5 a0_0 a0_1 a0_2 l0_3 l0_4 a0_5 = some r) ∧ Aside0 (kq ≤ k4) ∧ Aside0 (Kd.R (Kd.int .i64) 3 w' w.heap.size (fun _=>True) (.slice Ao57 t118.length co57) t118) ∧ Aside0 (w'.heap[gb101]? = some (.cells #[.int .i64 a0_0,.int .i64 a0_1,.int .i64 a0_2,(.slice A0_3 l0_3.length c0_3),(.slice A0_4 l0_4.length c0_4),.int .i64 a0_5] 25 (0,0))) ∧ Aside0 (Below w.heap.size w w'))
               case atStart=>exact ⟨(0),(by first|rfl|(simp;done)|(simp [*];done)),H',⟨Nat.le_refl _⟩,⟨by (with_reducible repeat (first|apply Kd.R_alloc|apply Kd.R_drewN|apply Kd.R_drew));exact Kd.R_mono HO120.out (fun _ hk=>trivial)⟩,⟨by (with_reducible repeat (first|refine blk_drewN ?_ _|refine blk_drew ?_|refine blk_alloc ?_ _));exact BK101.out⟩,⟨by repeat (first|(with_reducible first|exact HB.out|apply below_alloc|apply pw_below_drewN|apply below_drew1|refine below_set ?_ GE101.out)|exact HB.out)⟩⟩
               case round =>
                clear H'
                try clear c1
                try clear p1
                try clear q1
                try clear hx1
                try clear c2
                try clear p2
                try clear c3
                try clear c4
                try clear c5
                try clear p6
                try clear c10
                try clear p10
                try clear q10
                try clear hx10
                try clear p11
                try clear q11
                try clear hx11
                try clear c13
                try clear c14
                try clear c16
                try clear c20
                try clear c20b0
                try clear c21
                try clear c22
                try clear c23
                try clear c23b0
                try clear c23b1
                try clear c24
                try clear c31
                try clear c36
                try clear c48
                try clear c48b0
                try clear c49
                try clear c49b0
                try clear c50
                try clear c50b0
                try clear c51
                try clear c51b0
                try clear c52
                try clear c52b0
                try clear hcz32_0
                try clear hcz32_1
                try clear hcz32_2
                try clear hcz32_3
                try clear hcz32_4
                try clear hcz32_5
                try clear hcz37_0
                try clear hcz37_1
                try clear hcz37_2
                try clear hcz37_3
                try clear hcz37_4
                try clear hcz37_5
                try clear hcz53_0
                try clear hcz53_1
                try clear hcz53_2
                try clear hcz53_3
                try clear hcz53_4
                try clear hcz53_5
                try clear hcz54_0
                try clear hcz54_1
                try clear hcz54_2
                try clear hcz54_3
                try clear hcz54_4
                try clear hcz54_5
                try clear hfz32_0
                try clear hfz32_1
                try clear hfz32_2
                try clear hfz32_3
                try clear hfz32_4
                try clear hfz32_5
                try clear hfz37_0
                try clear hfz37_1
                try clear hfz37_2
                try clear hfz37_3
                try clear hfz37_4
                try clear hfz37_5
                try clear hfz53_0
                try clear hfz53_1
                try clear hfz53_2
                try clear hfz53_3
                try clear hfz53_4
                try clear hfz53_5
                try clear hfz54_0
                try clear hfz54_1
                try clear hfz54_2
                try clear hfz54_3
                try clear hfz54_4
                try clear hfz54_5
                try clear hx102_0
                try clear hx117_0
                try clear p1
                try clear p10
                try clear p102
                try clear p117
                try clear p2
                try clear q1
                try clear q10
                try clear q102
                try clear q117
                obtain ⟨x102_5,rfl,HA,HK5,HO_100,BK101,HB⟩:=hrel
                cases gk with
                | zero=>exact absurd HA.out (by simp [turner_Check.l2])
                | succ k5 =>
                 have H:=HA.out
                 clear HA
                 simp only [turner_Check.l2] at H
                 by_cases c58 : x102_5 < (t118.length : Int)
                 ·rw [if_pos c58] at H
                  have c58b0 : decide (x102_5 < (t118.length : Int)) = true:=decide_eq_true c58
                  clear c58
                  by_cases c59 : 0 ≤ x102_5
                  ·rw [if_pos c59] at H
                   have c59b0 : decide (0 ≤ x102_5) = true:=decide_eq_true c59
                   clear c59
                   by_cases c60 : x102_5 < (t118.length : Int)
                   ·rw [if_pos c60] at H
                    have c60b0 : decide (x102_5 < (t118.length : Int)) = true:=decide_eq_true c60
                    clear c60
                    by_cases c61 : (rd t118 x102_5) < 0
                    ·rw [if_pos c61] at H
                     have c61b0 : decide ((rd t118 x102_5) < 0) = true:=decide_eq_true c61
                     clear c61
                     obtain rfl:=Option.some.inj H
                     have p121 : 0 ≤ (x102_5 : Int):=of_decide_eq_true (by first|(with_reducible assumption)|assumption)
                     have q121 : x102_5 < (t118.length : Int):=of_decide_eq_true (by first|(with_reducible assumption)|assumption)
                     obtain ⟨ad121,e121,hx121_0⟩:=Kd.at_int (Kd.R_reads' HO_100.out).2.2 x102_5 p121 q121
                     cases e121
                     replace p121:=eq_true p121
                     replace q121:=eq_true q121
                     go_wp2
                     go_ret
                     exact ⟨by first|rfl|(simp [errW_none,errW_some] <;> rfl)|(simp [*,errW_none,errW_some] <;> rfl),by repeat (first|(with_reducible first|exact HB.out|apply below_alloc|apply pw_below_drewN|apply below_drew1|refine below_set ?_ GE101.out)|exact HB.out)⟩
                    ·rw [if_neg c61] at H
                     have c61b0 : decide ((rd t118 x102_5) < 0) = false:=decide_eq_false c61
                     clear c61
                     by_cases c62 : (rd t118 x102_5) ≥ a0_2
                     ·rw [if_pos c62] at H
                      have c62b0 : decide (a0_2 ≤ (rd t118 x102_5)) = true:=decide_eq_true c62
                      clear c62
                      obtain rfl:=Option.some.inj H
                      have p121 : 0 ≤ (x102_5 : Int):=of_decide_eq_true (by first|(with_reducible assumption)|assumption)
                      have q121 : x102_5 < (t118.length : Int):=of_decide_eq_true (by first|(with_reducible assumption)|assumption)
                      obtain ⟨ad121,e121,hx121_0⟩:=Kd.at_int (Kd.R_reads' HO_100.out).2.2 x102_5 p121 q121
                      cases e121
                      replace p121:=eq_true p121
                      replace q121:=eq_true q121
                      have hcz63_0 : wr.cell? ⟨gb101,0,none⟩ = some (.int .i64 a0_0):=(blk_cell BK101.out 0).trans rfl
                      have hcz63_1 : wr.cell? ⟨gb101,1,none⟩ = some (.int .i64 a0_1):=(blk_cell BK101.out 1).trans rfl
                      have hcz63_2 : wr.cell? ⟨gb101,2,none⟩ = some (.int .i64 a0_2):=(blk_cell BK101.out 2).trans rfl
                      have hcz63_3 : wr.cell? ⟨gb101,3,none⟩ = some (.slice A0_3 l0_3.length c0_3):=(blk_cell BK101.out 3).trans rfl
                      have hcz63_4 : wr.cell? ⟨gb101,4,none⟩ = some (.slice A0_4 l0_4.length c0_4):=(blk_cell BK101.out 4).trans rfl
                      have hcz63_5 : wr.cell? ⟨gb101,5,none⟩ = some (.int .i64 a0_5):=(blk_cell BK101.out 5).trans rfl
                      have hfz63_0:=blk_frozen BK101.out 0
                      have hfz63_1:=blk_frozen BK101.out 1
                      have hfz63_2:=blk_frozen BK101.out 2
                      have hfz63_3:=blk_frozen BK101.out 3
                      have hfz63_4:=blk_frozen BK101.out 4
                      have hfz63_5:=blk_frozen BK101.out 5
                      go_wp2
                      go_ret
                      exact ⟨by first|rfl|(simp [errW_none,errW_some] <;> rfl)|(simp [*,errW_none,errW_some] <;> rfl),by repeat (first|(with_reducible first|exact HB.out|apply below_alloc|apply pw_below_drewN|apply below_drew1|refine below_set ?_ GE101.out)|exact HB.out)⟩
                     ·rw [if_neg c62] at H
                      have c62b0 : decide (a0_2 ≤ (rd t118 x102_5)) = false:=decide_eq_false c62
                      clear c62
                      have H':=Aside0.mk H
                      clear H
                      have p121 : 0 ≤ (x102_5 : Int):=of_decide_eq_true (by first|(with_reducible assumption)|assumption)
                      have q121 : x102_5 < (t118.length : Int):=of_decide_eq_true (by first|(with_reducible assumption)|assumption)
                      obtain ⟨ad121,e121,hx121_0⟩:=Kd.at_int (Kd.R_reads' HO_100.out).2.2 x102_5 p121 q121
                      cases e121
                      replace p121:=eq_true p121
                      replace q121:=eq_true q121
                      have hcz64_0 : wr.cell? ⟨gb101,0,none⟩ = some (.int .i64 a0_0):=(blk_cell BK101.out 0).trans rfl
                      have hcz64_1 : wr.cell? ⟨gb101,1,none⟩ = some (.int .i64 a0_1):=(blk_cell BK101.out 1).trans rfl
                      have hcz64_2 : wr.cell? ⟨gb101,2,none⟩ = some (.int .i64 a0_2):=(blk_cell BK101.out 2).trans rfl
                      have hcz64_3 : wr.cell? ⟨gb101,3,none⟩ = some (.slice A0_3 l0_3.length c0_3):=(blk_cell BK101.out 3).trans rfl
                      have hcz64_4 : wr.cell? ⟨gb101,4,none⟩ = some (.slice A0_4 l0_4.length c0_4):=(blk_cell BK101.out 4).trans rfl
                      have hcz64_5 : wr.cell? ⟨gb101,5,none⟩ = some (.int .i64 a0_5):=(blk_cell BK101.out 5).trans rfl
                      have hfz64_0:=blk_frozen BK101.out 0
                      have hfz64_1:=blk_frozen BK101.out 1
                      have hfz64_2:=blk_frozen BK101.out 2
                      have hfz64_3:=blk_frozen BK101.out 3
                      have hfz64_4:=blk_frozen BK101.out 4
                      have hfz64_5:=blk_frozen BK101.out 5
                      go_wp2
                      go_roundg k5
                      case measure=>have:=HJ1.out;have:=HJ13.out;have:=HK3.out;have:=HK4.out;have:=HK5.out;omega
                      case rel=>exact ⟨(wrap64 (x102_5 + 1)),(by first|rfl|(simp;done)|(simp [*];done)),H',⟨by have:=HJ1.out;have:=HJ13.out;have:=HK3.out;have:=HK4.out;have:=HK5.out;omega⟩,⟨by (with_reducible repeat (first|apply Kd.R_alloc|apply Kd.R_drewN|apply Kd.R_drew));exact HO_100.out⟩,⟨by (with_reducible repeat (first|refine blk_drewN ?_ _|refine blk_drew ?_|refine blk_alloc ?_ _));exact BK101.out⟩,⟨by repeat (first|(with_reducible first|exact HB.out|apply below_alloc|apply pw_below_drewN|apply below_drew1|refine below_set ?_ GE101.out)|exact HB.out)⟩⟩
                   ·rw [if_neg c60] at H
                    exact absurd H (by simp)
                  ·rw [if_neg c59] at H
                   exact absurd H (by simp)
                 ·rw [if_neg c58] at H
                  have c58b0 : decide (x102_5 < (t118.length : Int)) = false:=decide_eq_false c58
                  clear c58
                  obtain rfl:=Option.some.inj H
                  go_wp2
                  go_ret
                  exact ⟨by first|rfl|(simp [errW_none,errW_some] <;> rfl)|(simp [*,errW_none,errW_some] <;> rfl),by repeat (first|(with_reducible first|exact HB.out|apply below_alloc|apply pw_below_drewN|apply below_drew1|refine below_set ?_ GE101.out)|exact HB.out)⟩
           ·rw [if_neg c36] at H
            exact absurd H (by simp)
end Go.Proofs.Ytlkeemcapemkiaa.GA
