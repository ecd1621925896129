-- Written by ext.py, a program of this session.
import Derived.Test.YtiiankjmeodjdaaGV0
namespace Go.Proofs.Ytiiankjmeodjdaa.GV
open Go.RowKit Go.Proofs.YtiiankjmeodjdaaW.PrintWords Go.Proofs.YtiiankjmeodjdaaW.PrintLast Go.Proofs.YtiiankjmeodjdaaW.PrintMore
attribute [local go_sem] max2_int min2_int max_two min_two max_three min_three max_four min_four cellIs_set   -- for this text's walks alone
set_option linter.unusedVariables false
set_option linter.unusedSimpArgs false
/-! ### coppicerref_WordCheck: function 20 -/
def coppicerref_WordCheck.l0 : Nat → Int → List Int → Int → Int → Option (Int)
 | 0,_,_,_,_=>none
 | k + 1,x0,x10,x11,x12=>if x12 < x11 then (if 0 ≤ x12 then (if x12 < (x10.length : Int) then (if (rd x10 x12) < 0 then (some 2) else (if (rd x10 x12) ≥ x0 then (some 2) else (coppicerref_WordCheck.l0 k x0 x10 x11 (wrap64 (x12 + 1))))) else (none)) else (none)) else (some 0)
def coppicerref_WordCheck.f (k : Nat) (a0 : Int) (l1 : List Int) : Option (Int):=if (l1.length : Int) > 12 then (some 1) else (coppicerref_WordCheck.l0 k a0 l1 (l1.length : Int) 0)
theorem coppicerref_WordCheck.mono_l : ∀ k,(∀ y0 y1 y2 y3,LeO (coppicerref_WordCheck.l0 k y0 y1 y2 y3) (coppicerref_WordCheck.l0 (k + 1) y0 y1 y2 y3))
 | 0=>fun _ _ _ _ r h=>by simp [coppicerref_WordCheck.l0] at h
 | k + 1=>by
  have ih0:=coppicerref_WordCheck.mono_l k
  ·intro y0 y1 y2 y3
   unfold coppicerref_WordCheck.l0
   repeat' first
   | (with_reducible exact ih0 _ _ _ _)
   | (with_reducible exact LeO.refl _)
   | (with_reducible exact LeO.none _)
   | (with_reducible refine LeO.ite ?_ ?_)
   | (with_reducible refine LeO.bind ?_ (fun _=>?_))
   | exact ih0 _ _ _ _
   | exact LeO.none _
   | refine LeO.ite ?_ ?_
   | refine LeO.bind ?_ (fun _=>?_)
theorem coppicerref_WordCheck.mono : ∀ a0 a1 k,LeO (coppicerref_WordCheck.f k a0 a1) (coppicerref_WordCheck.f (k + 1) a0 a1):=by
 intro a0 a1 k
 have ih0:=coppicerref_WordCheck.mono_l k
 unfold coppicerref_WordCheck.f
 repeat' first
   | (with_reducible exact ih0 _ _ _ _)
   | (with_reducible exact LeO.refl _)
   | (with_reducible exact LeO.none _)
   | (with_reducible refine LeO.ite ?_ ?_)
   | (with_reducible refine LeO.bind ?_ (fun _=>?_))
   | exact ih0 _ _ _ _
   | exact LeO.none _
   | refine LeO.ite ?_ ?_
   | refine LeO.bind ?_ (fun _=>?_)
set_option maxHeartbeats 8000000 in
set_option maxRecDepth 100000 in
theorem coppicerref_WordCheck.calls (k : Nat) (a0 : Int) (A1 : Option Addr) (c1 : Nat) (l1 : List Int) (r : Int) (w : World) (hr1 : Kd.C (Kd.int .i64) w A1 l1.length l1) (hc1 : l1.length ≤ c1) (h : coppicerref_WordCheck.f k a0 l1 = some r) :
  Calls Try.prog 20 #[.int .i64 a0,.slice A1 l1.length c1] w fun e w'=>e = .returned (.int .i64 r) ∧ Drawn0 w w':=by
 have HR1:=Aside0.mk hr1
 have HC1:=Aside0.mk hc1
 clear hr1 hc1
 have H : (if (l1.length : Int) > 12 then (some 1) else (coppicerref_WordCheck.l0 k a0 l1 (l1.length : Int) 0)) = some r:=h
 clear h
 by_cases c3 : (l1.length : Int) > 12
 ·rw [if_pos c3] at H
  have c3b0 : decide (12 < (l1.length : Int)) = true:=decide_eq_true c3
  have c3b1 : decide (12 < l1.length) = true:=decide_eq_true (by omega)
  clear c3
  obtain rfl:=Option.some.inj H
  go_enter Try.func20,Try.ntmps20
  go_wp2
  go_ret
  exact ⟨by first|rfl|(simp;done)|(simp [*];done),by repeat (first|exact Drawn0.refl _|apply Drawn0.step)⟩
 ·rw [if_neg c3] at H
  have c3b0 : decide (12 < (l1.length : Int)) = false:=decide_eq_false c3
  have c3b1 : decide (12 < l1.length) = false:=decide_eq_false (by omega)
  clear c3
  have H':=Aside0.mk H
  clear H
  go_enter Try.func20,Try.ntmps20
  go_wp2
  go_loopg [12] k (fun kq v12 w'=>∃ (x12_1 : Int),v12 = .int .i64 x12_1 ∧ Aside0 (coppicerref_WordCheck.l0 kq a0 l1 (l1.length : Int) x12_1 = some r) ∧ Aside0 (kq ≤ k) ∧ Drawn0 w w')
  case atStart=>exact ⟨(0),(by first|rfl|(simp;done)|(simp [*];done)),H',⟨Nat.le_refl _⟩,by repeat (first|exact Drawn0.refl _|apply Drawn0.step)⟩
  case round =>
   clear H'
   try clear c1
   try clear c2
   try clear p2
   try clear c3
   try clear c3b0
   try clear c3b1
   obtain ⟨x12_1,rfl,HA,HK1,⟨m1,rfl⟩⟩:=hrel
   cases gk with
   | zero=>exact absurd HA.out (by simp [coppicerref_WordCheck.l0])
   | succ k1 =>
    have H:=HA.out
    clear HA
    simp only [coppicerref_WordCheck.l0] at H
    by_cases c4 : x12_1 < (l1.length : Int)
    ·rw [if_pos c4] at H
     have c4b0 : decide (x12_1 < (l1.length : Int)) = true:=decide_eq_true c4
     clear c4
     by_cases c5 : 0 ≤ x12_1
     ·rw [if_pos c5] at H
      have c5b0 : decide (0 ≤ x12_1) = true:=decide_eq_true c5
      clear c5
      by_cases c6 : x12_1 < (l1.length : Int)
      ·rw [if_pos c6] at H
       have c6b0 : decide (x12_1 < (l1.length : Int)) = true:=decide_eq_true c6
       clear c6
       by_cases c7 : (rd l1 x12_1) < 0
       ·rw [if_pos c7] at H
        have c7b0 : decide ((rd l1 x12_1) < 0) = true:=decide_eq_true c7
        clear c7
        obtain rfl:=Option.some.inj H
        have p119 : 0 ≤ (x12_1 : Int):=of_decide_eq_true (by first|(with_reducible assumption)|assumption)
        have q119 : x12_1 < (l1.length : Int):=of_decide_eq_true (by first|(with_reducible assumption)|assumption)
        obtain ⟨ad119,e119,hx119_0⟩:=Kd.at_int HR1.out x12_1 p119 q119
        cases e119
        replace p119:=eq_true p119
        replace q119:=eq_true q119
        go_wp2
        go_ret
        exact ⟨by first|rfl|(simp;done)|(simp [*];done),by repeat (first|exact Drawn0.refl _|apply Drawn0.step)⟩
       ·rw [if_neg c7] at H
        have c7b0 : decide ((rd l1 x12_1) < 0) = false:=decide_eq_false c7
        clear c7
        by_cases c8 : (rd l1 x12_1) ≥ a0
        ·rw [if_pos c8] at H
         have c8b0 : decide (a0 ≤ (rd l1 x12_1)) = true:=decide_eq_true c8
         clear c8
         obtain rfl:=Option.some.inj H
         have p119 : 0 ≤ (x12_1 : Int):=of_decide_eq_true (by first|(with_reducible assumption)|assumption)
         have q119 : x12_1 < (l1.length : Int):=of_decide_eq_true (by first|(with_reducible assumption)|assumption)
         obtain ⟨ad119,e119,hx119_0⟩:=Kd.at_int HR1.out x12_1 p119 q119
         cases e119
         replace p119:=eq_true p119
         replace q119:=eq_true q119
         go_wp2
         go_ret
         exact ⟨by first|rfl|(simp;done)|(simp [*];done),by repeat (first|exact Drawn0.refl _|apply Drawn0.step)⟩
        ·rw [if_neg c8] at H
         have c8b0 : decide (a0 ≤ (rd l1 x12_1)) = false:=decide_eq_false c8
         clear c8
         have H':=Aside0.mk H
         clear H
         have p119 : 0 ≤ (x12_1 : Int):=of_decide_eq_true (by first|(with_reducible assumption)|assumption)
         have q119 : x12_1 < (l1.length : Int):=of_decide_eq_true (by first|(with_reducible assumption)|assumption)
         obtain ⟨ad119,e119,hx119_0⟩:=Kd.at_int HR1.out x12_1 p119 q119
         cases e119
         replace p119:=eq_true p119
         replace q119:=eq_true q119
         go_wp2
         go_roundg k1
         case measure=>have:=HK1.out;omega
         case rel=>exact ⟨(wrap64 (x12_1 + 1)),(by first|rfl|(simp;done)|(simp [*];done)),H',⟨by have:=HK1.out;omega⟩,by repeat (first|exact Drawn0.refl _|apply Drawn0.step)⟩
      ·rw [if_neg c6] at H
       exact absurd H (by simp)
     ·rw [if_neg c5] at H
      exact absurd H (by simp)
    ·rw [if_neg c4] at H
     have c4b0 : decide (x12_1 < (l1.length : Int)) = false:=decide_eq_false c4
     clear c4
     obtain rfl:=Option.some.inj H
     go_wp2
     go_ret
     exact ⟨by first|rfl|(simp;done)|(simp [*];done),by repeat (first|exact Drawn0.refl _|apply Drawn0.step)⟩
-- NOT PRINTED: function 75 (slices_Grow_int_int_75)
/-! ### slices_Concat_int_int_66: function 66 -/
def slices_Concat_int_int_66.f (l0 : List (List (List Int))) : Option (List (List Int)):=if l0.length < 1000000 ∧ l0.flatten.length < 1000000000 then some l0.flatten else none
/-- A row that lies in a world that was. -/
def slices_Concat_int_int_66.sh (w0 : World) (P : Nat → Prop) : Kd (List Int) where
 sz:=1
 E:=[]
 K:=fun _ xs cs=>∃ A c,cs = [.slice A xs.length c] ∧ xs.length ≤ c ∧ Kd.F (Kd.int .i64) w0 P A xs.length xs
 M:=fun _ _ _ xs cs=>∃ A c,cs = [.slice A xs.length c] ∧ xs.length ≤ c ∧ Kd.F (Kd.int .i64) w0 P A xs.length xs
 K_len:=by
  rintro w x cs ⟨A,c,rfl,_⟩
  rfl
 K_one:=by
  rintro w x cs ⟨A,c,rfl,_⟩ u hu
  rw [List.mem_singleton.1 hu]
  rfl
 K_below:=fun _ h=>h
 K_of_M:=fun h=>h
 M_mono:=fun _ h=>h
 M_bound:=fun h=>h
 M_move:=fun _ h=>h
 M_lower:=fun _ h=>h
theorem slices_Concat_int_int_66.fin {w wr : World} {P : Nat → Prop} {v : Value} {F : List (List Int)} (h : Kd.R (slices_Concat_int_int_66.sh w P) 28 wr w.heap.size (fun _=>True) v F) (hb : Below w.heap.size w wr) : Kd.V (Kd.slice 3 (Kd.int .i64)) 28 wr w.heap.size (fun k_=>(P k_ ∨ w.heap.size ≤ k_)) v F:=by
 obtain ⟨A9,c9,rfl,hl9,hr9⟩:=Kd.R_reads h
 refine Kd.V_mk hl9 (fun W' hW'=>?_)
 have h1:=Kd.N_F (Kd.R_N (Kd.R_bound h)) W' (fun k hk hlt=>hW' k (Or.inr hk.2.1) hlt)
 exact ReadsRow.imp_ h1 (Below.refl _ _) (fun xs cs he=>by
  obtain ⟨A,c,e,hl,hF⟩:=he
  exact ⟨A,c,e,hl,hF W' (fun k hk hlt=>(hW' k (Or.inl hk) (Nat.lt_of_lt_of_le hlt hb.size)).trans (hb.block k hlt))⟩)
theorem slices_Concat_int_int_66.info : (Try.prog.info? 28).map (fun i=>(i.zero,i.size,i.bytes)) = some (some (.slice none 0 0),1,24):=by kernel_rfl
set_option maxHeartbeats 1000000 in
theorem slices_Concat_int_int_66.grow (w0 : World) (P : Nat → Prop) (n : Nat) (w : World) (hn : n * 24 ≤ 140737488355328) :
  Calls Try.prog 75 #[.slice none 0 0,.int .i64 n] w fun e w'=>∃ v : Value,e = .returned v ∧ Kd.R (slices_Concat_int_int_66.sh w0 P) 28 w' w.heap.size (fun _=>True) v [] ∧ Below w.heap.size w w':=by
 have HB:=Aside0.mk (Below.refl w.heap.size w)
 have e0 : ((n : Int) < 0) = False:=eq_false (by omega)
 rcases Nat.eq_zero_or_pos n with rfl|hp
 ·go_enter Try.func75,Try.ntmps75
  go_wp2
  go_ret
  exact ⟨_,rfl,Kd.R_nil _ _ _ _ _,by repeat (first|exact HB.out|apply below_alloc|apply pw_below_drewN)⟩
 ·have e1 : ((n : Int) > 0) = True:=eq_true (by omega)
  have e2 : IntKind.i64.wrap ((n : Int) - IntKind.i64.wrap (0 - 0)) = (n : Int):=by rw [i64_w,i64_w];unfold wrap64;omega
  have e3 : ((n : Int) - 0) = (n : Int):=Int.sub_zero _
  have e4 : IntKind.i64.wrap (n : Int) = (n : Int):=by rw [i64_w];unfold wrap64;omega
  go_enter Try.func75,Try.ntmps75
  go_wp2_with ((with_reducible refine gate_builtin (b:=.append) (xs:=#[.tmp 20,.tmp 21]) rfl ?_);at_builtin;go_loud (refine Kd.R_append_zeros (slices_Concat_int_int_66.sh w0 P) (w0:=w) w.heap.size rfl (.tmp 20) (.tmp 21) 35 3 28 (.slice none 0 0) 24 rfl Try.underlying35 Try.underlying3 slices_Concat_int_int_66.info rfl Nat.zero_lt_one (by omega) _ [] ([]) (n : Int) (fun _=>True) rfl rfl ?zz (fun _ _=>trivial) (Kd.R_nil _ _ _ _ _) (by omega) ?zB ?zS (by simp;omega) ?_);(case zz=>exact ⟨none,0,rfl,Nat.le_refl _,Kd.F_nil _ _ _⟩);(case zB=>repeat (first|exact HB.out|apply below_alloc|apply pw_below_drewN));(case zS=>exact (below_size (by repeat (first|exact HB.out|apply below_alloc|apply pw_below_drewN))));intro v1 w1 h1 hb hg hat;obtain ⟨A1,d1,rfl,hd1,hr1⟩:=Kd.R_reads h1;have H1:=Aside0.mk h1;have HB1:=Aside0.mk hb;obtain ⟨ad1,rfl,_⟩:=hr1.2.2 (by simp;omega);clear h1 hb hg hat hr1)
  go_ret
  exact ⟨_,rfl,by have:=Kd.R_take (m:=0) H1.out (by simp);simpa using this,by repeat (first|exact HB1.out|apply below_alloc|apply pw_below_drewN)⟩
set_option maxHeartbeats 8000000 in
set_option maxRecDepth 100000 in
theorem slices_Concat_int_int_66.calls (P0_ : Nat → Prop) (A0 : Option Addr) (c0 : Nat) (l0 : List (List (List Int))) (r : List (List Int)) (w : World) (hs0 : Kd.V (Kd.slice 28 (Kd.slice 3 (Kd.int .i64))) 35 w w.heap.size (fun k_=>P0_ k_) (.slice A0 l0.length c0) l0) (h : slices_Concat_int_int_66.f l0 = some r) :
  Calls Try.prog 66 #[.slice A0 l0.length c0] w fun e w'=>∃ v0_ : Value,e = .returned (v0_) ∧ Kd.V (Kd.slice 3 (Kd.int .i64)) 28 w' w.heap.size (fun k_=>(P0_ k_ ∨ w.heap.size ≤ k_)) v0_ r ∧ Below w.heap.size w w':=by
 unfold slices_Concat_int_int_66.f at h
 by_cases c : l0.length < 1000000 ∧ l0.flatten.length < 1000000000
 ·rw [if_pos c] at h
  obtain rfl:=Option.some.inj h
  obtain ⟨cA,cB⟩:=c
  clear h
  have HB:=Aside0.mk (Below.refl w.heap.size w)
  have hcell : ∀ kk : Nat,kk < l0.length → ∃ ad A' c',A0 = some ad ∧ w.cell? (ad.add kk) = some (.slice A' (l0.getD kk []).length c') ∧ ReadsRow (fun x c=>Kd.FK (Kd.slice 3 (Kd.int .i64)) w (fun k_=>P0_ k_) x c) 1 w A' (l0.getD kk []).length (l0.getD kk []):=fun kk hkk=>by
   obtain ⟨ad,cs,e,_,hFK,hcl⟩:=ReadsRow.get_ (Kd.F_rows (Kd.V_F hs0)) [] (kk : Int) (by omega) (by omega)
   obtain ⟨A',c',rfl,_,hF⟩:=Kd.FK_slice_open hFK
   have h2:=hcl 0 _ rfl
   rw [show (Kd.slice 28 (Kd.slice 3 (Kd.int .i64))).sz = 1 from rfl,Nat.mul_one,Nat.add_zero,Int.toNat_natCast] at h2
   exact ⟨ad,A',c',e,h2,Kd.F_rows hF⟩
  clear hs0
  obtain ⟨T,hT⟩ : ∃ T : Nat → List (List Int),∀ kk,T kk = (l0.take kk).flatten:=⟨_,fun _=>rfl⟩
  obtain ⟨E,hE⟩ : ∃ E : Nat → List (List Int),∀ kk,E kk = l0.getD kk []:=⟨_,fun _=>rfl⟩
  obtain ⟨S,hS⟩ : ∃ S : Nat → Nat,∀ kk,S kk = (T kk).length:=⟨_,fun _=>rfl⟩
  have hT0 : Aside0 (T 0 = []):=⟨by rw [hT];rfl⟩
  have hTl : Aside0 (T l0.length = l0.flatten):=⟨by rw [hT,List.take_length]⟩
  have hTs : Aside0 (∀ kk,kk < l0.length → T (kk + 1) = T kk ++ E kk):=⟨fun kk hkk=>by
   rw [hT,hT,hE,List.take_succ_eq_append_getElem hkk,List.flatten_append,List.flatten_singleton,List.getD_eq_getElem?_getD,List.getElem?_eq_getElem hkk,Option.getD_some]⟩
  have hSb : Aside0 (∀ kk,S kk < 1000000000):=⟨fun kk=>by
   have:=congrArg List.length (congrArg List.flatten (List.take_append_drop kk l0))
   rw [List.flatten_append,List.length_append] at this
   rw [hS,hT]
   omega⟩
  have hSl : Aside0 (∀ kk,S kk = (T kk).length):=⟨hS⟩
  simp only [← hE] at hcell
  have HC0:=Aside0.mk hcell
  generalize l0.flatten = F at *
  generalize l0.length = n at *
  clear hcell hT hE hS cB
  have hS0 : S 0 = 0:=by rw [hSl.out,hT0.out];rfl
  go_enter Try.func66,Try.ntmps66
  go_wp2
  go_loopg [3,5,11] n (fun gg s3 _ s11 wr=>∃ kk q : Nat,kk ≤ n ∧ n - kk ≤ gg ∧ s3 = .int .i64 (S kk : Nat) ∧ s11 = .int .i64 kk ∧ wr = w.drewN q)
  case atStart=>exact ⟨0,0,Nat.zero_le _,by omega,by rw [hS0];rfl,rfl,rfl⟩
  case round =>
   clear hS0
   obtain ⟨kk,q,hkk,hg,rfl,rfl,rfl⟩:=hrel
   by_cases hlt : kk < n
   ·have hltz : (kk : Int) < (n : Int):=by omega
    obtain ⟨ad,A',c',rfl,hc,_⟩:=HC0.out kk hlt
    have h3:=congrArg List.length (hTs.out kk hlt)
    rw [List.length_append,← hSl.out,← hSl.out] at h3
    have h4:=hSb.out (kk + 1)
    have h5 : ((S kk : Int) + ((E kk).length : Int)) = ((S (kk + 1) : Nat) : Int):=by omega
    have h6 : ¬ ((S (kk + 1) : Nat) : Int) < 0:=by omega
    have h7 : ((S (kk + 1) : Nat) : Int) ≤ 1000000000:=by omega
    obtain ⟨b,off,lab⟩:=ad
    clear h3 h4
    generalize hS1 : S (kk + 1) = S1 at *
    have HS1:=Aside0.mk hS1
    clear hS1
    generalize S kk = S0 at *
    generalize (E kk).length = S2 at *
    go_wp2
    go_roundg (n - (kk + 1))
    case measure=>omega
    case rel=>exact ⟨kk + 1,_,by omega,by omega,by rw [HS1.out],by go_num,rfl⟩
   ·have hltz : ¬ (kk : Int) < (n : Int):=by omega
    obtain rfl : kk = n:=by omega
    have h4:=hSb.out kk
    have hG:=fun q=>slices_Concat_int_int_66.grow w (fun k_=>P0_ k_) (S kk) (w.drewN q) (by omega)
    go_wp2_with (go_at_call 75;refine (hG _).mono ?_;rintro e w5 ⟨v,rfl,hR,hb⟩;have HO:=Aside0.mk (Kd.R_lower hR (below_size (pw_below_drewN HB.out _)));have HB5:=Aside0.mk ((pw_below_drewN HB.out _).trans (hb.mono (below_size (pw_below_drewN HB.out _))));clear hR hb)
    clear hG h4
    go_loopg [6,8,27] kk (fun gg s6 _ s27 wr=>∃ k2 : Nat,k2 ≤ kk ∧ kk - k2 ≤ gg ∧ s27 = .int .i64 k2 ∧ Aside0 (Kd.R (slices_Concat_int_int_66.sh w (fun k_=>P0_ k_)) 28 wr w.heap.size (fun _=>True) s6 (T k2)) ∧ Aside0 (Below w.heap.size w wr))
    case atStart=>exact ⟨0,Nat.zero_le _,by omega,rfl,⟨by rw [hT0.out];exact HO.out⟩,⟨HB5.out⟩⟩
    case round =>
     clear HO HB5
     obtain ⟨k2,hkk,hg,rfl,HO,HBr⟩:=hrel
     by_cases hlt : k2 < kk
     ·have hltz : (k2 : Int) < (kk : Int):=by omega
      obtain ⟨ad,A',c',rfl,hc0,hC⟩:=HC0.out k2 hlt
      have hc:=pw_cell_below (HBr.out) hc0
      clear hc0
      have HC':=Aside0.mk hC
      have HS:=Aside0.mk (hTs.out k2 hlt)
      have HL:=Aside0.mk (by have h1:=hSb.out (k2 + 1);rw [hSl.out,hTs.out k2 hlt,List.length_append] at h1;exact h1 : (T k2).length + (E k2).length < 1000000000)
      obtain ⟨b,off,lab⟩:=ad
      clear hC
      generalize E k2 = Y2 at *
      go_wp2_with ((with_reducible refine gate_builtin (b:=.append) (xs:=#[.tmp 31,.tmp 32]) rfl ?_);at_builtin;refine Kd.R_append_rows (slices_Concat_int_int_66.sh w (fun k_=>P0_ k_)) (Rr:=fun x c=>Kd.FK (Kd.slice 3 (Kd.int .i64)) w (fun k_=>P0_ k_) x c) (w0:=w) w.heap.size rfl (.tmp 31) (.tmp 32) 35 28 (.slice none 0 0) 24 rfl Try.underlying35 slices_Concat_int_int_66.info rfl Nat.zero_lt_one (by omega) u6 (T k2) Y2 _ _ _ (fun _=>True) (fun _=>False) rfl rfl ?aO ?aR (fun _ _ h=>Kd.FK_slice_open h) (fun _ h=>h.elim) ?aF ?aB ?aS ?aL ?_;(case aR=>exact (ReadsRow.imp_ HC'.out (by repeat (first|(with_reducible first|exact HBr.out|apply below_alloc|apply pw_below_drewN|apply below_drew1)|exact HBr.out)) (fun _ _ h=>h)));(case aB=>exact (by repeat (first|(with_reducible first|exact HBr.out|apply below_alloc|apply pw_below_drewN|apply below_drew1)|exact HBr.out)));(case aF=>exact (fun _ _=>trivial));(case aO=>exact (by (with_reducible repeat (first|apply Kd.R_alloc|apply Kd.R_drewN|apply Kd.R_drew));exact HO.out));(case aS=>exact (below_size (by repeat (first|(with_reducible first|exact HBr.out|apply below_alloc|apply pw_below_drewN|apply below_drew1)|exact HBr.out))));(case aL=>have:=HL.out;omega);intro v2 w7 ho hb hg7 hat;have HO7:=Aside0.mk ho;have HB7:=Aside0.mk hb;clear ho hb hg7 hat)
      go_roundg (kk - (k2 + 1))
      case measure=>omega
      case rel=>exact ⟨k2 + 1,by omega,by omega,by go_num,⟨by rw [HS.out];exact HO7.out⟩,⟨HB7.out⟩⟩
     ·have hltz : ¬ (k2 : Int) < (kk : Int):=by omega
      obtain rfl : k2 = kk:=by omega
      have HF:=Aside0.mk (by have:=HO.out;rw [hTl.out] at this;exact this : Kd.R (slices_Concat_int_int_66.sh w (fun k_=>P0_ k_)) 28 wr w.heap.size (fun _=>True) u6 F)
      go_wp2
      go_ret
      exact ⟨_,rfl,slices_Concat_int_int_66.fin HF.out HBr.out,HBr.out⟩
 ·rw [if_neg c] at h
  exact absurd h (by simp)
end Go.Proofs.Ytiiankjmeodjdaa.GV
