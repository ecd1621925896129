-- Written by ext.py, a program of this session.
import Derived.Test.YthgiiikjcfhgjaaGV0
import Derived.Test.YthgiiikjcfhgjaaGV3
namespace Go.Proofs.Ythgiiikjcfhgjaa.GV
open Go.RowKit Go.Proofs.YthgiiikjcfhgjaaW.PrintWords Go.Proofs.YthgiiikjcfhgjaaW.PrintLast Go.Proofs.YthgiiikjcfhgjaaW.PrintMore
attribute [local go_sem] max2_int min2_int max_two min_two max_three min_three max_four min_four cellIs_set   -- for this text's walks alone
set_option linter.unusedVariables false
set_option linter.unusedSimpArgs false
/-! ### least_Apart: function 33 -/
def least_Apart.line (xs : List (List Int)) (i : Int) : List Int:=xs.getD i.toNat []
def least_Apart.find (l : List (Int × Int × List Int)) (i j : Int) : Option (List Int):=(l.find? fun x=>x.1 == i && x.2.1 == j).map fun x=>x.2.2
def least_Apart.inner (K : Int) (an bn : List (List Int)) (i j : Int) : Nat → Int → List (Int × Int × List Int) → Option (List (Int × Int × List Int))
 | 0,_,_=>none
 | q + 1,s,kn=>if s < K then
   (if 0 ≤ i ∧ i < (an.length : Int) ∧ 0 ≤ j ∧ j < (bn.length : Int) ∧ 0 ≤ s ∧ s < ((least_Apart.line an i).length : Int) ∧ s < ((least_Apart.line bn j).length : Int) ∧ kn.length < 1000 ∧ 0 ≤ rd (least_Apart.line an i) s ∧ rd (least_Apart.line an i) s < 1000 ∧ 0 ≤ rd (least_Apart.line bn j) s ∧ rd (least_Apart.line bn j) s < 1000 then
    (match least_Apart.find kn (rd (least_Apart.line an i) s) (rd (least_Apart.line bn j) s) with
    | some _=>least_Apart.inner K an bn i j q (s + 1) kn
    | none=>(match least_Apart.find kn i j with
     | some w=>if w.length < 1000 then least_Apart.inner K an bn i j q (s + 1) (kn ++ [(rd (least_Apart.line an i) s,rd (least_Apart.line bn j) s,w ++ [s])]) else none
     | none=>none))
   else none)
  else some kn
def least_Apart.bfs (K : Int) (an bn : List (List Int)) (aF bF : Int) : Nat → Nat → List (Int × Int × List Int) → Option (List Int × Int)
 | 0,_,_=>none
 | q + 1,n,kn=>match kn[n]? with
  | none=>some ([],5)
  | some x=>if 0 ≤ x.1 ∧ x.1 < 1000 ∧ 0 ≤ x.2.1 ∧ x.2.1 < 1000 then
    (if Go.bits .and .u32 (shr .u32 aF x.1) 1 = Go.bits .and .u32 (shr .u32 bF x.2.1) 1 then (least_Apart.inner K an bn x.1 x.2.1 q 0 kn).bind fun kn'=>least_Apart.bfs K an bn aF bF q (n + 1) kn'
    else (least_Apart.find kn x.1 x.2.1).bind fun w=>some (w,0))
   else none
def least_Apart.f (k : Nat) (a0_0 a0_1 : Int) (l0_2 : List (List Int)) (a0_3 a0_4 a1_0 a1_1 : Int) (l1_2 : List (List Int)) (a1_3 a1_4 : Int) : Option (List Int × Int) :=
 (least_wrong.f k a0_0 a0_1 l0_2 a0_3 a0_4 a1_0 a1_1 l1_2 a1_3 a1_4).bind fun e=>if e = 0 then (if 0 ≤ a0_3 ∧ a0_3 < 1000 ∧ 0 ≤ a1_3 ∧ a1_3 < 1000 then least_Apart.bfs a0_1 l0_2 l1_2 a0_4 a1_4 k 0 [(a0_3,a1_3,[])] else none) else some ([],e)
theorem least_Apart.inner_mono (K : Int) (an bn : List (List Int)) (i j : Int) : ∀ q s kn,LeO (least_Apart.inner K an bn i j q s kn) (least_Apart.inner K an bn i j (q + 1) s kn):=by
 intro q
 induction q with
 | zero=>intro s kn r h;rw [least_Apart.inner] at h;cases h
 | succ q ih =>
  intro s kn
  rw [least_Apart.inner,least_Apart.inner]
  split
  ·split
   ·split
    ·exact ih _ _
    ·split
     ·split
      ·exact ih _ _
      ·exact LeO.refl _
     ·exact LeO.refl _
   ·exact LeO.refl _
  ·exact LeO.refl _
theorem least_Apart.bfs_mono (K : Int) (an bn : List (List Int)) (aF bF : Int) : ∀ q n kn,LeO (least_Apart.bfs K an bn aF bF q n kn) (least_Apart.bfs K an bn aF bF (q + 1) n kn):=by
 intro q
 induction q with
 | zero=>intro n kn r h;rw [least_Apart.bfs] at h;cases h
 | succ q ih =>
  intro n kn
  rw [least_Apart.bfs,least_Apart.bfs]
  split
  ·exact LeO.refl _
  ·split
   ·split
    ·exact LeO.bind (least_Apart.inner_mono _ _ _ _ _ _ _ _) (fun _=>ih _ _)
    ·exact LeO.refl _
   ·exact LeO.refl _
theorem least_Apart.mono : ∀ a0 a1 a2 a3 a4 b0 b1 b2 b3 b4 k,LeO (least_Apart.f k a0 a1 a2 a3 a4 b0 b1 b2 b3 b4) (least_Apart.f (k + 1) a0 a1 a2 a3 a4 b0 b1 b2 b3 b4):=by
 intro a0 a1 a2 a3 a4 b0 b1 b2 b3 b4 k
 unfold least_Apart.f
 refine LeO.bind (least_wrong.mono _ _ _ _ _ _ _ _ _ _ _) (fun e=>?_)
 split
 ·split
  ·exact least_Apart.bfs_mono _ _ _ _ _ _ _ _
  ·exact LeO.refl _
 ·exact LeO.refl _
set_option maxRecDepth 100000 in
theorem least_Apart.at_line {w : World} {A : Option Addr} {n : Nat} {xs : List (List Int)} (h : Kd.C (Kd.slice 3 (Kd.int .i64)) w A n xs) (i : Int) (h0 : 0 ≤ i) (h1 : i < n) : ∃ ad A0 c0,A = some ad ∧ w.cell? (ad.add i.toNat) = some (.slice A0 (least_Apart.line xs i).length c0) ∧ (least_Apart.line xs i).length ≤ c0 ∧ (Kd.int .i64).C w A0 (least_Apart.line xs i).length (least_Apart.line xs i):=by
 obtain ⟨ad,c,e,_,hK,hc0⟩:=Kd.C_get h ([] : List Int) i h0 h1
 have hc : ∀ j u,c[j]? = some u → w.cell? (ad.add (i.toNat * 1 + j)) = some u:=hc0
 obtain ⟨A0,c0,rfl,l0,g0⟩:=hK
 exact ⟨ad,A0,c0,e,by have hq:=hc 0 _ rfl;rwa [Nat.mul_one,Nat.add_zero] at hq,l0,g0⟩
set_option maxRecDepth 100000 in
theorem least_Apart.laidOut : laidOutB Try.prog = true:=by kernel_rfl
set_option maxRecDepth 100000 in
theorem least_Apart.row : (131 : TypeId) < Try.prog.types.size:=of_decide_eq_true (by kernel_rfl)
set_option maxRecDepth 100000 in
theorem least_Apart.wide : (match Try.prog.underlying 131 with|some (.array _ _)|some (.struct _)=>true|_=>false) = true:=by rw [Try.underlying131]
set_option maxRecDepth 100000 in
theorem least_Apart.kt : Try.prog.keyTypeAt 2 131 = true:=by kernel_rfl
set_option maxRecDepth 100000 in
theorem least_Apart.law : Go.Maps.Keyed Try.prog 131:=Go.Maps.Keyed.of_law (deep_law_laid least_Apart.laidOut (m:=2) (by omega) least_Apart.row least_Apart.kt least_Apart.wide)
set_option maxRecDepth 100000 in
theorem least_Apart.und : Try.prog.underlying 132 = some (.map 131 23):=by kernel_rfl
set_option maxRecDepth 100000 in
theorem least_Apart.size : Try.prog.types.size = (Try.prog.types.size - 2) + 1 + 1:=by
 have : (131 : Nat) < Try.prog.types.size:=least_Apart.row
 omega
def least_Apart.kl (a b : Int) : Lit:=.string (keyBytes [.int .i64 a,.int .i64 b])
set_option maxRecDepth 100000 in
theorem least_Apart.wf {a : Int} (h0 : 0 ≤ a) (h1 : a < 1000) : (Lit.int .i64 a).wf = true:=by simp [Lit.wf,IntKind.min,IntKind.max,IntKind.signed,IntKind.bits];omega
set_option maxRecDepth 100000 in
theorem least_Apart.key {a b : Int} (ha : (Lit.int .i64 a).wf = true) (hb : (Lit.int .i64 b).wf = true) : keyOf Try.prog 131 (.agg #[.int .i64 a,.int .i64 b]) = some (least_Apart.kl a b):=by
 have h1 : Try.prog.cellsOf 131 = 2:=by kernel_rfl
 have h2 : Try.prog.keyType 131 = true:=by kernel_rfl
 have h3 : Try.prog.cellsOf 3 = 1:=by kernel_rfl
 unfold keyOf
 simp only [Try.underlying131]
 rw [if_pos (by simp [h2,Value.formed,Try.underlying131,h1])]
 unfold Program.keyLits
 simp only [Try.underlying131,Value.cells]
 rw [if_pos (by rw [h1];exact ⟨rfl,by kernel_rfl⟩),least_Apart.size]
 simp only [List.mapM_cons,List.mapM_nil,h3,Program.keyLits,Try.underlying3,List.drop,List.take]
 simp [ha,hb,least_Apart.kl]
set_option maxRecDepth 100000 in
theorem least_Apart.inj {a b a' b' : Int} (ha : (Lit.int .i64 a).wf = true) (hb : (Lit.int .i64 b).wf = true) (ha' : (Lit.int .i64 a').wf = true) (hb' : (Lit.int .i64 b').wf = true) (h : least_Apart.kl a b = least_Apart.kl a' b') : a = a' ∧ b = b':=by
 have:=least_Apart.law.inj (least_Apart.key ha hb) (h ▸ least_Apart.key ha' hb')
 simpa using this
set_option maxRecDepth 100000 in
theorem least_Apart.zero (w : World) : (zeroValue 23).run Try.prog w = .ok (.slice none 0 0) w:=by kernel_rfl
set_option maxRecDepth 100000 in
theorem least_Apart.info : (Try.prog.info? 3).map (fun i=>(i.zero,i.size,i.bytes)) = some (some (.int .i64 0),1,8):=by kernel_rfl
set_option maxRecDepth 100000 in
theorem least_Apart.infoq : (Try.prog.info? 131).map (fun i=>(i.zero,i.size,i.bytes)) = some (some (.agg #[.int .i64 0,.int .i64 0]),2,16):=by kernel_rfl
abbrev least_Apart.kp : Kd (Int × Int):=Kd.pair (Kd.int .i64) (Kd.int .i64)
/-- What the map says: the words that are known. -/
structure least_Apart.Says (w0 : World) (mb : Nat) (kn : List (Int × Int × List Int)) (wr : World) : Prop where
 small : ∀ x ∈ kn,0 ≤ x.1 ∧ x.1 < 1000 ∧ 0 ≤ x.2.1 ∧ x.2.1 < 1000
 m : ∃ f,Mv.Map wr Try.prog 131 mb kn.length f ∧ ∀ i j,0 ≤ i → i < 1000 → 0 ≤ j → j < 1000 →
  (least_Apart.find kn i j = none → f (least_Apart.kl i j) = none) ∧ ∀ xs,least_Apart.find kn i j = some xs → ∃ v,f (least_Apart.kl i j) = some v ∧ Kd.R (Kd.int .i64) 3 wr w0.heap.size (fun _=>True) v xs
set_option maxRecDepth 100000 in
theorem least_Apart.word_kept {w w' : World} {base : Nat} {v : Value} {xs : List Int} (h : Kd.R (Kd.int .i64) 3 w base (fun _=>True) v xs) {row : Option Nat} (hg : w.grownBy w' row) (hn : ∀ k,row = some k → ∀ cells,w.heap[k]? ≠ some (.cells cells 3 (0,0))) : Kd.R (Kd.int .i64) 3 w' base (fun _=>True) v xs :=
 Kd.R_mono (Kd.R_grown (Kd.R_bound h) hg (fun k hk e=>by
  obtain ⟨_,_,_,q,hq,cells,hc⟩:=hk
  have hq3 : q = 3:=by
   have : q ∈ [3]:=hq
   simpa using this
  subst hq3
  exact hn k e.symm cells hc)) (fun _ _=>trivial)
set_option maxRecDepth 100000 in
theorem least_Apart.Says.kept {w0 : World} {mb : Nat} {kn : List (Int × Int × List Int)} {w w' : World} (h : least_Apart.Says w0 mb kn w) {row : Option Nat} (hg : w.grownBy w' row) (hne : some mb ≠ row) (hn : ∀ k,row = some k → ∀ cells,w.heap[k]? ≠ some (.cells cells 3 (0,0))) : least_Apart.Says w0 mb kn w':=by
 obtain ⟨h1,f,h2,h3⟩:=h
 refine ⟨h1,f,Mv.kept h2 hg hne,fun i j i0 i1 j0 j1=>⟨(h3 i j i0 i1 j0 j1).1,fun xs hx=>?_⟩⟩
 obtain ⟨v,hv,hr⟩:=(h3 i j i0 i1 j0 j1).2 xs hx
 exact ⟨v,hv,least_Apart.word_kept hr hg hn⟩
set_option maxRecDepth 100000 in
theorem least_Apart.Says.below {w0 : World} {mb : Nat} {kn : List (Int × Int × List Int)} {w w' : World} (h : least_Apart.Says w0 mb kn w) (hb : Below w.heap.size w w') : least_Apart.Says w0 mb kn w':=h.kept (grown_of_below hb none) (by simp) (fun k e=>by cases e)
set_option maxRecDepth 100000 in
theorem least_Apart.find_app {kn : List (Int × Int × List Int)} {a b i j : Int} {xs : List Int} (hn : least_Apart.find kn a b = none) : least_Apart.find (kn ++ [(a,b,xs)]) i j = if i = a ∧ j = b then some xs else least_Apart.find kn i j:=by
 unfold least_Apart.find at *
 rw [List.find?_append]
 by_cases c : i = a ∧ j = b
 ·obtain ⟨rfl,rfl⟩:=c
  rw [if_pos ⟨rfl,rfl⟩]
  rw [Option.map_eq_none_iff] at hn
  rw [hn]
  simp
 ·rw [if_neg c]
  have : ([(a,b,xs)].find? fun x=>x.1 == i && x.2.1 == j) = none:=by
   rw [List.find?_eq_none]
   intro x hx
   rw [List.mem_singleton] at hx
   subst hx
   simp
   rintro rfl rfl
   exact c ⟨rfl,rfl⟩
  rw [this,Option.or_none]
set_option maxRecDepth 100000 in
theorem least_Apart.Says.put {w0 : World} {mb : Nat} {kn : List (Int × Int × List Int)} {w : World} {a b : Int} {xs : List Int} {v : Value} (h : least_Apart.Says w0 mb kn w) (hn : least_Apart.find kn a b = none) (a0 : 0 ≤ a) (a1 : a < 1000) (b0 : 0 ≤ b) (b1 : b < 1000) (hr : Kd.R (Kd.int .i64) 3 w w0.heap.size (fun _=>True) v xs) (hl : kn.length < 1000) :
  ∃ w',(Instr.mapUpdate 132 (.map (some mb)) (.agg #[.int .i64 a,.int .i64 b]) v).run Try.prog w = .ok () w' ∧ least_Apart.Says w0 mb (kn ++ [(a,b,xs)]) w' ∧ w.grownBy w' (some mb) ∧ ∀ i j u,0 ≤ i → i < 1000 → 0 ≤ j → j < 1000 → ¬ (i = a ∧ j = b) → (Instr.lookup 132 (.map (some mb)) (.agg #[.int .i64 i,.int .i64 j]) false).run Try.prog w = .ok u w → (Instr.lookup 132 (.map (some mb)) (.agg #[.int .i64 i,.int .i64 j]) false).run Try.prog w' = .ok u w':=by
 obtain ⟨h1,f,h2,h3⟩:=h
 obtain ⟨w',hrun,h4,h5⟩:=Mv.update h2 least_Apart.law least_Apart.und (by unfold maxLen;omega) v (least_Apart.key (least_Apart.wf a0 a1) (least_Apart.wf b0 b1)) trivial
 have hnb : ∀ k,some mb = some k → ∀ cells,w.heap[k]? ≠ some (.cells cells 3 (0,0)):=fun k e cells hc=>by
  injection e with e
  exact Mv.apart h2 hc e.symm
 refine ⟨w',hrun,⟨fun x hx=>?_,_,by rw [List.length_append];exact h4,fun i j i0 i1 j0 j1=>?_⟩,h5,fun i j u i0 i1 j0 j1 hij hl=>?_⟩
 rotate_left 2
 ·have hk:=least_Apart.key (least_Apart.wf i0 i1) (least_Apart.wf j0 j1)
  have e1:=Mv.look h2 least_Apart.law least_Apart.und least_Apart.zero hk
  have e2:=Mv.look h4 least_Apart.law least_Apart.und least_Apart.zero hk
  rw [Mv.put_other (fun e=>hij (least_Apart.inj (least_Apart.wf i0 i1) (least_Apart.wf j0 j1) (least_Apart.wf a0 a1) (least_Apart.wf b0 b1) e))] at e2
  rw [e1] at hl
  injection hl with hl
  rw [e2,hl]
 ·rcases List.mem_append.1 hx with hx|hx
  ·exact h1 x hx
  ·rw [List.mem_singleton] at hx;subst hx;exact ⟨a0,a1,b0,b1⟩
 ·rw [least_Apart.find_app hn]
  by_cases c : i = a ∧ j = b
  ·obtain ⟨rfl,rfl⟩:=c
   rw [if_pos ⟨rfl,rfl⟩,Mv.put_same]
   refine ⟨fun e=>(by cases e),fun xs' e=>?_⟩
   injection e with e
   subst e
   exact ⟨v,rfl,least_Apart.word_kept hr h5 hnb⟩
  ·rw [if_neg c,Mv.put_other (fun e=>c (least_Apart.inj (least_Apart.wf i0 i1) (least_Apart.wf j0 j1) (least_Apart.wf a0 a1) (least_Apart.wf b0 b1) e))]
   refine ⟨(h3 i j i0 i1 j0 j1).1,fun xs' hx=>?_⟩
   obtain ⟨v',hv',hr'⟩:=(h3 i j i0 i1 j0 j1).2 xs' hx
   exact ⟨v',hv',least_Apart.word_kept hr' h5 hnb⟩
set_option maxRecDepth 100000 in
theorem least_Apart.Says.look {w0 : World} {mb : Nat} {kn : List (Int × Int × List Int)} {w : World} (h : least_Apart.Says w0 mb kn w) {i j : Int} {xs : List Int} (hx : least_Apart.find kn i j = some xs) (i0 : 0 ≤ i) (i1 : i < 1000) (j0 : 0 ≤ j) (j1 : j < 1000) :
  ∃ v,(∀ m,(Instr.lookup 132 (.map (some mb)) (.agg #[.int .i64 i,.int .i64 j]) false).run Try.prog (w.drewN m) = .ok v (w.drewN m)) ∧ (∀ m,(Instr.lookup 132 (.map (some mb)) (.agg #[.int .i64 i,.int .i64 j]) true).run Try.prog (w.drewN m) = .ok (.tuple #[v,.bool true]) (w.drewN m)) ∧ Kd.R (Kd.int .i64) 3 w w0.heap.size (fun _=>True) v xs:=by
 obtain ⟨h1,f,h2,h3⟩:=h
 obtain ⟨v,hv,hr⟩:=(h3 i j i0 i1 j0 j1).2 xs hx
 have hk:=least_Apart.key (least_Apart.wf i0 i1) (least_Apart.wf j0 j1)
 refine ⟨v,fun m=>?_,fun m=>?_,hr⟩
 ·have:=Mv.look (w:=w.drewN m) (show Mv.Map (w.drewN m) _ _ _ _ f from h2) least_Apart.law least_Apart.und least_Apart.zero hk
  rw [hv] at this
  exact this
 ·have:=Mv.look_ok (w:=w.drewN m) (show Mv.Map (w.drewN m) _ _ _ _ f from h2) least_Apart.law least_Apart.und least_Apart.zero hk
  rw [hv] at this
  exact this
set_option maxRecDepth 100000 in
theorem least_Apart.Says.miss {w0 : World} {mb : Nat} {kn : List (Int × Int × List Int)} {w : World} (h : least_Apart.Says w0 mb kn w) {i j : Int} (hx : least_Apart.find kn i j = none) (i0 : 0 ≤ i) (i1 : i < 1000) (j0 : 0 ≤ j) (j1 : j < 1000) (m : Nat) :
  (Instr.lookup 132 (.map (some mb)) (.agg #[.int .i64 i,.int .i64 j]) true).run Try.prog (w.drewN m) = .ok (.tuple #[.slice none 0 0,.bool false]) (w.drewN m):=by
 obtain ⟨h1,f,h2,h3⟩:=h
 have hv:=(h3 i j i0 i1 j0 j1).1 hx
 have:=Mv.look_ok (w:=w.drewN m) (show Mv.Map (w.drewN m) _ _ _ _ f from h2) least_Apart.law least_Apart.und least_Apart.zero (least_Apart.key (least_Apart.wf i0 i1) (least_Apart.wf j0 j1))
 rw [hv] at this
 exact this
/-- What stands in the world while pairs are looked at. -/
structure least_Apart.St (w0 : World) (mb ax bx : Nat) (ca cb : Array Value) (kn : List (Int × Int × List Int)) (wr : World) : Prop where
 below : Below w0.heap.size w0 wr
 a : wr.heap[ax]? = some (.cells ca 63 (0,0))
 b : wr.heap[bx]? = some (.cells cb 63 (0,0))
 says : least_Apart.Says w0 mb kn wr
set_option maxRecDepth 100000 in
theorem least_Apart.St.later {w0 : World} {mb ax bx : Nat} {ca cb : Array Value} {kn : List (Int × Int × List Int)} {w w' : World} (h : least_Apart.St w0 mb ax bx ca cb kn w) (hb : Below w.heap.size w w') : least_Apart.St w0 mb ax bx ca cb kn w' :=
 ⟨below_then h.below (below_size h.below) hb,blk_below h.a hb,blk_below h.b hb,h.says.below hb⟩
set_option maxRecDepth 100000 in
/-- The queue is appended to: the rest stays. -/
theorem least_Apart.St.queue {w0 : World} {mb ax bx : Nat} {ca cb : Array Value} {kn : List (Int × Int × List Int)} {w w' : World} (h : least_Apart.St w0 mb ax bx ca cb kn w) {v : Value} {ys : List (Int × Int)} (hq : Kd.Q least_Apart.kp 131 w w0.heap.size (fun _=>True) v ys) (hg : w.grownBy w' v.ownBlock) : least_Apart.St w0 mb ax bx ca cb kn w':=by
 have ht:=Kd.Q_typed hq
 have hmb : some mb ≠ v.ownBlock:=fun e=>by
  obtain ⟨cells,hc⟩:=ht mb e.symm
  obtain ⟨f,hf,_⟩:=h.says.m
  exact Mv.apart hf hc rfl
 refine ⟨Below.grown h.below hg (below_size h.below) (fun k hk=>Kd.Q_base hq k hk),blk_grown h.a hg (Kd.Q_ne hq h.a (by decide)),blk_grown h.b hg (Kd.Q_ne hq h.b (by decide)),h.says.kept hg hmb (fun k e cells hc=>?_)⟩
 obtain ⟨cells',hc'⟩:=ht k e
 rw [hc] at hc'
 injection hc' with hc'
 injection hc' with _ hc'
 exact absurd hc' (by decide)
set_option maxRecDepth 100000 in
theorem least_Apart.q_first (w0 w2 : World) (h : w0.heap.size ≤ w2.heap.size) (a b : Int) : Kd.Q least_Apart.kp 131 (w2.alloc (.cells #[.int .i64 a,.int .i64 b] 131)) w0.heap.size (fun _=>True) (.slice (some ⟨w2.heap.size,0,none⟩) 1 1) [(a,b)]:=by
 refine Kd.Q_of_R ⟨fun _ _=>trivial,[.int .i64 a,.int .i64 b],?_,rfl,fun j p hj=>?_⟩
 ·have h2:=World.ownsRow_lit (base:=w0.heap.size) (e:=131) (size:=2) w2 #[.int .i64 a,.int .i64 b] 1 h (by simp [maxLen]) rfl
  exact h2
 ·have hj0 : j = 0:=by
   have:=(List.getElem?_eq_some_iff.1 hj).1
   simp at this
   exact this
  subst hj0
  injection hj with hj
  subst hj
  exact ⟨[.int .i64 a],[.int .i64 b],rfl,rfl,rfl⟩
set_option maxRecDepth 100000 in
/-- The first pair of the queue: its cells. -/
theorem least_Apart.q_head {w : World} {base : Nat} {v : Value} {p : Int × Int} {ys : List (Int × Int)} (h : Kd.Q least_Apart.kp 131 w base (fun _=>True) v (p :: ys)) : ∃ g o cap,v = .slice (some ⟨g,o,none⟩) (ys.length + 1) cap ∧ ys.length + 1 ≤ cap ∧ w.cell? ⟨g,o,none⟩ = some (.int .i64 p.1) ∧ w.cell? ⟨g,o + 1,none⟩ = some (.int .i64 p.2):=by
 obtain ⟨g,o,cap,rfl,_,_,_⟩:=Kd.Q_form h (by simp)
 have h2:=Kd.Q_reads' h
 obtain ⟨c,hl,⟨c0,c1,rfl,h0,h1⟩,hc,_⟩:=Kd.Q_elem h p 0 (by decide) (by rw [List.length_cons];omega)
 have e0 : c0 = [.int .i64 p.1]:=h0
 have e1 : c1 = [.int .i64 p.2]:=h1
 subst e0
 subst e1
 refine ⟨g,o,cap,by simp,by simpa using h2.2.1,?_,?_⟩
 ·have:=hc 0 (.int .i64 p.1) rfl
  simpa using this
 ·have:=hc 1 (.int .i64 p.2) rfl
  simpa using this
set_option maxRecDepth 100000 in
theorem least_Apart.q_next {w : World} {base : Nat} {ok : Nat → Prop} {v : Value} {p : Int × Int} {ys : List (Int × Int)} (h : Kd.Q least_Apart.kp 131 w base ok v (p :: ys)) :
  ∃ A c A' c',v = .slice A (ys.length + 1) c ∧ ys.length + 1 ≤ c ∧ (∀ W,(Instr.slice 133 (.slice A (ys.length + 1) c) (some (.int .i64 1)) none none).run Try.prog W = .ok (.slice A' ys.length c') W) ∧ Kd.Q least_Apart.kp 131 w base ok (.slice A' ys.length c') ys:=by
 obtain ⟨A,c,rfl,hc⟩:=Kd.Q_slice h
 rw [List.length_cons] at hc h ⊢
 obtain ⟨i0,hi,_,hsz,_⟩:=info_parts least_Apart.infoq
 have h1:=cut_from (P:=Try.prog) 133 131 .i64 Try.underlying133 hi 2 hsz A (ys.length + 1) c 1 (by decide) (by omega)
 have h2:=Kd.Q_drop (k:=1) h (by simp)
 refine ⟨A,c,_,c - 1,rfl,hc,fun W=>?_,h2⟩
 have h3:=h1 W
 rw [show ((1 : Int)).toNat = 1 from rfl,Nat.add_sub_cancel] at h3
 exact h3
set_option maxRecDepth 100000 in
theorem least_Apart.drop_snoc {kn : List (Int × Int × List Int)} {n : Nat} (h : n ≤ kn.length) (z : Int × Int × List Int) : ((kn ++ [z]).drop n).map (fun x=>(x.1,x.2.1)) = (kn.drop n).map (fun x=>(x.1,x.2.1)) ++ [(z.1,z.2.1)]:=by
 rw [List.drop_append_of_le_length h,List.map_append]
 rfl
set_option maxRecDepth 100000 in
theorem least_Apart.q_map {w0 w w' : World} {mb base : Nat} {kn : List (Int × Int × List Int)} {ok : Nat → Prop} {v : Value} {ys : List (Int × Int)} (h : Kd.Q least_Apart.kp 131 w base ok v ys) (hs : least_Apart.Says w0 mb kn w) (hg : w.grownBy w' (some mb)) : Kd.Q least_Apart.kp 131 w' base ok v ys:=by
 refine Kd.Q_mono (Kd.Q_grown (Kd.Q_bound h) hg (fun k hk e=>?_)) (fun _ hk=>hk.1)
 obtain ⟨_,_,_,q,_,cells,hc⟩:=hk
 injection e with e
 subst e
 obtain ⟨f,hf,_⟩:=hs.m
 exact Mv.apart hf hc rfl
set_option maxRecDepth 100000 in
theorem least_Apart.St.mapped {w0 : World} {mb ax bx : Nat} {ca cb : Array Value} {kn kn' : List (Int × Int × List Int)} {w w' : World} (h : least_Apart.St w0 mb ax bx ca cb kn w) (hm : w0.heap.size ≤ mb) (hs : least_Apart.Says w0 mb kn' w') (hg : w.grownBy w' (some mb)) : least_Apart.St w0 mb ax bx ca cb kn' w':=by
 obtain ⟨f,hf,_⟩:=h.says.m
 exact ⟨Below.grown h.below hg (below_size h.below) (fun k e=>by injection e with e;omega),blk_grown h.a hg (by intro e;injection e with e;exact Mv.apart hf h.a e),blk_grown h.b hg (by intro e;injection e with e;exact Mv.apart hf h.b e),hs⟩
set_option maxRecDepth 100000 in
theorem least_Apart.blk_map {w0 w w' : World} {mb g : Nat} {kn : List (Int × Int × List Int)} {cs : Array Value} {t : TypeId} (hb : w.heap[g]? = some (.cells cs t (0,0))) (hs : least_Apart.Says w0 mb kn w) (hg : w.grownBy w' (some mb)) : w'.heap[g]? = some (.cells cs t (0,0)):=by
 obtain ⟨f,hf,_⟩:=hs.m
 exact blk_grown hb hg (by intro e;injection e with e;exact Mv.apart hf hb e)
set_option maxRecDepth 100000 in
theorem least_Apart.find_ne {kn : List (Int × Int × List Int)} {a b i j : Int} {xs : List Int} (h1 : least_Apart.find kn a b = none) (h2 : least_Apart.find kn i j = some xs) (ys : List Int) : least_Apart.find (kn ++ [(a,b,ys)]) i j = some xs:=by
 rw [least_Apart.find_app h1,if_neg (fun e=>by obtain ⟨rfl,rfl⟩:=e;rw [h1] at h2;cases h2),h2]
set_option maxRecDepth 100000 in
theorem least_Apart.Says.again {w0 : World} {mb : Nat} {kn : List (Int × Int × List Int)} {w w' : World} (h : least_Apart.Says w0 mb kn w) {row : Option Nat} (hg : w.grownBy w' row) (hne : some mb ≠ row) {i j : Int} {u : Value} (i0 : 0 ≤ i) (i1 : i < 1000) (j0 : 0 ≤ j) (j1 : j < 1000) (hl : (Instr.lookup 132 (.map (some mb)) (.agg #[.int .i64 i,.int .i64 j]) false).run Try.prog w = .ok u w) : (Instr.lookup 132 (.map (some mb)) (.agg #[.int .i64 i,.int .i64 j]) false).run Try.prog w' = .ok u w':=by
 obtain ⟨_,f,h2,_⟩:=h
 have hk:=least_Apart.key (least_Apart.wf i0 i1) (least_Apart.wf j0 j1)
 have e1:=Mv.look h2 least_Apart.law least_Apart.und least_Apart.zero hk
 have e2:=Mv.look (Mv.kept h2 hg hne) least_Apart.law least_Apart.und least_Apart.zero hk
 rw [e1] at hl
 injection hl with hl
 rw [e2,hl]
set_option maxHeartbeats 8000000 in
set_option maxRecDepth 100000 in
theorem least_Apart.calls (k : Nat) (a0_0 : Int) (a0_1 : Int) (A0_2 : Option Addr) (c0_2 : Nat) (l0_2 : List (List Int)) (a0_3 : Int) (a0_4 : Int) (a1_0 : Int) (a1_1 : Int) (A1_2 : Option Addr) (c1_2 : Nat) (l1_2 : List (List Int)) (a1_3 : Int) (a1_4 : Int) (r1 : List Int) (r2 : Int) (w : World) (hr0_2 : Kd.C (Kd.slice 3 (Kd.int .i64)) w A0_2 l0_2.length l0_2) (hc0_2 : l0_2.length ≤ c0_2) (hr1_2 : Kd.C (Kd.slice 3 (Kd.int .i64)) w A1_2 l1_2.length l1_2) (hc1_2 : l1_2.length ≤ c1_2) (h : least_Apart.f k a0_0 a0_1 l0_2 a0_3 a0_4 a1_0 a1_1 l1_2 a1_3 a1_4 = some (r1,r2)) :
  Calls Try.prog 33 #[.agg #[.int .i64 a0_0,.int .i64 a0_1,.slice A0_2 l0_2.length c0_2,.int .i64 a0_3,.int .u32 a0_4],.agg #[.int .i64 a1_0,.int .i64 a1_1,.slice A1_2 l1_2.length c1_2,.int .i64 a1_3,.int .u32 a1_4]] w fun e w'=>∃ v0_ : Value,e = .returned (.tuple #[v0_,.int .i64 r2]) ∧ Kd.R (Kd.int .i64) 3 w' w.heap.size (fun _=>True) v0_ r1 ∧ Below w.heap.size w w':=by
 unfold least_Apart.f at h
 obtain ⟨e0,hw,h⟩:=Option.bind_eq_some_iff.mp h
 have HR0:=Aside0.mk hr0_2
 have HR1:=Aside0.mk hr1_2
 have HC0:=Aside0.mk hc0_2
 have HC1:=Aside0.mk hc1_2
 have HWR:=Aside0.mk hw
 clear hr0_2 hr1_2 hc0_2 hc1_2 hw
 by_cases c : e0 = 0
 ·subst c
  rw [if_pos rfl] at h
  by_cases c2 : 0 ≤ a0_3 ∧ a0_3 < 1000 ∧ 0 ≤ a1_3 ∧ a1_3 < 1000
  ·rw [if_pos c2] at h
   have H:=Aside0.mk h
   have C2:=Aside0.mk c2
   clear h c2
   have hmm:=@run_makeMap Try.prog
   go_enter Try.func33,Try.ntmps33
   go_wp2_with (first
    | (go_at_call 80;(refine (least_wrong.calls k a0_0 a0_1 A0_2 c0_2 l0_2 a0_3 a0_4 a1_0 a1_1 A1_2 c1_2 l1_2 a1_3 a1_4 0 _ (Kd.C_alloc (Kd.C_alloc HR0.out _) _) HC0.out (Kd.C_alloc (Kd.C_alloc HR1.out _) _) HC1.out HWR.out).mono ?_);rintro e w1 ⟨rfl,hb⟩;have HB1:=Aside0.mk (below_step (below_alloc (below_alloc (Below.refl _ w) _) _) hb);have BA:=Aside0.mk (blk_below (blk_alloc (heap_alloc_new w _) _) hb);have BB:=Aside0.mk (show w1.heap[w.heap.size + 1]? = some (.cells #[.int .i64 a1_0,.int .i64 a1_1,.slice A1_2 l1_2.length c1_2,.int .i64 a1_3,.int .u32 a1_4] 63 (0,0)) from blk_below (by simpa using heap_alloc_new (w.alloc (.cells #[.int .i64 a0_0,.int .i64 a0_1,.slice A0_2 l0_2.length c0_2,.int .i64 a0_3,.int .u32 a0_4] 63)) (.cells #[.int .i64 a1_0,.int .i64 a1_1,.slice A1_2 l1_2.length c1_2,.int .i64 a1_3,.int .u32 a1_4] 63)) hb);clear hb;have k0 : (w1.alloc (.map #[] 0)).cell? ⟨w.heap.size,3,none⟩ = some (.int .i64 a0_3):=(blk_cell (blk_alloc BA.out _) 3).trans rfl;have k1 : (w1.alloc (.map #[] 0)).cell? ⟨w.heap.size + 1,3,none⟩ = some (.int .i64 a1_3):=(blk_cell (blk_alloc BB.out _) 3).trans rfl)
    | (refine Mv.wp_update rfl (.tmp 20) (.tmp 25) (.const (.slice none 0 0)) 132 (Or.inr rfl) 23 least_Apart.law least_Apart.und rfl (Mv.made w1 _ _) (by unfold maxLen;omega) (.agg #[.int .i64 a0_3,.int .i64 a1_3]) (.slice none 0 0) _ rfl rfl (least_Apart.key (least_Apart.wf C2.out.1 C2.out.2.1) (least_Apart.wf C2.out.2.2.1 C2.out.2.2.2)) trivial ?_;intro w2 hm2 hg2;have MM:=Aside0.mk hm2;have MG:=Aside0.mk hg2;have BA2:=Aside0.mk (blk_grown (blk_alloc BA.out _) hg2 (by intro e;injection e with e;have:=blk_lt BA.out;omega));have BB2:=Aside0.mk (blk_grown (blk_alloc BB.out _) hg2 (by intro e;injection e with e;have:=blk_lt BB.out;omega));have k2 : w2.cell? ⟨w.heap.size,3,none⟩ = some (.int .i64 a0_3):=(blk_cell BA2.out 3).trans rfl;have k3 : w2.cell? ⟨w.heap.size + 1,3,none⟩ = some (.int .i64 a1_3):=(blk_cell BB2.out 3).trans rfl;clear hm2 hg2 k0 k1))
   obtain ⟨ca,hca⟩ : ∃ ca : Array Value,ca = #[.int .i64 a0_0,.int .i64 a0_1,.slice A0_2 l0_2.length c0_2,.int .i64 a0_3,.int .u32 a0_4]:=⟨_,rfl⟩
   obtain ⟨cb,hcb⟩ : ∃ cb : Array Value,cb = #[.int .i64 a1_0,.int .i64 a1_1,.slice A1_2 l1_2.length c1_2,.int .i64 a1_3,.int .u32 a1_4]:=⟨_,rfl⟩
   have ST0:=Aside0.mk (show least_Apart.St w w1.heap.size w.heap.size (w.heap.size + 1) ca cb [(a0_3,a1_3,[])] w2 from by
    subst hca hcb
    refine ⟨Below.grown (below_alloc HB1.out _) MG.out (below_size (below_alloc HB1.out _)) (fun k e=>by injection e with e;have:=below_size HB1.out;omega),BA2.out,BB2.out,⟨fun x hx=>by rw [List.mem_singleton] at hx;subst hx;exact C2.out,_,MM.out,fun i j i0 i1 j0 j1=>?_⟩⟩
    have h1 : least_Apart.find [(a0_3,a1_3,[])] i j = if i = a0_3 ∧ j = a1_3 then some [] else none:=least_Apart.find_app (kn:=[]) rfl
    rw [h1]
    by_cases e : i = a0_3 ∧ j = a1_3
    ·obtain ⟨rfl,rfl⟩:=e
     rw [if_pos ⟨rfl,rfl⟩,Mv.put_same]
     exact ⟨fun h=>(by cases h),fun xs h=>by injection h with h;subst h;exact ⟨_,rfl,Kd.R_nil _ _ _ _ _⟩⟩
    ·rw [if_neg e,Mv.put_other (fun h=>e (least_Apart.inj (least_Apart.wf i0 i1) (least_Apart.wf j0 j1) (least_Apart.wf C2.out.1 C2.out.2.1) (least_Apart.wf C2.out.2.2.1 C2.out.2.2.2) h))]
     exact ⟨fun _=>rfl,fun xs h=>(by cases h)⟩)
   have Q0:=Aside0.mk (least_Apart.q_first w w2 (below_size ST0.out.below) a0_3 a1_3)
   have CA:=Aside0.mk (And.intro hca hcb)
   have MBL:=Aside0.mk (show w.heap.size ≤ w1.heap.size from below_size HB1.out)
   clear k2 k3 BA BB BA2 BB2 MM MG hmm hca hcb
   go_loopg [8] k (fun gg v8 wr=>∃ (n : Nat) (kn : List (Int × Int × List Int)) (q' : Nat),q' ≤ gg ∧ Aside0 (least_Apart.bfs a0_1 l0_2 l1_2 a0_4 a1_4 q' n kn = some (r1,r2)) ∧ Aside0 (Kd.Q least_Apart.kp 131 wr w.heap.size (fun _=>True) v8 ((kn.drop n).map fun x=>(x.1,x.2.1))) ∧ Aside0 (least_Apart.St w w1.heap.size w.heap.size (w.heap.size + 1) ca cb kn wr))
   case atStart=>exact ⟨0,_,k,Nat.le_refl _,H,⟨Q0.out⟩,⟨ST0.out.later (below_alloc (Below.refl _ _) _)⟩⟩
   case round =>
    clear H Q0 ST0
    obtain ⟨n,kn,q',hq,H,HQ,ST⟩:=hrel
    cases q' with
    | zero=>have h:=H.out;rw [least_Apart.bfs] at h;cases h
    | succ q1 =>
     have h:=H.out
     rw [least_Apart.bfs] at h
     rcases hx : kn[n]? with _|x
     ·rw [hx] at h
      injection h with h
      injection h with h1 h2
      subst h1 h2
      have hd : kn.drop n = []:=List.drop_eq_nil_of_le (by rw [List.getElem?_eq_none_iff] at hx;exact hx)
      have hq0:=HQ.out
      rw [hd] at hq0
      obtain ⟨A8,c8,hv,_⟩:=Kd.Q_slice hq0
      rw [show ((([] : List (Int × Int × List Int)).map fun x=>(x.1,x.2.1)).length) = 0 from rfl] at hv
      subst hv
      clear hq0 hd HQ H hx hq
      go_wp2
      go_ret2
      exact ⟨_,rfl,Kd.R_nil _ _ _ _ _,ST.out.below⟩
     ·rw [hx] at h
      by_cases c3 : 0 ≤ x.1 ∧ x.1 < 1000 ∧ 0 ≤ x.2.1 ∧ x.2.1 < 1000
      ·replace h : (if Go.bits .and .u32 (shr .u32 a0_4 x.1) 1 = Go.bits .and .u32 (shr .u32 a1_4 x.2.1) 1 then (least_Apart.inner a0_1 l0_2 l1_2 x.1 x.2.1 q1 0 kn).bind fun kn'=>least_Apart.bfs a0_1 l0_2 l1_2 a0_4 a1_4 q1 (n + 1) kn' else (least_Apart.find kn x.1 x.2.1).bind fun w=>some (w,0)) = some (r1,r2):=by
        simpa only [if_pos c3] using h
       have hd : kn.drop n = x :: kn.drop (n + 1):=by
        obtain ⟨h1,h2⟩:=List.getElem?_eq_some_iff.1 hx
        rw [List.drop_eq_getElem_cons h1,h2]
       have hq0:=HQ.out
       rw [hd,List.map_cons] at hq0
       obtain ⟨qg,qo,qc,rfl,hqc,hq1,hq2⟩:=least_Apart.q_head hq0
       have HQ1:=Aside0.mk hq0
       have C3:=Aside0.mk c3
       have HD:=Aside0.mk hd
       have HX:=Aside0.mk hx
       clear hq0 hd hx HQ H
       obtain ⟨x1,x2,xw⟩:=x
       dsimp only at *
       generalize hys : (kn.drop (n + 1)).map (fun x=>(x.1,x.2.1)) = ys at *
       have HYS:=Aside0.mk hys
       clear hys
       have c30:=c3.1
       have c32:=c3.2.2.1
       have hfa : wr.cell? ⟨w.heap.size,4,none⟩ = some (.int .u32 a0_4):=(blk_cell ST.out.a 4).trans (by rw [CA.out.1];rfl)
       have hfb : wr.cell? ⟨w.heap.size + 1,4,none⟩ = some (.int .u32 a1_4):=(blk_cell ST.out.b 4).trans (by rw [CA.out.2];rfl)
       clear c3
       have pre : True:=trivial
       obtain ⟨w3,hw3⟩ : ∃ w3,w3 = wr.alloc (Obj.cells #[.int .i64 x1,.int .i64 x2] 131):=⟨_,rfl⟩
       have GA:=Aside0.mk (World.grownBy_alloc wr (Obj.cells #[.int .i64 x1,.int .i64 x2] 131) none)
       have ST3:=Aside0.mk (ST.out.later (below_alloc (Below.refl _ wr) (Obj.cells #[.int .i64 x1,.int .i64 x2] 131)))
       have BX3:=Aside0.mk (heap_alloc_new wr (Obj.cells #[.int .i64 x1,.int .i64 x2] 131))
       have HQ3:=Aside0.mk (Kd.Q_alloc (Kd.Q_elderB HQ1.out wr.heap.size (Nat.le_refl _)) (Obj.cells #[.int .i64 x1,.int .i64 x2] 131))
       by_cases c4 : Go.bits .and .u32 (shr .u32 a0_4 x1) 1 = Go.bits .and .u32 (shr .u32 a1_4 x2) 1
       ·rw [if_pos c4] at h
        obtain ⟨kn',hin,h⟩:=Option.bind_eq_some_iff.mp h
        have HIN:=Aside0.mk hin
        have H:=Aside0.mk h
        have c4b : (Go.bits .and .u32 (a0_4 / 2 ^ min x1.toNat 32) 1 != Go.bits .and .u32 (a1_4 / 2 ^ min x2.toNat 32) 1) = false:=bne_eq_false_iff_eq.2 c4
        clear hin h c4
        go_wp2
        rw [← hw3] at *
        clear hw3 hfa hfb hq1 hq2
        generalize wr.heap.size = px at *
        have k0 : w3.cell? ⟨w.heap.size,4,none⟩ = some (.int .u32 a0_4):=(blk_cell ST3.out.a 4).trans (by rw [CA.out.1];rfl)
        have k1 : w3.cell? ⟨w.heap.size + 1,4,none⟩ = some (.int .u32 a1_4):=(blk_cell ST3.out.b 4).trans (by rw [CA.out.2];rfl)
        have k2 : w3.cell? ⟨px,0,none⟩ = some (.int .i64 x1):=(blk_cell BX3.out 0).trans rfl
        have k3 : w3.cell? ⟨px,1,none⟩ = some (.int .i64 x2):=(blk_cell BX3.out 1).trans rfl
        have k4 : w3.cell? ⟨w.heap.size,1,none⟩ = some (.int .i64 a0_1):=(blk_cell ST3.out.a 1).trans (by rw [CA.out.1];rfl)
        go_quiet (fail)
        go_wp2
        clear k0 k1 k2 k3 k4 c4b
        have ST4:=Aside0.mk (ST3.out.later (pw_below_drewN (Below.refl _ w3) nq))
        have BX4:=Aside0.mk (blk_drewN BX3.out nq)
        have HQ4:=Aside0.mk (Kd.Q_mono (ok':=fun k_=>k_ ≠ px) (Kd.Q_drewN HQ3.out nq) (fun _ hk=>hk.2))
        have HN:=Aside0.mk (show n < kn.length from (List.getElem?_eq_some_iff.1 HX.out).1)
        have HQ5:=Aside0.mk (show Kd.Q least_Apart.kp 131 (w3.drewN nq) w.heap.size (fun k_=>k_ ≠ px) (.slice (some ⟨qg,qo,none⟩) (ys.length + 1) qc) ((kn.drop n).map fun x=>(x.1,x.2.1)) from by rw [HD.out,List.map_cons,HYS.out];exact HQ4.out)
        clear ST3 BX3 HQ3 HQ4 GA ST HD HYS HX HQ1
        generalize w3.drewN nq = w4 at *
        clear w3
        go_loopg [8,59] q1 (fun gg v8 v59 wi=>∃ (s : Nat) (kn2 : List (Int × Int × List Int)) (q2 : Nat),q2 ≤ gg ∧ v59 = .int .i64 s ∧ Aside0 (n < kn2.length) ∧ Aside0 (least_Apart.inner a0_1 l0_2 l1_2 x1 x2 q2 s kn2 = some kn') ∧ Aside0 (Kd.Q least_Apart.kp 131 wi w.heap.size (fun k_=>k_ ≠ px) v8 ((kn2.drop n).map fun x=>(x.1,x.2.1))) ∧ Aside0 (least_Apart.St w w1.heap.size w.heap.size (w.heap.size + 1) ca cb kn2 wi) ∧ Aside0 (wi.heap[px]? = some (.cells #[.int .i64 x1,.int .i64 x2] 131 (0,0))))
        case atStart=>exact ⟨0,kn,q1,Nat.le_refl _,rfl,HN,HIN,HQ5,ST4,BX4⟩
        case round =>
         clear ST4 BX4 HQ5 HN HIN
         obtain ⟨s,kn2,q2,hq2,rfl,HN,HI,HQ,ST,BX⟩:=hrel
         cases q2 with
         | zero=>have h:=HI.out;rw [least_Apart.inner] at h;cases h
         | succ q3 =>
          have h:=HI.out
          rw [least_Apart.inner] at h
          by_cases c5 : (s : Int) < a0_1
          ·rw [if_pos c5] at h
           have c5b : decide ((s : Int) < a0_1) = true:=decide_eq_true c5
           by_cases c6 : 0 ≤ x1 ∧ x1 < (l0_2.length : Int) ∧ 0 ≤ x2 ∧ x2 < (l1_2.length : Int) ∧ 0 ≤ (s : Int) ∧ (s : Int) < ((least_Apart.line l0_2 x1).length : Int) ∧ (s : Int) < ((least_Apart.line l1_2 x2).length : Int) ∧ kn2.length < 1000 ∧ 0 ≤ rd (least_Apart.line l0_2 x1) s ∧ rd (least_Apart.line l0_2 x1) s < 1000 ∧ 0 ≤ rd (least_Apart.line l1_2 x2) s ∧ rd (least_Apart.line l1_2 x2) s < 1000
           ·rw [if_pos c6] at h
            obtain ⟨p1,p2,p3,p4,p5,p6,p7,p8,p9,p10,p11,p12⟩:=c6
            obtain ⟨ad0,A0,c0,rfl,g1,_,g2⟩:=least_Apart.at_line HR0.out x1 p1 p2
            obtain ⟨ad1,A1,c1,rfl,g3,_,g4⟩:=least_Apart.at_line HR1.out x2 p3 p4
            obtain ⟨ad2,rfl,g5⟩:=Kd.at_int g2 s p5 p6
            obtain ⟨ad3,rfl,g6⟩:=Kd.at_int g4 s p5 p7
            have hmx:=g2.2.1
            have w1e : wrap64 ((s : Int) + 1) = (s : Int) + 1:=by unfold wrap64;omega
            replace g1:=pw_cell_below ST.out.below g1
            replace g3:=pw_cell_below ST.out.below g3
            replace g5:=pw_cell_below ST.out.below g5
            replace g6:=pw_cell_below ST.out.below g6
            have P:=Aside0.mk (And.intro p8 (And.intro p9 (And.intro p10 (And.intro p11 p12))))
            have M:=Aside0.mk (show q3 < gk by omega)
            generalize rd (least_Apart.line l0_2 x1) s = y1 at *
            generalize rd (least_Apart.line l1_2 x2) s = y2 at *
            rw [Int.toNat_natCast] at g5 g6
            have W1:=Aside0.mk w1e
            have q1t:=eq_true p1
            have q2t:=eq_true p2
            have q3t:=eq_true p3
            have q4t:=eq_true p4
            have q5t:=eq_true p5
            have q6t:=eq_true p6
            have q7t:=eq_true p7
            have k0 : wr.cell? ⟨w.heap.size,2,none⟩ = some (.slice (some ad0) l0_2.length c0_2):=(blk_cell ST.out.a 2).trans (by rw [CA.out.1];rfl)
            have k1 : wr.cell? ⟨w.heap.size + 1,2,none⟩ = some (.slice (some ad1) l1_2.length c1_2):=(blk_cell ST.out.b 2).trans (by rw [CA.out.2];rfl)
            have k2 : wr.cell? ⟨px,0,none⟩ = some (.int .i64 x1):=(blk_cell BX.out 0).trans rfl
            have k3 : wr.cell? ⟨px,1,none⟩ = some (.int .i64 x2):=(blk_cell BX.out 1).trans rfl
            have HI':=Aside0.mk h
            clear h p8 p9 p10 p11 p12 g2 g4 hmx w1e c5 hq2 HI hq
            go_wp2
            have z0:=World.new_ne wr _ k0
            have z1:=World.new_ne wr _ k1
            have z2:=World.new_ne wr _ k2
            have z3:=World.new_ne wr _ k3
            have z4:=World.new_ne wr _ g1
            have z5:=World.new_ne wr _ g3
            have z6:=World.new_ne wr _ g5
            have z7:=World.new_ne wr _ g6
            go_region_held3 (fun w'=>w'.cell? ⟨w.heap.size,2,none⟩ = some (.slice (some ad0) l0_2.length c0_2) ∧ w'.cell? ⟨px,0,none⟩ = some (.int .i64 x1) ∧ w'.cell? (ad0.add x1.toNat) = some (.slice (some ad2) (least_Apart.line l0_2 x1).length c0) ∧ w'.cell? (ad2.add s) = some (.int .i64 y1) ∧ w'.cell? ⟨w.heap.size + 1,2,none⟩ = some (.slice (some ad1) l1_2.length c1_2) ∧ w'.cell? ⟨px,1,none⟩ = some (.int .i64 x2) ∧ w'.cell? (ad1.add x2.toNat) = some (.slice (some ad3) (least_Apart.line l1_2 x2).length c1) ∧ w'.cell? (ad3.add s) = some (.int .i64 y2))
             (first|exact ⟨k0,k2,g1,g5,k1,k3,g3,g6⟩|go_keep)
             (fail)
            clear z0 z1 z2 z3 z4 z5 z6 z7
            have ST5:=Aside0.mk (ST.out.later (below_drew (below_alloc (Below.refl _ wr) (Obj.cells #[.int .i64 y1,.int .i64 y2] 131))))
            have BX5:=Aside0.mk (blk_drew (blk_alloc BX.out (Obj.cells #[.int .i64 y1,.int .i64 y2] 131)))
            have BY5:=Aside0.mk (blk_drew (heap_alloc_new wr (Obj.cells #[.int .i64 y1,.int .i64 y2] 131)))
            have HQ5:=Aside0.mk (Kd.Q_drew (Kd.Q_alloc HQ.out (Obj.cells #[.int .i64 y1,.int .i64 y2] 131)))
            have LTX:=Aside0.mk (show px < wr.heap.size from blk_lt BX.out)
            clear ST BX HQ k0 k1 k2 k3 g1 g3 g5 g6
            generalize hqx : wr.heap.size = qx at *
            generalize (wr.alloc (Obj.cells #[.int .i64 y1,.int .i64 y2] 131)).drew = w5 at *
            clear hqx
            have m0 : w5.cell? ⟨qx,0,none⟩ = some (.int .i64 y1):=(blk_cell BY5.out 0).trans rfl
            have m1 : w5.cell? ⟨qx,1,none⟩ = some (.int .i64 y2):=(blk_cell BY5.out 1).trans rfl
            have h:=HI'.out
            rcases hf : least_Apart.find kn2 y1 y2 with _|wv
            ·rw [hf] at h
             rcases hfx : least_Apart.find kn2 x1 x2 with _|wx
             ·rw [hfx] at h;cases h
             ·replace h : (if wx.length < 1000 then least_Apart.inner a0_1 l0_2 l1_2 x1 x2 q3 (s + 1) (kn2 ++ [(y1,y2,wx ++ [(s : Int)])]) else none) = some kn':=by simpa only [hfx] using h
              by_cases c7 : wx.length < 1000
              ·rw [if_pos c7] at h
               have HI2:=Aside0.mk h
               have hl5:=ST5.out.says.miss hf P.out.2.1 P.out.2.2.1 P.out.2.2.2.1 P.out.2.2.2.2 0
               replace hl5 : (Instr.lookup 132 (.map (some w1.heap.size)) (.agg #[.int .i64 y1,.int .i64 y2]) true).run Try.prog w5 = .ok (.tuple #[.slice none 0 0,.bool false]) w5:=hl5
               have HF:=Aside0.mk hf
               have HFX:=Aside0.mk hfx
               have C7:=Aside0.mk c7
               clear h hf hfx c7 HI'
               go_wp2
               clear m0 m1 hl5
               have ST6:=Aside0.mk (ST5.out.later (below_drew (Below.refl _ w5)))
               have BX6:=Aside0.mk (blk_drew BX5.out)
               have BY6:=Aside0.mk (blk_drew BY5.out)
               have HQ6:=Aside0.mk (Kd.Q_drew HQ5.out)
               clear ST5 BX5 BY5 HQ5
               obtain ⟨vx,hlx0,_,hrx⟩:=ST6.out.says.look HFX.out C3.out.1 C3.out.2.1 C3.out.2.2.1 C3.out.2.2.2
               obtain ⟨Ax,cx,rfl,hcx,hCx⟩:=Kd.R_reads hrx
               have HCX:=Aside0.mk (And.intro hcx hCx)
               have HLX:=Aside0.mk (hlx0 0)
               have HCL:=Aside0.mk (show slices_Clone_int_int.f wx = some wx from by unfold slices_Clone_int_int.f;rw [if_pos (by have:=C7.out;omega)])
               have NE:=Aside0.mk (show ¬ (x1 = y1 ∧ x2 = y2) from fun e=>by obtain ⟨rfl,rfl⟩:=e;have:=HF.out;rw [HFX.out] at this;cases this)
               obtain ⟨i0,IF0⟩:=info_parts least_Apart.info
               obtain ⟨I0,hI0⟩ : ∃ I0 : TypeInfo × Unit,I0.1 = i0:=⟨(i0,()),rfl⟩
               have IF:=Aside0.mk IF0
               rw [← hI0] at IF
               clear hI0 IF0 hlx0 hcx hCx hrx
               have KS0:=Aside0.mk (show w5.drew.cell? ⟨qx,0,none⟩ = some (.int .i64 y1) ∧ w5.drew.cell? ⟨qx,1,none⟩ = some (.int .i64 y2) ∧ w5.drew.cell? ⟨px,0,none⟩ = some (.int .i64 x1) ∧ w5.drew.cell? ⟨px,1,none⟩ = some (.int .i64 x2) ∧ (Instr.lookup 132 (.map (some w1.heap.size)) (.agg #[.int .i64 x1,.int .i64 x2]) false).run Try.prog w5.drew = .ok (.slice Ax wx.length cx) w5.drew from ⟨(blk_cell BY6.out 0).trans rfl,(blk_cell BY6.out 1).trans rfl,(blk_cell BX6.out 0).trans rfl,(blk_cell BX6.out 1).trans rfl,HLX.out⟩)
               have HB0:=Aside0.mk (below_alloc (Below.refl _ w5.drew) (Obj.cells #[.int .i64 (s : Int)] 3))
               have KS1:=Aside0.mk (show (w5.alloc (Obj.cells #[.int .i64 (s : Int)] 3)).drew.cell? ⟨qx,0,none⟩ = some (.int .i64 y1) ∧ (w5.alloc (Obj.cells #[.int .i64 (s : Int)] 3)).drew.cell? ⟨qx,1,none⟩ = some (.int .i64 y2) ∧ (w5.alloc (Obj.cells #[.int .i64 (s : Int)] 3)).drew.cell? ⟨px,0,none⟩ = some (.int .i64 x1) ∧ (w5.alloc (Obj.cells #[.int .i64 (s : Int)] 3)).drew.cell? ⟨px,1,none⟩ = some (.int .i64 x2) ∧ (Instr.lookup 132 (.map (some w1.heap.size)) (.agg #[.int .i64 x1,.int .i64 x2]) false).run Try.prog (w5.alloc (Obj.cells #[.int .i64 (s : Int)] 3)).drew = .ok (.slice Ax wx.length cx) (w5.alloc (Obj.cells #[.int .i64 (s : Int)] 3)).drew from ⟨(blk_cell (blk_below BY6.out HB0.out) 0).trans rfl,(blk_cell (blk_below BY6.out HB0.out) 1).trans rfl,(blk_cell (blk_below BX6.out HB0.out) 0).trans rfl,(blk_cell (blk_below BX6.out HB0.out) 1).trans rfl,ST6.out.says.again (grown_of_below (HB0.out) none) (by simp) C3.out.1 C3.out.2.1 C3.out.2.2.1 C3.out.2.2.2 HLX.out⟩)
               go_region_held3 (fun w'=>w'.cell? ⟨qx,0,none⟩ = some (.int .i64 y1) ∧ w'.cell? ⟨qx,1,none⟩ = some (.int .i64 y2) ∧ w'.cell? ⟨px,0,none⟩ = some (.int .i64 x1) ∧ w'.cell? ⟨px,1,none⟩ = some (.int .i64 x2) ∧ (Instr.lookup 132 (.map (some w1.heap.size)) (.agg #[.int .i64 x1,.int .i64 x2]) false).run Try.prog w' = .ok (.slice Ax wx.length cx) w')
                (with_reducible first|exact KS8.out|exact KS7.out|exact KS3.out|exact KS2.out|exact KS1.out|exact KS0.out)
                (first
                 | (go_at_call 81;refine (slices_Clone_int_int.calls Ax cx wx wx _ (show Kd.C (Kd.int .i64) w5.drew Ax wx.length wx from HCX.out.2) HCX.out.1 HCL.out).mono ?_;rintro e w6 ⟨v0,rfl,ho,hb⟩;have HB6:=Aside0.mk hb;have OW:=Aside0.mk (Kd.own_of_R ho);have RB:=Aside0.mk (Kd.R_base ho);have HBb:=Aside0.mk (below_alloc HB6.out (Obj.cells #[.int .i64 (s : Int)] 3));have BXN:=Aside0.mk (heap_alloc_new w6 (Obj.cells #[.int .i64 (s : Int)] 3));have NW:=Aside0.mk (own_other OW.out (World.grownBy_alloc w6 (Obj.cells #[.int .i64 (s : Int)] 3) none) (by cases v0.ownBlock <;> simp));have KS2:=Aside0.mk (show w6.cell? ⟨qx,0,none⟩ = some (.int .i64 y1) ∧ w6.cell? ⟨qx,1,none⟩ = some (.int .i64 y2) ∧ w6.cell? ⟨px,0,none⟩ = some (.int .i64 x1) ∧ w6.cell? ⟨px,1,none⟩ = some (.int .i64 x2) ∧ (Instr.lookup 132 (.map (some w1.heap.size)) (.agg #[.int .i64 x1,.int .i64 x2]) false).run Try.prog w6 = .ok (.slice Ax wx.length cx) w6 from ⟨(blk_cell (blk_below BY6.out HB6.out) 0).trans rfl,(blk_cell (blk_below BY6.out HB6.out) 1).trans rfl,(blk_cell (blk_below BX6.out HB6.out) 0).trans rfl,(blk_cell (blk_below BX6.out HB6.out) 1).trans rfl,ST6.out.says.again (grown_of_below (HB6.out) none) (by simp) C3.out.1 C3.out.2.1 C3.out.2.2.1 C3.out.2.2.2 HLX.out⟩);have KS3:=Aside0.mk (show (w6.alloc (Obj.cells #[.int .i64 (s : Int)] 3)).cell? ⟨qx,0,none⟩ = some (.int .i64 y1) ∧ (w6.alloc (Obj.cells #[.int .i64 (s : Int)] 3)).cell? ⟨qx,1,none⟩ = some (.int .i64 y2) ∧ (w6.alloc (Obj.cells #[.int .i64 (s : Int)] 3)).cell? ⟨px,0,none⟩ = some (.int .i64 x1) ∧ (w6.alloc (Obj.cells #[.int .i64 (s : Int)] 3)).cell? ⟨px,1,none⟩ = some (.int .i64 x2) ∧ (Instr.lookup 132 (.map (some w1.heap.size)) (.agg #[.int .i64 x1,.int .i64 x2]) false).run Try.prog (w6.alloc (Obj.cells #[.int .i64 (s : Int)] 3)) = .ok (.slice Ax wx.length cx) (w6.alloc (Obj.cells #[.int .i64 (s : Int)] 3)) from ⟨(blk_cell (blk_below BY6.out HBb.out) 0).trans rfl,(blk_cell (blk_below BY6.out HBb.out) 1).trans rfl,(blk_cell (blk_below BX6.out HBb.out) 0).trans rfl,(blk_cell (blk_below BX6.out HBb.out) 1).trans rfl,ST6.out.says.again (grown_of_below (HBb.out) none) (by simp) C3.out.1 C3.out.2.1 C3.out.2.2.1 C3.out.2.2.2 HLX.out⟩);clear ho hb)
                 | (go_at_call 81;refine (slices_Clone_int_int.calls Ax cx wx wx _ (show Kd.C (Kd.int .i64) (w5.alloc (Obj.cells #[.int .i64 (s : Int)] 3)).drew Ax wx.length wx from Kd.C_alloc HCX.out.2 _) HCX.out.1 HCL.out).mono ?_;rintro e w6 ⟨v0,rfl,ho,hb⟩;have HB6:=Aside0.mk (below_step (below_alloc (Below.refl _ w5.drew) (Obj.cells #[.int .i64 (s : Int)] 3)) hb);have NW:=Aside0.mk (Kd.own_of_R (Kd.R_lower ho (by simp : w5.drew.heap.size ≤ _)));have RB:=Aside0.mk (fun k_ hk_=>Nat.le_trans (by simp : w5.drew.heap.size ≤ (w5.drew.alloc (Obj.cells #[.int .i64 (s : Int)] 3)).heap.size) (Kd.R_base ho k_ hk_));have BXN:=Aside0.mk (blk_below (heap_alloc_new w5.drew (Obj.cells #[.int .i64 (s : Int)] 3)) hb);have KS2:=Aside0.mk (show w6.cell? ⟨qx,0,none⟩ = some (.int .i64 y1) ∧ w6.cell? ⟨qx,1,none⟩ = some (.int .i64 y2) ∧ w6.cell? ⟨px,0,none⟩ = some (.int .i64 x1) ∧ w6.cell? ⟨px,1,none⟩ = some (.int .i64 x2) ∧ (Instr.lookup 132 (.map (some w1.heap.size)) (.agg #[.int .i64 x1,.int .i64 x2]) false).run Try.prog w6 = .ok (.slice Ax wx.length cx) w6 from ⟨(blk_cell (blk_below BY6.out HB6.out) 0).trans rfl,(blk_cell (blk_below BY6.out HB6.out) 1).trans rfl,(blk_cell (blk_below BX6.out HB6.out) 0).trans rfl,(blk_cell (blk_below BX6.out HB6.out) 1).trans rfl,ST6.out.says.again (grown_of_below (HB6.out) none) (by simp) C3.out.1 C3.out.2.1 C3.out.2.2.1 C3.out.2.2.2 HLX.out⟩);clear ho hb)
                 | (have t0_:=NW;clear t0_;refine step_append_lies _ (by rfl) (.tmp 94) (.tmp 96) 23 (by rfl) w5.drew.heap.size 3 I0.1 (.int .i64 0) 1 8 Try.underlying23 IF.out.1 IF.out.2.1 IF.out.2.2.1 IF.out.2.2.2 rfl (by decide) v0 wx.length (encs (Value.int .i64) wx) (by rfl) (show World.ownsRow (w6.alloc (Obj.cells #[.int .i64 (s : Int)] 3)) _ _ _ _ _ _ from NW.out) ⟨w6.heap.size,0,none⟩ 1 1 [.int .i64 (s : Int)] (by rfl) rfl (World.news_of_block BXN.out) (by simp [Value.oneCell']) (by decide) (by have:=C7.out;unfold maxLen;omega) (by have:=C7.out;omega) (below_size HBb.out) _ rfl ?_;intro g_ cap_ w7 hown7 hg7 _ _;have HB7:=Aside0.mk (show Below w5.drew.heap.size w5.drew w7 from Below.grown HBb.out hg7 (below_size HBb.out) (fun k_ hk_=>RB.out k_ hk_));have R7:=Aside0.mk (show Kd.R (Kd.int .i64) 3 w7 w.heap.size (fun _=>True) (.slice (some ⟨g_,0,none⟩) (wx.length + 1) cap_) (wx ++ [(s : Int)]) from Kd.R_lower (Kd.R_of_own (by simpa [encs] using hown7) (fun _ _=>trivial)) (below_size ST6.out.below));have ST7:=Aside0.mk (ST6.out.later HB7.out);obtain ⟨w8,hrun8,hs8,hg8,hk8⟩:=ST7.out.says.put HF.out P.out.2.1 P.out.2.2.1 P.out.2.2.2.1 P.out.2.2.2.2 R7.out P.out.1;have HL7:=Aside0.mk (ST6.out.says.again (grown_of_below (HB7.out) none) (by simp) C3.out.1 C3.out.2.1 C3.out.2.2.1 C3.out.2.2.2 HLX.out);have HL8:=Aside0.mk (hk8 x1 x2 _ C3.out.1 C3.out.2.1 C3.out.2.2.1 C3.out.2.2.2 NE.out HL7.out);have BX7:=Aside0.mk (blk_below BX6.out HB7.out);have BY7:=Aside0.mk (blk_below BY6.out HB7.out);have HQ7:=Aside0.mk (Kd.Q_below HQ6.out HB7.out);have BX8:=Aside0.mk (least_Apart.blk_map BX7.out ST7.out.says hg8);have BY8:=Aside0.mk (least_Apart.blk_map BY7.out ST7.out.says hg8);have HQ8:=Aside0.mk (least_Apart.q_map HQ7.out ST7.out.says hg8);have ST8:=Aside0.mk (ST7.out.mapped MBL.out hs8 hg8);have KS7:=Aside0.mk (show w7.cell? ⟨qx,0,none⟩ = some (.int .i64 y1) ∧ w7.cell? ⟨qx,1,none⟩ = some (.int .i64 y2) ∧ w7.cell? ⟨px,0,none⟩ = some (.int .i64 x1) ∧ w7.cell? ⟨px,1,none⟩ = some (.int .i64 x2) ∧ (Instr.lookup 132 (.map (some w1.heap.size)) (.agg #[.int .i64 x1,.int .i64 x2]) false).run Try.prog w7 = .ok (.slice Ax wx.length cx) w7 from ⟨(blk_cell BY7.out 0).trans rfl,(blk_cell BY7.out 1).trans rfl,(blk_cell BX7.out 0).trans rfl,(blk_cell BX7.out 1).trans rfl,HL7.out⟩);have KS8:=Aside0.mk (show w8.cell? ⟨qx,0,none⟩ = some (.int .i64 y1) ∧ w8.cell? ⟨qx,1,none⟩ = some (.int .i64 y2) ∧ w8.cell? ⟨px,0,none⟩ = some (.int .i64 x1) ∧ w8.cell? ⟨px,1,none⟩ = some (.int .i64 x2) ∧ (Instr.lookup 132 (.map (some w1.heap.size)) (.agg #[.int .i64 x1,.int .i64 x2]) false).run Try.prog w8 = .ok (.slice Ax wx.length cx) w8 from ⟨(blk_cell BY8.out 0).trans rfl,(blk_cell BY8.out 1).trans rfl,(blk_cell BX8.out 0).trans rfl,(blk_cell BX8.out 1).trans rfl,HL8.out⟩);clear hown7 hg7 hs8 hg8 hk8)
                 | (have t0_:=NW;clear t0_;refine step_append_lies _ (by rfl) (.tmp 94) (.tmp 96) 23 (by rfl) w5.drew.heap.size 3 I0.1 (.int .i64 0) 1 8 Try.underlying23 IF.out.1 IF.out.2.1 IF.out.2.2.1 IF.out.2.2.2 rfl (by decide) v0 wx.length (encs (Value.int .i64) wx) (by rfl) (show World.ownsRow w6 _ _ _ _ _ _ from NW.out) ⟨w5.drew.heap.size,0,none⟩ 1 1 [.int .i64 (s : Int)] (by rfl) rfl (World.news_of_block BXN.out) (by simp [Value.oneCell']) (by decide) (by have:=C7.out;unfold maxLen;omega) (by have:=C7.out;omega) (below_size HB6.out) _ rfl ?_;intro g_ cap_ w7 hown7 hg7 _ _;have HB7:=Aside0.mk (show Below w5.drew.heap.size w5.drew w7 from Below.grown HB6.out hg7 (below_size HB6.out) (fun k_ hk_=>RB.out k_ hk_));have R7:=Aside0.mk (show Kd.R (Kd.int .i64) 3 w7 w.heap.size (fun _=>True) (.slice (some ⟨g_,0,none⟩) (wx.length + 1) cap_) (wx ++ [(s : Int)]) from Kd.R_lower (Kd.R_of_own (by simpa [encs] using hown7) (fun _ _=>trivial)) (below_size ST6.out.below));have ST7:=Aside0.mk (ST6.out.later HB7.out);obtain ⟨w8,hrun8,hs8,hg8,hk8⟩:=ST7.out.says.put HF.out P.out.2.1 P.out.2.2.1 P.out.2.2.2.1 P.out.2.2.2.2 R7.out P.out.1;have HL7:=Aside0.mk (ST6.out.says.again (grown_of_below (HB7.out) none) (by simp) C3.out.1 C3.out.2.1 C3.out.2.2.1 C3.out.2.2.2 HLX.out);have HL8:=Aside0.mk (hk8 x1 x2 _ C3.out.1 C3.out.2.1 C3.out.2.2.1 C3.out.2.2.2 NE.out HL7.out);have BX7:=Aside0.mk (blk_below BX6.out HB7.out);have BY7:=Aside0.mk (blk_below BY6.out HB7.out);have HQ7:=Aside0.mk (Kd.Q_below HQ6.out HB7.out);have BX8:=Aside0.mk (least_Apart.blk_map BX7.out ST7.out.says hg8);have BY8:=Aside0.mk (least_Apart.blk_map BY7.out ST7.out.says hg8);have HQ8:=Aside0.mk (least_Apart.q_map HQ7.out ST7.out.says hg8);have ST8:=Aside0.mk (ST7.out.mapped MBL.out hs8 hg8);have KS7:=Aside0.mk (show w7.cell? ⟨qx,0,none⟩ = some (.int .i64 y1) ∧ w7.cell? ⟨qx,1,none⟩ = some (.int .i64 y2) ∧ w7.cell? ⟨px,0,none⟩ = some (.int .i64 x1) ∧ w7.cell? ⟨px,1,none⟩ = some (.int .i64 x2) ∧ (Instr.lookup 132 (.map (some w1.heap.size)) (.agg #[.int .i64 x1,.int .i64 x2]) false).run Try.prog w7 = .ok (.slice Ax wx.length cx) w7 from ⟨(blk_cell BY7.out 0).trans rfl,(blk_cell BY7.out 1).trans rfl,(blk_cell BX7.out 0).trans rfl,(blk_cell BX7.out 1).trans rfl,HL7.out⟩);have KS8:=Aside0.mk (show w8.cell? ⟨qx,0,none⟩ = some (.int .i64 y1) ∧ w8.cell? ⟨qx,1,none⟩ = some (.int .i64 y2) ∧ w8.cell? ⟨px,0,none⟩ = some (.int .i64 x1) ∧ w8.cell? ⟨px,1,none⟩ = some (.int .i64 x2) ∧ (Instr.lookup 132 (.map (some w1.heap.size)) (.agg #[.int .i64 x1,.int .i64 x2]) false).run Try.prog w8 = .ok (.slice Ax wx.length cx) w8 from ⟨(blk_cell BY8.out 0).trans rfl,(blk_cell BY8.out 1).trans rfl,(blk_cell BX8.out 0).trans rfl,(blk_cell BX8.out 1).trans rfl,HL8.out⟩);clear hown7 hg7 hs8 hg8 hk8))
               all_goals
                clear KS0 KS1 KS2 HB0 HCX HLX HCL HB6 NW RB BXN HB7 R7 ST7 HL7 HL8 BX7 BY7 HQ7 KS7 KS8 BX6 BY6 HQ6 ST6
                try clear OW
                try clear KS3 HBb
                have m0 : w8.cell? ⟨qx,0,none⟩ = some (.int .i64 y1):=(blk_cell BY8.out 0).trans rfl
                have m1 : w8.cell? ⟨qx,1,none⟩ = some (.int .i64 y2):=(blk_cell BY8.out 1).trans rfl
                clear BY8 hrun8
                have w1e:=W1.out
                go_wp2_with (at_builtin;refine Kd.Q_append least_Apart.kp (w0:=w) w.heap.size rfl (.tmp 98) (.tmp 100) 133 131 (.agg #[.int .i64 0,.int .i64 0]) 16 rfl Try.underlying133 least_Apart.infoq rfl (by decide) (by decide) u8 ((kn2.drop n).map fun x=>(x.1,x.2.1)) (y1,y2) [.int .i64 y1,.int .i64 y2] (fun k_=>k_ ≠ px) (fun _=>False) rfl rfl ⟨[.int .i64 y1],[.int .i64 y2],rfl,rfl,rfl⟩ (fun _ h_=>h_.elim) (fun k_ hk_ e_=>by have:=blk_lt BX8.out;omega) HQ8.out ST8.out.below (below_size ST8.out.below) (by have:=P.out.1;rw [List.length_map,List.length_drop];omega) ?_;intro v9 w9 hq9 hb9 hg9 hat9;have ST9:=Aside0.mk (ST8.out.queue (Kd.Q_mono HQ8.out (fun _ _=>trivial)) hg9);have BX9:=Aside0.mk (blk_grown BX8.out hg9 (Kd.Q_away HQ8.out (fun _ h_=>h_)));have HQ9:=Aside0.mk hq9;clear hq9 hb9 hg9 hat9 m0 m1 ST8 BX8 HQ8)
                go_roundg q3
                case measure=>exact M.out
                case rel=>exact ⟨s + 1,kn2 ++ [(y1,y2,wx ++ [(s : Int)])],q3,Nat.le_refl _,by first|rfl|(rw [w1e];rfl),⟨by have:=HN.out;rw [List.length_append];omega⟩,HI2,⟨by rw [least_Apart.drop_snoc (Nat.le_of_lt HN.out)];exact HQ9.out⟩,ST9,BX9⟩
              ·rw [if_neg c7] at h;cases h
            ·replace h : least_Apart.inner a0_1 l0_2 l1_2 x1 x2 q3 (s + 1) kn2 = some kn':=by simpa only [hf] using h
             obtain ⟨v,_,hl5,_⟩:=ST5.out.says.look hf P.out.2.1 P.out.2.2.1 P.out.2.2.2.1 P.out.2.2.2.2
             replace hl5 : (Instr.lookup 132 (.map (some w1.heap.size)) (.agg #[.int .i64 y1,.int .i64 y2]) true).run Try.prog w5 = .ok (.tuple #[v,.bool true]) w5:=hl5 0
             have HI2:=Aside0.mk h
             have w1e:=W1.out
             clear h hf HI'
             go_wp2
             go_roundg q3
             case measure=>exact M.out
             case rel=>exact ⟨s + 1,kn2,q3,Nat.le_refl _,by first|rfl|(rw [w1e];rfl),HN,HI2,HQ5,ST5,BX5⟩
           ·rw [if_neg c6] at h;cases h
          ·rw [if_neg c5] at h
           injection h with h
           subst h
           have c5b : decide ((s : Int) < a0_1) = false:=decide_eq_false c5
           have hq0:=HQ.out
           rw [List.drop_eq_getElem_cons HN.out,List.map_cons] at hq0
           obtain ⟨A8,c8,A9,c9,rfl,hc8,hcut,hq9⟩:=least_Apart.q_next hq0
           have HQ9:=Aside0.mk (Kd.Q_mono (ok':=fun _=>True) hq9 (fun _ _=>trivial))
           have HQL:=Aside0.mk hq
           clear c5 HI hq2 hq0 hq9 HQ hq
           generalize hys2 : (kn2.drop (n + 1)).map (fun x=>(x.1,x.2.1)) = ys2 at *
           go_wp2
           go_roundg q1
           case measure=>have:=HQL.out;omega
           case rel=>exact ⟨n + 1,kn2,q1,Nat.le_refl _,H,⟨by rw [hys2];exact HQ9.out⟩,ST⟩
       ·rw [if_neg c4] at h
        obtain ⟨wd,hwd,h⟩:=Option.bind_eq_some_iff.mp h
        have HW:=Aside0.mk hwd
        injection h with h
        injection h with h1 h2
        subst h1 h2
        have c4b : (Go.bits .and .u32 (a0_4 / 2 ^ min x1.toNat 32) 1 != Go.bits .and .u32 (a1_4 / 2 ^ min x2.toNat 32) 1) = true:=bne_iff_ne.2 c4
        clear hwd c4 hq
        go_wp2
        rw [← hw3] at *
        clear hw3 hfa hfb hq1 hq2
        generalize wr.heap.size = px at *
        have k0 : w3.cell? ⟨w.heap.size,4,none⟩ = some (.int .u32 a0_4):=(blk_cell ST3.out.a 4).trans (by rw [CA.out.1];rfl)
        have k1 : w3.cell? ⟨w.heap.size + 1,4,none⟩ = some (.int .u32 a1_4):=(blk_cell ST3.out.b 4).trans (by rw [CA.out.2];rfl)
        have k2 : w3.cell? ⟨px,0,none⟩ = some (.int .i64 x1):=(blk_cell BX3.out 0).trans rfl
        have k3 : w3.cell? ⟨px,1,none⟩ = some (.int .i64 x2):=(blk_cell BX3.out 1).trans rfl
        obtain ⟨v,hl0,hl1,hvr⟩:=ST3.out.says.look HW.out C3.out.1 C3.out.2.1 C3.out.2.2.1 C3.out.2.2.2
        have HV:=Aside0.mk hvr
        clear hvr hl1
        go_quiet (fail)
        go_wp2
        go_ret2
        exact ⟨_,rfl,Kd.R_drewN HV.out _,pw_below_drewN ST3.out.below _⟩
      ·exact absurd h (by simp only [if_neg c3];simp)
  ·rw [if_neg c2] at h;cases h
 ·rw [if_neg c] at h
  injection h with h
  injection h with h1 h2
  subst h1 h2
  have cb : (e0 != 0) = true:=bne_iff_ne.2 c
  clear c
  go_enter Try.func33,Try.ntmps33
  go_wp2_with (go_at_call 80;refine (least_wrong.calls k a0_0 a0_1 A0_2 c0_2 l0_2 a0_3 a0_4 a1_0 a1_1 A1_2 c1_2 l1_2 a1_3 a1_4 e0 _ (Kd.C_alloc (Kd.C_alloc HR0.out _) _) HC0.out (Kd.C_alloc (Kd.C_alloc HR1.out _) _) HC1.out HWR.out).mono ?_;rintro e w1 ⟨rfl,hb⟩;have HB1:=Aside0.mk (below_step (below_alloc (below_alloc (Below.refl _ w) _) _) hb);clear hb)
  go_ret2
  exact ⟨_,rfl,Kd.R_nil _ _ _ _ _,HB1.out⟩
end Go.Proofs.Ythgiiikjcfhgjaa.GV
