-- Written by ext.py, a program of this session.
import Derived.Test.YteppbihlpicjpaaGM0
namespace Go.Proofs.Yteppbihlpicjpaa.GM
open Go.RowKit Go.Proofs.YteppbihlpicjpaaW.PrintWords Go.Proofs.YteppbihlpicjpaaW.PrintLast Go.Proofs.YteppbihlpicjpaaW.PrintMore
attribute [local go_sem] max2_int min2_int max_two min_two max_three min_three max_four min_four cellIs_set   -- for this text's walks alone
set_option linter.unusedVariables false
set_option linter.unusedSimpArgs false
/-! ### kinds_still: function 16 -/
def kinds_still.f : Option (Int × Int × Int × Int × Int × Int × Int):=some (0,1,2,3,4,5,6)
set_option maxHeartbeats 8000000 in
set_option maxRecDepth 100000 in
theorem kinds_still.calls  (r1 : Int) (r2 : Int) (r3 : Int) (r4 : Int) (r5 : Int) (r6 : Int) (r7 : Int) (w : World) (h : kinds_still.f  = some (r1,r2,r3,r4,r5,r6,r7)) :
  Calls Try.prog 16 #[] w fun e w'=>e = .returned (.agg #[.int .i64 r1,.int .i64 r2,.int .i64 r3,.int .i64 r4,.int .i64 r5,.int .i64 r6,.int .i64 r7]) ∧ Below w.heap.size w w':=by
 unfold kinds_still.f at h
 simp only [Option.some.injEq,Prod.mk.injEq] at h
 obtain ⟨rfl,rfl,rfl,rfl,rfl,rfl,rfl⟩:=h
 go_enter Try.func16,Try.ntmps16
 go_wp2
 refine wp_loop_rounds 8 ?_
 iterate 8 (rw [rounds_succ];go_wp2)
 (try simp only [Exit.inBlock,Exit.then])
 refine bodyPost_ret (results_cell_row rfl _ _ w.heap.size 44 #[.int .i64 0,.int .i64 1,.int .i64 2,.int .i64 3,.int .i64 4,.int .i64 5,.int .i64 6] (0,0) _ rfl ?hg Try.underlying44 rfl (by kernel_rfl)) rfl ?_
 case hg =>
  rw [Below.heap_alloc _ _ _ (by rw [World.size_alloc];exact Nat.lt_succ_self _)]
  exact Array.getElem?_push_size
 exact ⟨rfl,by repeat (first|exact Below.refl _ _|apply below_alloc|apply pw_below_drewN)⟩
/-! ### kinds_move_then: function 17 -/
def kinds_move_then.at (b0 b1 b2 b3 b4 b5 b6 : Int) (j : Int) : Int:=[b0,b1,b2,b3,b4,b5,b6].getD j.toNat 0
def kinds_move_then.f (a0 a1 a2 a3 a4 a5 a6 b0 b1 b2 b3 b4 b5 b6 : Int) : Option (Int × Int × Int × Int × Int × Int × Int):=if (0 ≤ a0 ∧ a0 < 7) ∧ (0 ≤ a1 ∧ a1 < 7) ∧ (0 ≤ a2 ∧ a2 < 7) ∧ (0 ≤ a3 ∧ a3 < 7) ∧ (0 ≤ a4 ∧ a4 < 7) ∧ (0 ≤ a5 ∧ a5 < 7) ∧ (0 ≤ a6 ∧ a6 < 7) then some (kinds_move_then.at b0 b1 b2 b3 b4 b5 b6 a0,kinds_move_then.at b0 b1 b2 b3 b4 b5 b6 a1,kinds_move_then.at b0 b1 b2 b3 b4 b5 b6 a2,kinds_move_then.at b0 b1 b2 b3 b4 b5 b6 a3,kinds_move_then.at b0 b1 b2 b3 b4 b5 b6 a4,kinds_move_then.at b0 b1 b2 b3 b4 b5 b6 a5,kinds_move_then.at b0 b1 b2 b3 b4 b5 b6 a6) else none
theorem kinds_move_then.idx {P : Program} {w : World} (t e : TypeId) (n : Nat) (ti : TypeInfo) (cs : Array Value) (k : IntKind) (i : Int) (v : Value) (h : P.underlying t = some (.array n e)) (he : P.info? e = some ti) (h1 : P.cellsOf e = 1) (ha : (isAgg e).run P w = .ok false w) (hi : 0 ≤ i ∧ i < (n : Int)) (hv : cs[i.toNat]? = some v) :
  (Instr.index t (.agg cs) (.int k i)).run P w = .ok v w:=by
 simp [Instr.index,run_underlying h,asIntOf,hi,run_sizeOf w he,h1,part,ha,hv]
set_option maxHeartbeats 8000000 in
set_option maxRecDepth 100000 in
theorem kinds_move_then.calls (a0_0 : Int) (a0_1 : Int) (a0_2 : Int) (a0_3 : Int) (a0_4 : Int) (a0_5 : Int) (a0_6 : Int) (a1_0 : Int) (a1_1 : Int) (a1_2 : Int) (a1_3 : Int) (a1_4 : Int) (a1_5 : Int) (a1_6 : Int) (r1 : Int) (r2 : Int) (r3 : Int) (r4 : Int) (r5 : Int) (r6 : Int) (r7 : Int) (w : World) (h : kinds_move_then.f a0_0 a0_1 a0_2 a0_3 a0_4 a0_5 a0_6 a1_0 a1_1 a1_2 a1_3 a1_4 a1_5 a1_6 = some (r1,r2,r3,r4,r5,r6,r7)) :
  Calls Try.prog 17 #[.agg #[.int .i64 a0_0,.int .i64 a0_1,.int .i64 a0_2,.int .i64 a0_3,.int .i64 a0_4,.int .i64 a0_5,.int .i64 a0_6],.agg #[.int .i64 a1_0,.int .i64 a1_1,.int .i64 a1_2,.int .i64 a1_3,.int .i64 a1_4,.int .i64 a1_5,.int .i64 a1_6]] w fun e w'=>e = .returned (.agg #[.int .i64 r1,.int .i64 r2,.int .i64 r3,.int .i64 r4,.int .i64 r5,.int .i64 r6,.int .i64 r7]) ∧ Below w.heap.size w w':=by
 unfold kinds_move_then.f at h
 split at h
 ·rename_i hc
  simp only [Option.some.injEq,Prod.mk.injEq] at h
  obtain ⟨rfl,rfl,rfl,rfl,rfl,rfl,rfl⟩:=h
  obtain ⟨⟨p0,q0⟩,⟨p1,q1⟩,⟨p2,q2⟩,⟨p3,q3⟩,⟨p4,q4⟩,⟨p5,q5⟩,p6,q6⟩:=hc
  have hx0 : ∀ w : World,(Instr.index 44 (.agg #[.int .i64 a0_0,.int .i64 a0_1,.int .i64 a0_2,.int .i64 a0_3,.int .i64 a0_4,.int .i64 a0_5,.int .i64 a0_6]) (.int .i64 0)).run Try.prog w = .ok (.int .i64 a0_0) w:=fun w=>kinds_move_then.idx 44 3 7 _ _ _ _ _ Try.underlying44 (by rfl) (by rfl) (by go_simp) (by decide) rfl
  have hx1 : ∀ w : World,(Instr.index 44 (.agg #[.int .i64 a0_0,.int .i64 a0_1,.int .i64 a0_2,.int .i64 a0_3,.int .i64 a0_4,.int .i64 a0_5,.int .i64 a0_6]) (.int .i64 1)).run Try.prog w = .ok (.int .i64 a0_1) w:=fun w=>kinds_move_then.idx 44 3 7 _ _ _ _ _ Try.underlying44 (by rfl) (by rfl) (by go_simp) (by decide) rfl
  have hx2 : ∀ w : World,(Instr.index 44 (.agg #[.int .i64 a0_0,.int .i64 a0_1,.int .i64 a0_2,.int .i64 a0_3,.int .i64 a0_4,.int .i64 a0_5,.int .i64 a0_6]) (.int .i64 2)).run Try.prog w = .ok (.int .i64 a0_2) w:=fun w=>kinds_move_then.idx 44 3 7 _ _ _ _ _ Try.underlying44 (by rfl) (by rfl) (by go_simp) (by decide) rfl
  have hx3 : ∀ w : World,(Instr.index 44 (.agg #[.int .i64 a0_0,.int .i64 a0_1,.int .i64 a0_2,.int .i64 a0_3,.int .i64 a0_4,.int .i64 a0_5,.int .i64 a0_6]) (.int .i64 3)).run Try.prog w = .ok (.int .i64 a0_3) w:=fun w=>kinds_move_then.idx 44 3 7 _ _ _ _ _ Try.underlying44 (by rfl) (by rfl) (by go_simp) (by decide) rfl
  have hx4 : ∀ w : World,(Instr.index 44 (.agg #[.int .i64 a0_0,.int .i64 a0_1,.int .i64 a0_2,.int .i64 a0_3,.int .i64 a0_4,.int .i64 a0_5,.int .i64 a0_6]) (.int .i64 4)).run Try.prog w = .ok (.int .i64 a0_4) w:=fun w=>kinds_move_then.idx 44 3 7 _ _ _ _ _ Try.underlying44 (by rfl) (by rfl) (by go_simp) (by decide) rfl
  have hx5 : ∀ w : World,(Instr.index 44 (.agg #[.int .i64 a0_0,.int .i64 a0_1,.int .i64 a0_2,.int .i64 a0_3,.int .i64 a0_4,.int .i64 a0_5,.int .i64 a0_6]) (.int .i64 5)).run Try.prog w = .ok (.int .i64 a0_5) w:=fun w=>kinds_move_then.idx 44 3 7 _ _ _ _ _ Try.underlying44 (by rfl) (by rfl) (by go_simp) (by decide) rfl
  have hx6 : ∀ w : World,(Instr.index 44 (.agg #[.int .i64 a0_0,.int .i64 a0_1,.int .i64 a0_2,.int .i64 a0_3,.int .i64 a0_4,.int .i64 a0_5,.int .i64 a0_6]) (.int .i64 6)).run Try.prog w = .ok (.int .i64 a0_6) w:=fun w=>kinds_move_then.idx 44 3 7 _ _ _ _ _ Try.underlying44 (by rfl) (by rfl) (by go_simp) (by decide) rfl
  have hl : ∀ a : Int,0 ≤ a → a < 7 → ∀ h : a.toNat < ([.int .i64 a1_0,.int .i64 a1_1,.int .i64 a1_2,.int .i64 a1_3,.int .i64 a1_4,.int .i64 a1_5,.int .i64 a1_6] : List Value).length,([.int .i64 a1_0,.int .i64 a1_1,.int .i64 a1_2,.int .i64 a1_3,.int .i64 a1_4,.int .i64 a1_5,.int .i64 a1_6] : List Value)[a.toNat]'h = (.int .i64 (kinds_move_then.at a1_0 a1_1 a1_2 a1_3 a1_4 a1_5 a1_6 a)):=by
   intro a h1 h2 h3
   rcases (show a = 0 ∨ a = 1 ∨ a = 2 ∨ a = 3 ∨ a = 4 ∨ a = 5 ∨ a = 6 by omega) with e|e|e|e|e|e|e <;> subst e <;> rfl
  have hb0:=hl a0_0 p0 q0
  have hb1:=hl a0_1 p1 q1
  have hb2:=hl a0_2 p2 q2
  have hb3:=hl a0_3 p3 q3
  have hb4:=hl a0_4 p4 q4
  have hb5:=hl a0_5 p5 q5
  have hb6:=hl a0_6 p6 q6
  clear hl
  go_enter Try.func17,Try.ntmps17
  go_wp2
  refine wp_loop_rounds 8 ?_
  iterate 8 (rw [rounds_succ];go_wp2)
  (try simp only [Exit.inBlock,Exit.then])
  refine bodyPost_ret (results_cell_row rfl _ _ (w.heap.size + 1 + 1) 44 #[.int .i64 (kinds_move_then.at a1_0 a1_1 a1_2 a1_3 a1_4 a1_5 a1_6 a0_0),.int .i64 (kinds_move_then.at a1_0 a1_1 a1_2 a1_3 a1_4 a1_5 a1_6 a0_1),.int .i64 (kinds_move_then.at a1_0 a1_1 a1_2 a1_3 a1_4 a1_5 a1_6 a0_2),.int .i64 (kinds_move_then.at a1_0 a1_1 a1_2 a1_3 a1_4 a1_5 a1_6 a0_3),.int .i64 (kinds_move_then.at a1_0 a1_1 a1_2 a1_3 a1_4 a1_5 a1_6 a0_4),.int .i64 (kinds_move_then.at a1_0 a1_1 a1_2 a1_3 a1_4 a1_5 a1_6 a0_5),.int .i64 (kinds_move_then.at a1_0 a1_1 a1_2 a1_3 a1_4 a1_5 a1_6 a0_6)] (0,0) _ rfl ?hg Try.underlying44 rfl (by kernel_rfl)) rfl ?_
  case hg =>
   refine Eq.trans (congrArg (fun n=>(World.heap _)[n]?) ?_) Array.getElem?_push_size
   simp
  exact ⟨rfl,by repeat (first|exact Below.refl _ _|apply below_alloc|apply pw_below_drewN)⟩
 ·exact absurd h (by simp)
end Go.Proofs.Yteppbihlpicjpaa.GM
