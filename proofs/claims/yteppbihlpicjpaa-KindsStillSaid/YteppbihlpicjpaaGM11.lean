-- Written by ext.py, a program of this session.
import Derived.Test.YteppbihlpicjpaaGM0
import Derived.Test.YteppbihlpicjpaaGM10
namespace Go.Proofs.Yteppbihlpicjpaa.GM
open Go.RowKit Go.Proofs.YteppbihlpicjpaaW.PrintWords Go.Proofs.YteppbihlpicjpaaW.PrintLast Go.Proofs.YteppbihlpicjpaaW.PrintMore
attribute [local go_sem] max2_int min2_int max_two min_two max_three min_three max_four min_four cellIs_set   -- for this text's walks alone
set_option linter.unusedVariables false
set_option linter.unusedSimpArgs false
/-! ### kinds_by: function 18 -/
def kinds_by.at (n : Int) (xs : List (List Int)) (s : Int) (i : Nat) : Int:=if (i : Int) < n then (xs.getD i []).getD s.toNat 0 else (i : Int)
def kinds_by.f (m0 m1 : Int) (m2 : List (List Int)) (m3 m4 s : Int) : Option (Int × Int × Int × Int × Int × Int × Int):=if m0 ≤ 7 ∧ m0 ≤ (m2.length : Int) ∧ (m2.take m0.toNat).all (fun r=>decide (0 ≤ s) && decide (s < (r.length : Int))) = true then some (kinds_by.at m0 m2 s 0,kinds_by.at m0 m2 s 1,kinds_by.at m0 m2 s 2,kinds_by.at m0 m2 s 3,kinds_by.at m0 m2 s 4,kinds_by.at m0 m2 s 5,kinds_by.at m0 m2 s 6) else none
set_option maxHeartbeats 8000000 in
set_option maxRecDepth 100000 in
theorem kinds_by.calls (a0_0 : Int) (a0_1 : Int) (A0_2 : Option Addr) (c0_2 : Nat) (l0_2 : List (List Int)) (a0_3 : Int) (a0_4 : Int) (a1 : Int) (r1 : Int) (r2 : Int) (r3 : Int) (r4 : Int) (r5 : Int) (r6 : Int) (r7 : Int) (w : World) (hr0_2 : Kd.C (Kd.slice 3 (Kd.int .i64)) w A0_2 l0_2.length l0_2) (hc0_2 : l0_2.length ≤ c0_2) (h : kinds_by.f a0_0 a0_1 l0_2 a0_3 a0_4 a1 = some (r1,r2,r3,r4,r5,r6,r7)) :
  Calls Try.prog 18 #[.agg #[.int .i64 a0_0,.int .i64 a0_1,.slice A0_2 l0_2.length c0_2,.int .i64 a0_3,.int .u32 a0_4],.int .i64 a1] w fun e w'=>e = .returned (.agg #[.int .i64 r1,.int .i64 r2,.int .i64 r3,.int .i64 r4,.int .i64 r5,.int .i64 r6,.int .i64 r7]) ∧ Below w.heap.size w w':=by
 unfold kinds_by.f at h
 split at h
 ·rename_i hc
  simp only [Option.some.injEq,Prod.mk.injEq] at h
  obtain ⟨rfl,rfl,rfl,rfl,rfl,rfl,rfl⟩:=h
  obtain ⟨hn,hm,ha⟩:=hc
  have hel : ∀ i : Nat,(i : Int) < a0_0 → ∃ (ad : Addr) (A0 : Addr) (c0 : Nat) (B : Int),A0_2 = some ad ∧ w.cell? (Addr.add ad i) = some (.slice (some A0) (l0_2.getD i []).length c0) ∧ 0 ≤ a1 ∧ a1 < ((l0_2.getD i []).length : Int) ∧ w.cell? (A0.add a1.toNat) = some (.int .i64 B) ∧ B = (l0_2.getD i []).getD a1.toNat 0:=by
   intro i hi
   obtain ⟨ad,A,c,e1,x1,_,g1⟩:=at_L1 hr0_2 (i : Int) (by omega) (by omega)
   have hmem : (l0_2.getD i []) ∈ l0_2.take a0_0.toNat:=by
    have hlt : i < l0_2.length:=by omega
    rw [List.getD_eq_getElem?_getD,List.getElem?_eq_getElem hlt,Option.getD_some]
    exact List.mem_take_iff_getElem.mpr ⟨i,by omega,rfl⟩
   have hs:=(List.all_eq_true.mp ha) _ hmem
   simp only [Bool.and_eq_true,decide_eq_true_eq] at hs
   obtain ⟨A0,e2,x2⟩:=Kd.at_int g1 a1 hs.1 hs.2
   subst e2
   exact ⟨ad,A0,c,_,e1,by simpa [rd_L1] using x1,hs.1,hs.2,x2,rfl⟩
  go_enter Try.func18,Try.ntmps18
  go_wp2_with (go_at_call 16;(with_reducible refine (kinds_still.calls 0 1 2 3 4 5 6 _ rfl).mono ?_);rintro e w' ⟨rfl,hb⟩;have hcl0 : ∀ o : Obj,(w'.alloc o).cell? ⟨w.heap.size,0,none⟩ = some (.int .i64 a0_0):=(fun o=>Lib.cell?_alloc_some _ ((hb.cell (p:=⟨w.heap.size,0,none⟩) (by simp;omega)).trans (by simp)));have hcl2 : ∀ o : Obj,(w'.alloc o).cell? ⟨w.heap.size,2,none⟩ = some (.slice A0_2 l0_2.length c0_2):=(fun o=>Lib.cell?_alloc_some _ ((hb.cell (p:=⟨w.heap.size,2,none⟩) (by simp;omega)).trans (by simp))))
  have hww : ∀ (p : Addr) (v : Value),w.cell? p = some v → ∀ o : Obj,(w'.alloc o).cell? p = some v:=fun p v hp o=>Lib.cell?_alloc_some _ ((hb.cell (by have:=World.block_lt_of_cell? w _ hp;simp;omega)).trans (Lib.cell?_alloc_some _ (Lib.cell?_alloc_some _ hp)))
  have hres : ∀ o : Obj,(w'.alloc o).heap[w.heap.size + 1]? = some (.cells #[.int .i64 0,.int .i64 0,.int .i64 0,.int .i64 0,.int .i64 0,.int .i64 0,.int .i64 0] 44 (0,0)):=fun o=>blk_alloc (blk_below (by rw [show w.heap.size + 1 = (w.alloc (Obj.cells #[Value.int IntKind.i64 a0_0,Value.int IntKind.i64 a0_1,Value.slice A0_2 l0_2.length c0_2,Value.int IntKind.i64 a0_3,Value.int IntKind.u32 a0_4] 25)).heap.size by simp];exact blk_new _ _) hb) o
  have hbw : Below w.heap.size w w':=Below.trans (below_alloc (below_alloc (Below.refl _ _) _) _) (Below.mono hb (by simp;omega))
  by_cases h3 : a0_0 = 1
  ·subst h3
   obtain ⟨ad,A0,c0,B0,rfl,x0,p0,q0,y0,z0⟩:=hel 0 (by decide)
   replace x0:=hww _ _ x0
   replace y0:=hww _ _ y0
   have hm0 : (0:Int) < (l0_2.length : Int):=by omega
   simp only [show ad.add 0 = ad by simp [Addr.add]] at x0
   clear hww hel
   have hrc0:=fun o=>blk_cell (hres o) 0
   have hrf0:=fun o=>blk_frozen (hres o) 0
   simp at hrc0
   have hrc1:=fun o=>blk_cell (hres o) 1
   have hrf1:=fun o=>blk_frozen (hres o) 1
   simp at hrc1
   have hrc2:=fun o=>blk_cell (hres o) 2
   have hrf2:=fun o=>blk_frozen (hres o) 2
   simp at hrc2
   have hrc3:=fun o=>blk_cell (hres o) 3
   have hrf3:=fun o=>blk_frozen (hres o) 3
   simp at hrc3
   have hrc4:=fun o=>blk_cell (hres o) 4
   have hrf4:=fun o=>blk_frozen (hres o) 4
   simp at hrc4
   have hrc5:=fun o=>blk_cell (hres o) 5
   have hrf5:=fun o=>blk_frozen (hres o) 5
   simp at hrc5
   have hrc6:=fun o=>blk_cell (hres o) 6
   have hrf6:=fun o=>blk_frozen (hres o) 6
   simp at hrc6
   generalize hr0 : l0_2.getD 0 [] = r0 at x0 q0 z0
   replace z0:=Aside0.mk z0
   refine wp_loop_rounds 2 ?_
   rw [rounds_succ];go_wp2
   rw [rounds_succ];go_wp2
   (try simp only [Exit.inBlock,Exit.then])
   have hfin : ∀ o : Obj,((((((((w'.alloc o).setCell ⟨w.heap.size + 1,0,none⟩ (.int .i64 B0)).setCell ⟨w.heap.size + 1,1,none⟩ (.int .i64 (1 : Int))).setCell ⟨w.heap.size + 1,2,none⟩ (.int .i64 (2 : Int))).setCell ⟨w.heap.size + 1,3,none⟩ (.int .i64 (3 : Int))).setCell ⟨w.heap.size + 1,4,none⟩ (.int .i64 (4 : Int))).setCell ⟨w.heap.size + 1,5,none⟩ (.int .i64 (5 : Int))).setCell ⟨w.heap.size + 1,6,none⟩ (.int .i64 (6 : Int))).heap[w.heap.size + 1]? = some (.cells #[.int .i64 B0,.int .i64 1,.int .i64 2,.int .i64 3,.int .i64 4,.int .i64 5,.int .i64 6] 44 (0,0)):=by
    intro o
    refine blk_put (cs:=#[.int .i64 B0,.int .i64 1,.int .i64 2,.int .i64 3,.int .i64 4,.int .i64 5,.int .i64 0]) ?_ 6 _ rfl
    refine blk_put (cs:=#[.int .i64 B0,.int .i64 1,.int .i64 2,.int .i64 3,.int .i64 4,.int .i64 0,.int .i64 0]) ?_ 5 _ rfl
    refine blk_put (cs:=#[.int .i64 B0,.int .i64 1,.int .i64 2,.int .i64 3,.int .i64 0,.int .i64 0,.int .i64 0]) ?_ 4 _ rfl
    refine blk_put (cs:=#[.int .i64 B0,.int .i64 1,.int .i64 2,.int .i64 0,.int .i64 0,.int .i64 0,.int .i64 0]) ?_ 3 _ rfl
    refine blk_put (cs:=#[.int .i64 B0,.int .i64 1,.int .i64 0,.int .i64 0,.int .i64 0,.int .i64 0,.int .i64 0]) ?_ 2 _ rfl
    refine blk_put (cs:=#[.int .i64 B0,.int .i64 0,.int .i64 0,.int .i64 0,.int .i64 0,.int .i64 0,.int .i64 0]) ?_ 1 _ rfl
    refine blk_put (cs:=#[.int .i64 0,.int .i64 0,.int .i64 0,.int .i64 0,.int .i64 0,.int .i64 0,.int .i64 0]) ?_ 0 _ rfl
    exact hres _
   have hR:=results_cell_row (P:=Try.prog) (fn:=Try.f18) (p:=4) (ty:=44) rfl
   refine bodyPost_ret (hR _ _ (w.heap.size + 1) 44 #[.int .i64 B0,.int .i64 1,.int .i64 2,.int .i64 3,.int .i64 4,.int .i64 5,.int .i64 6] (0,0) _ rfl (hfin _) Try.underlying44 rfl (by kernel_rfl)) rfl ?_
   refine ⟨?_,by repeat (first|with_reducible exact hbw|with_reducible apply below_alloc|with_reducible refine below_set ?_ (by simp))⟩
   simp [kinds_by.at,z0.out,← hr0]
  by_cases h3 : a0_0 = 2
  ·subst h3
   obtain ⟨ad,A0,c0,B0,rfl,x0,p0,q0,y0,z0⟩:=hel 0 (by decide)
   obtain ⟨_,A1,c1,B1,e1,x1,_,q1,y1,z1⟩:=hel 1 (by decide)
   cases e1
   replace x0:=hww _ _ x0
   replace y0:=hww _ _ y0
   have hm0 : (0:Int) < (l0_2.length : Int):=by omega
   replace x1:=hww _ _ x1
   replace y1:=hww _ _ y1
   have hm1 : (1:Int) < (l0_2.length : Int):=by omega
   simp only [show ad.add 0 = ad by simp [Addr.add]] at x0
   simp only [show ad.add 1 = ⟨ad.block,ad.off + 1,none⟩ by simp [Addr.add]] at x1
   clear hww hel
   have hrc0:=fun o=>blk_cell (hres o) 0
   have hrf0:=fun o=>blk_frozen (hres o) 0
   simp at hrc0
   have hrc1:=fun o=>blk_cell (hres o) 1
   have hrf1:=fun o=>blk_frozen (hres o) 1
   simp at hrc1
   have hrc2:=fun o=>blk_cell (hres o) 2
   have hrf2:=fun o=>blk_frozen (hres o) 2
   simp at hrc2
   have hrc3:=fun o=>blk_cell (hres o) 3
   have hrf3:=fun o=>blk_frozen (hres o) 3
   simp at hrc3
   have hrc4:=fun o=>blk_cell (hres o) 4
   have hrf4:=fun o=>blk_frozen (hres o) 4
   simp at hrc4
   have hrc5:=fun o=>blk_cell (hres o) 5
   have hrf5:=fun o=>blk_frozen (hres o) 5
   simp at hrc5
   have hrc6:=fun o=>blk_cell (hres o) 6
   have hrf6:=fun o=>blk_frozen (hres o) 6
   simp at hrc6
   generalize hr0 : l0_2.getD 0 [] = r0 at x0 q0 z0
   generalize hr1 : l0_2.getD 1 [] = r1 at x1 q1 z1
   replace z0:=Aside0.mk z0
   replace z1:=Aside0.mk z1
   refine wp_loop_rounds 3 ?_
   rw [rounds_succ];go_wp2
   rw [rounds_succ];go_wp2
   rw [rounds_succ];go_wp2
   (try simp only [Exit.inBlock,Exit.then])
   have hfin : ∀ o : Obj,((((((((w'.alloc o).setCell ⟨w.heap.size + 1,0,none⟩ (.int .i64 B0)).setCell ⟨w.heap.size + 1,1,none⟩ (.int .i64 B1)).setCell ⟨w.heap.size + 1,2,none⟩ (.int .i64 (2 : Int))).setCell ⟨w.heap.size + 1,3,none⟩ (.int .i64 (3 : Int))).setCell ⟨w.heap.size + 1,4,none⟩ (.int .i64 (4 : Int))).setCell ⟨w.heap.size + 1,5,none⟩ (.int .i64 (5 : Int))).setCell ⟨w.heap.size + 1,6,none⟩ (.int .i64 (6 : Int))).heap[w.heap.size + 1]? = some (.cells #[.int .i64 B0,.int .i64 B1,.int .i64 2,.int .i64 3,.int .i64 4,.int .i64 5,.int .i64 6] 44 (0,0)):=by
    intro o
    refine blk_put (cs:=#[.int .i64 B0,.int .i64 B1,.int .i64 2,.int .i64 3,.int .i64 4,.int .i64 5,.int .i64 0]) ?_ 6 _ rfl
    refine blk_put (cs:=#[.int .i64 B0,.int .i64 B1,.int .i64 2,.int .i64 3,.int .i64 4,.int .i64 0,.int .i64 0]) ?_ 5 _ rfl
    refine blk_put (cs:=#[.int .i64 B0,.int .i64 B1,.int .i64 2,.int .i64 3,.int .i64 0,.int .i64 0,.int .i64 0]) ?_ 4 _ rfl
    refine blk_put (cs:=#[.int .i64 B0,.int .i64 B1,.int .i64 2,.int .i64 0,.int .i64 0,.int .i64 0,.int .i64 0]) ?_ 3 _ rfl
    refine blk_put (cs:=#[.int .i64 B0,.int .i64 B1,.int .i64 0,.int .i64 0,.int .i64 0,.int .i64 0,.int .i64 0]) ?_ 2 _ rfl
    refine blk_put (cs:=#[.int .i64 B0,.int .i64 0,.int .i64 0,.int .i64 0,.int .i64 0,.int .i64 0,.int .i64 0]) ?_ 1 _ rfl
    refine blk_put (cs:=#[.int .i64 0,.int .i64 0,.int .i64 0,.int .i64 0,.int .i64 0,.int .i64 0,.int .i64 0]) ?_ 0 _ rfl
    exact hres _
   have hR:=results_cell_row (P:=Try.prog) (fn:=Try.f18) (p:=4) (ty:=44) rfl
   refine bodyPost_ret (hR _ _ (w.heap.size + 1) 44 #[.int .i64 B0,.int .i64 B1,.int .i64 2,.int .i64 3,.int .i64 4,.int .i64 5,.int .i64 6] (0,0) _ rfl (hfin _) Try.underlying44 rfl (by kernel_rfl)) rfl ?_
   refine ⟨?_,by repeat (first|with_reducible exact hbw|with_reducible apply below_alloc|with_reducible refine below_set ?_ (by simp))⟩
   simp [kinds_by.at,z0.out,← hr0,z1.out,← hr1]
  by_cases h3 : a0_0 = 3
  ·subst h3
   obtain ⟨ad,A0,c0,B0,rfl,x0,p0,q0,y0,z0⟩:=hel 0 (by decide)
   obtain ⟨_,A1,c1,B1,e1,x1,_,q1,y1,z1⟩:=hel 1 (by decide)
   cases e1
   obtain ⟨_,A2,c2,B2,e2,x2,_,q2,y2,z2⟩:=hel 2 (by decide)
   cases e2
   replace x0:=hww _ _ x0
   replace y0:=hww _ _ y0
   have hm0 : (0:Int) < (l0_2.length : Int):=by omega
   replace x1:=hww _ _ x1
   replace y1:=hww _ _ y1
   have hm1 : (1:Int) < (l0_2.length : Int):=by omega
   replace x2:=hww _ _ x2
   replace y2:=hww _ _ y2
   have hm2 : (2:Int) < (l0_2.length : Int):=by omega
   simp only [show ad.add 0 = ad by simp [Addr.add]] at x0
   simp only [show ad.add 1 = ⟨ad.block,ad.off + 1,none⟩ by simp [Addr.add]] at x1
   simp only [show ad.add 2 = ⟨ad.block,ad.off + 2,none⟩ by simp [Addr.add]] at x2
   clear hww hel
   have hrc0:=fun o=>blk_cell (hres o) 0
   have hrf0:=fun o=>blk_frozen (hres o) 0
   simp at hrc0
   have hrc1:=fun o=>blk_cell (hres o) 1
   have hrf1:=fun o=>blk_frozen (hres o) 1
   simp at hrc1
   have hrc2:=fun o=>blk_cell (hres o) 2
   have hrf2:=fun o=>blk_frozen (hres o) 2
   simp at hrc2
   have hrc3:=fun o=>blk_cell (hres o) 3
   have hrf3:=fun o=>blk_frozen (hres o) 3
   simp at hrc3
   have hrc4:=fun o=>blk_cell (hres o) 4
   have hrf4:=fun o=>blk_frozen (hres o) 4
   simp at hrc4
   have hrc5:=fun o=>blk_cell (hres o) 5
   have hrf5:=fun o=>blk_frozen (hres o) 5
   simp at hrc5
   have hrc6:=fun o=>blk_cell (hres o) 6
   have hrf6:=fun o=>blk_frozen (hres o) 6
   simp at hrc6
   generalize hr0 : l0_2.getD 0 [] = r0 at x0 q0 z0
   generalize hr1 : l0_2.getD 1 [] = r1 at x1 q1 z1
   generalize hr2 : l0_2.getD 2 [] = r2 at x2 q2 z2
   replace z0:=Aside0.mk z0
   replace z1:=Aside0.mk z1
   replace z2:=Aside0.mk z2
   refine wp_loop_rounds 4 ?_
   rw [rounds_succ];go_wp2
   rw [rounds_succ];go_wp2
   rw [rounds_succ];go_wp2
   rw [rounds_succ];go_wp2
   (try simp only [Exit.inBlock,Exit.then])
   have hfin : ∀ o : Obj,((((((((w'.alloc o).setCell ⟨w.heap.size + 1,0,none⟩ (.int .i64 B0)).setCell ⟨w.heap.size + 1,1,none⟩ (.int .i64 B1)).setCell ⟨w.heap.size + 1,2,none⟩ (.int .i64 B2)).setCell ⟨w.heap.size + 1,3,none⟩ (.int .i64 (3 : Int))).setCell ⟨w.heap.size + 1,4,none⟩ (.int .i64 (4 : Int))).setCell ⟨w.heap.size + 1,5,none⟩ (.int .i64 (5 : Int))).setCell ⟨w.heap.size + 1,6,none⟩ (.int .i64 (6 : Int))).heap[w.heap.size + 1]? = some (.cells #[.int .i64 B0,.int .i64 B1,.int .i64 B2,.int .i64 3,.int .i64 4,.int .i64 5,.int .i64 6] 44 (0,0)):=by
    intro o
    refine blk_put (cs:=#[.int .i64 B0,.int .i64 B1,.int .i64 B2,.int .i64 3,.int .i64 4,.int .i64 5,.int .i64 0]) ?_ 6 _ rfl
    refine blk_put (cs:=#[.int .i64 B0,.int .i64 B1,.int .i64 B2,.int .i64 3,.int .i64 4,.int .i64 0,.int .i64 0]) ?_ 5 _ rfl
    refine blk_put (cs:=#[.int .i64 B0,.int .i64 B1,.int .i64 B2,.int .i64 3,.int .i64 0,.int .i64 0,.int .i64 0]) ?_ 4 _ rfl
    refine blk_put (cs:=#[.int .i64 B0,.int .i64 B1,.int .i64 B2,.int .i64 0,.int .i64 0,.int .i64 0,.int .i64 0]) ?_ 3 _ rfl
    refine blk_put (cs:=#[.int .i64 B0,.int .i64 B1,.int .i64 0,.int .i64 0,.int .i64 0,.int .i64 0,.int .i64 0]) ?_ 2 _ rfl
    refine blk_put (cs:=#[.int .i64 B0,.int .i64 0,.int .i64 0,.int .i64 0,.int .i64 0,.int .i64 0,.int .i64 0]) ?_ 1 _ rfl
    refine blk_put (cs:=#[.int .i64 0,.int .i64 0,.int .i64 0,.int .i64 0,.int .i64 0,.int .i64 0,.int .i64 0]) ?_ 0 _ rfl
    exact hres _
   have hR:=results_cell_row (P:=Try.prog) (fn:=Try.f18) (p:=4) (ty:=44) rfl
   refine bodyPost_ret (hR _ _ (w.heap.size + 1) 44 #[.int .i64 B0,.int .i64 B1,.int .i64 B2,.int .i64 3,.int .i64 4,.int .i64 5,.int .i64 6] (0,0) _ rfl (hfin _) Try.underlying44 rfl (by kernel_rfl)) rfl ?_
   refine ⟨?_,by repeat (first|with_reducible exact hbw|with_reducible apply below_alloc|with_reducible refine below_set ?_ (by simp))⟩
   simp [kinds_by.at,z0.out,← hr0,z1.out,← hr1,z2.out,← hr2]
  by_cases h3 : a0_0 = 4
  ·subst h3
   obtain ⟨ad,A0,c0,B0,rfl,x0,p0,q0,y0,z0⟩:=hel 0 (by decide)
   obtain ⟨_,A1,c1,B1,e1,x1,_,q1,y1,z1⟩:=hel 1 (by decide)
   cases e1
   obtain ⟨_,A2,c2,B2,e2,x2,_,q2,y2,z2⟩:=hel 2 (by decide)
   cases e2
   obtain ⟨_,A3,c3,B3,e3,x3,_,q3,y3,z3⟩:=hel 3 (by decide)
   cases e3
   replace x0:=hww _ _ x0
   replace y0:=hww _ _ y0
   have hm0 : (0:Int) < (l0_2.length : Int):=by omega
   replace x1:=hww _ _ x1
   replace y1:=hww _ _ y1
   have hm1 : (1:Int) < (l0_2.length : Int):=by omega
   replace x2:=hww _ _ x2
   replace y2:=hww _ _ y2
   have hm2 : (2:Int) < (l0_2.length : Int):=by omega
   replace x3:=hww _ _ x3
   replace y3:=hww _ _ y3
   have hm3 : (3:Int) < (l0_2.length : Int):=by omega
   simp only [show ad.add 0 = ad by simp [Addr.add]] at x0
   simp only [show ad.add 1 = ⟨ad.block,ad.off + 1,none⟩ by simp [Addr.add]] at x1
   simp only [show ad.add 2 = ⟨ad.block,ad.off + 2,none⟩ by simp [Addr.add]] at x2
   simp only [show ad.add 3 = ⟨ad.block,ad.off + 3,none⟩ by simp [Addr.add]] at x3
   clear hww hel
   have hrc0:=fun o=>blk_cell (hres o) 0
   have hrf0:=fun o=>blk_frozen (hres o) 0
   simp at hrc0
   have hrc1:=fun o=>blk_cell (hres o) 1
   have hrf1:=fun o=>blk_frozen (hres o) 1
   simp at hrc1
   have hrc2:=fun o=>blk_cell (hres o) 2
   have hrf2:=fun o=>blk_frozen (hres o) 2
   simp at hrc2
   have hrc3:=fun o=>blk_cell (hres o) 3
   have hrf3:=fun o=>blk_frozen (hres o) 3
   simp at hrc3
   have hrc4:=fun o=>blk_cell (hres o) 4
   have hrf4:=fun o=>blk_frozen (hres o) 4
   simp at hrc4
   have hrc5:=fun o=>blk_cell (hres o) 5
   have hrf5:=fun o=>blk_frozen (hres o) 5
   simp at hrc5
   have hrc6:=fun o=>blk_cell (hres o) 6
   have hrf6:=fun o=>blk_frozen (hres o) 6
   simp at hrc6
   generalize hr0 : l0_2.getD 0 [] = r0 at x0 q0 z0
   generalize hr1 : l0_2.getD 1 [] = r1 at x1 q1 z1
   generalize hr2 : l0_2.getD 2 [] = r2 at x2 q2 z2
   generalize hr3 : l0_2.getD 3 [] = r3 at x3 q3 z3
   replace z0:=Aside0.mk z0
   replace z1:=Aside0.mk z1
   replace z2:=Aside0.mk z2
   replace z3:=Aside0.mk z3
   refine wp_loop_rounds 5 ?_
   rw [rounds_succ];go_wp2
   rw [rounds_succ];go_wp2
   rw [rounds_succ];go_wp2
   rw [rounds_succ];go_wp2
   rw [rounds_succ];go_wp2
   (try simp only [Exit.inBlock,Exit.then])
   have hfin : ∀ o : Obj,((((((((w'.alloc o).setCell ⟨w.heap.size + 1,0,none⟩ (.int .i64 B0)).setCell ⟨w.heap.size + 1,1,none⟩ (.int .i64 B1)).setCell ⟨w.heap.size + 1,2,none⟩ (.int .i64 B2)).setCell ⟨w.heap.size + 1,3,none⟩ (.int .i64 B3)).setCell ⟨w.heap.size + 1,4,none⟩ (.int .i64 (4 : Int))).setCell ⟨w.heap.size + 1,5,none⟩ (.int .i64 (5 : Int))).setCell ⟨w.heap.size + 1,6,none⟩ (.int .i64 (6 : Int))).heap[w.heap.size + 1]? = some (.cells #[.int .i64 B0,.int .i64 B1,.int .i64 B2,.int .i64 B3,.int .i64 4,.int .i64 5,.int .i64 6] 44 (0,0)):=by
    intro o
    refine blk_put (cs:=#[.int .i64 B0,.int .i64 B1,.int .i64 B2,.int .i64 B3,.int .i64 4,.int .i64 5,.int .i64 0]) ?_ 6 _ rfl
    refine blk_put (cs:=#[.int .i64 B0,.int .i64 B1,.int .i64 B2,.int .i64 B3,.int .i64 4,.int .i64 0,.int .i64 0]) ?_ 5 _ rfl
    refine blk_put (cs:=#[.int .i64 B0,.int .i64 B1,.int .i64 B2,.int .i64 B3,.int .i64 0,.int .i64 0,.int .i64 0]) ?_ 4 _ rfl
    refine blk_put (cs:=#[.int .i64 B0,.int .i64 B1,.int .i64 B2,.int .i64 0,.int .i64 0,.int .i64 0,.int .i64 0]) ?_ 3 _ rfl
    refine blk_put (cs:=#[.int .i64 B0,.int .i64 B1,.int .i64 0,.int .i64 0,.int .i64 0,.int .i64 0,.int .i64 0]) ?_ 2 _ rfl
    refine blk_put (cs:=#[.int .i64 B0,.int .i64 0,.int .i64 0,.int .i64 0,.int .i64 0,.int .i64 0,.int .i64 0]) ?_ 1 _ rfl
    refine blk_put (cs:=#[.int .i64 0,.int .i64 0,.int .i64 0,.int .i64 0,.int .i64 0,.int .i64 0,.int .i64 0]) ?_ 0 _ rfl
    exact hres _
   have hR:=results_cell_row (P:=Try.prog) (fn:=Try.f18) (p:=4) (ty:=44) rfl
   refine bodyPost_ret (hR _ _ (w.heap.size + 1) 44 #[.int .i64 B0,.int .i64 B1,.int .i64 B2,.int .i64 B3,.int .i64 4,.int .i64 5,.int .i64 6] (0,0) _ rfl (hfin _) Try.underlying44 rfl (by kernel_rfl)) rfl ?_
   refine ⟨?_,by repeat (first|with_reducible exact hbw|with_reducible apply below_alloc|with_reducible refine below_set ?_ (by simp))⟩
   simp [kinds_by.at,z0.out,← hr0,z1.out,← hr1,z2.out,← hr2,z3.out,← hr3]
  by_cases h3 : a0_0 = 5
  ·subst h3
   obtain ⟨ad,A0,c0,B0,rfl,x0,p0,q0,y0,z0⟩:=hel 0 (by decide)
   obtain ⟨_,A1,c1,B1,e1,x1,_,q1,y1,z1⟩:=hel 1 (by decide)
   cases e1
   obtain ⟨_,A2,c2,B2,e2,x2,_,q2,y2,z2⟩:=hel 2 (by decide)
   cases e2
   obtain ⟨_,A3,c3,B3,e3,x3,_,q3,y3,z3⟩:=hel 3 (by decide)
   cases e3
   obtain ⟨_,A4,c4,B4,e4,x4,_,q4,y4,z4⟩:=hel 4 (by decide)
   cases e4
   replace x0:=hww _ _ x0
   replace y0:=hww _ _ y0
   have hm0 : (0:Int) < (l0_2.length : Int):=by omega
   replace x1:=hww _ _ x1
   replace y1:=hww _ _ y1
   have hm1 : (1:Int) < (l0_2.length : Int):=by omega
   replace x2:=hww _ _ x2
   replace y2:=hww _ _ y2
   have hm2 : (2:Int) < (l0_2.length : Int):=by omega
   replace x3:=hww _ _ x3
   replace y3:=hww _ _ y3
   have hm3 : (3:Int) < (l0_2.length : Int):=by omega
   replace x4:=hww _ _ x4
   replace y4:=hww _ _ y4
   have hm4 : (4:Int) < (l0_2.length : Int):=by omega
   simp only [show ad.add 0 = ad by simp [Addr.add]] at x0
   simp only [show ad.add 1 = ⟨ad.block,ad.off + 1,none⟩ by simp [Addr.add]] at x1
   simp only [show ad.add 2 = ⟨ad.block,ad.off + 2,none⟩ by simp [Addr.add]] at x2
   simp only [show ad.add 3 = ⟨ad.block,ad.off + 3,none⟩ by simp [Addr.add]] at x3
   simp only [show ad.add 4 = ⟨ad.block,ad.off + 4,none⟩ by simp [Addr.add]] at x4
   clear hww hel
   have hrc0:=fun o=>blk_cell (hres o) 0
   have hrf0:=fun o=>blk_frozen (hres o) 0
   simp at hrc0
   have hrc1:=fun o=>blk_cell (hres o) 1
   have hrf1:=fun o=>blk_frozen (hres o) 1
   simp at hrc1
   have hrc2:=fun o=>blk_cell (hres o) 2
   have hrf2:=fun o=>blk_frozen (hres o) 2
   simp at hrc2
   have hrc3:=fun o=>blk_cell (hres o) 3
   have hrf3:=fun o=>blk_frozen (hres o) 3
   simp at hrc3
   have hrc4:=fun o=>blk_cell (hres o) 4
   have hrf4:=fun o=>blk_frozen (hres o) 4
   simp at hrc4
   have hrc5:=fun o=>blk_cell (hres o) 5
   have hrf5:=fun o=>blk_frozen (hres o) 5
   simp at hrc5
   have hrc6:=fun o=>blk_cell (hres o) 6
   have hrf6:=fun o=>blk_frozen (hres o) 6
   simp at hrc6
   generalize hr0 : l0_2.getD 0 [] = r0 at x0 q0 z0
   generalize hr1 : l0_2.getD 1 [] = r1 at x1 q1 z1
   generalize hr2 : l0_2.getD 2 [] = r2 at x2 q2 z2
   generalize hr3 : l0_2.getD 3 [] = r3 at x3 q3 z3
   generalize hr4 : l0_2.getD 4 [] = r4 at x4 q4 z4
   replace z0:=Aside0.mk z0
   replace z1:=Aside0.mk z1
   replace z2:=Aside0.mk z2
   replace z3:=Aside0.mk z3
   replace z4:=Aside0.mk z4
   refine wp_loop_rounds 6 ?_
   rw [rounds_succ];go_wp2
   rw [rounds_succ];go_wp2
   rw [rounds_succ];go_wp2
   rw [rounds_succ];go_wp2
   rw [rounds_succ];go_wp2
   rw [rounds_succ];go_wp2
   (try simp only [Exit.inBlock,Exit.then])
   have hfin : ∀ o : Obj,((((((((w'.alloc o).setCell ⟨w.heap.size + 1,0,none⟩ (.int .i64 B0)).setCell ⟨w.heap.size + 1,1,none⟩ (.int .i64 B1)).setCell ⟨w.heap.size + 1,2,none⟩ (.int .i64 B2)).setCell ⟨w.heap.size + 1,3,none⟩ (.int .i64 B3)).setCell ⟨w.heap.size + 1,4,none⟩ (.int .i64 B4)).setCell ⟨w.heap.size + 1,5,none⟩ (.int .i64 (5 : Int))).setCell ⟨w.heap.size + 1,6,none⟩ (.int .i64 (6 : Int))).heap[w.heap.size + 1]? = some (.cells #[.int .i64 B0,.int .i64 B1,.int .i64 B2,.int .i64 B3,.int .i64 B4,.int .i64 5,.int .i64 6] 44 (0,0)):=by
    intro o
    refine blk_put (cs:=#[.int .i64 B0,.int .i64 B1,.int .i64 B2,.int .i64 B3,.int .i64 B4,.int .i64 5,.int .i64 0]) ?_ 6 _ rfl
    refine blk_put (cs:=#[.int .i64 B0,.int .i64 B1,.int .i64 B2,.int .i64 B3,.int .i64 B4,.int .i64 0,.int .i64 0]) ?_ 5 _ rfl
    refine blk_put (cs:=#[.int .i64 B0,.int .i64 B1,.int .i64 B2,.int .i64 B3,.int .i64 0,.int .i64 0,.int .i64 0]) ?_ 4 _ rfl
    refine blk_put (cs:=#[.int .i64 B0,.int .i64 B1,.int .i64 B2,.int .i64 0,.int .i64 0,.int .i64 0,.int .i64 0]) ?_ 3 _ rfl
    refine blk_put (cs:=#[.int .i64 B0,.int .i64 B1,.int .i64 0,.int .i64 0,.int .i64 0,.int .i64 0,.int .i64 0]) ?_ 2 _ rfl
    refine blk_put (cs:=#[.int .i64 B0,.int .i64 0,.int .i64 0,.int .i64 0,.int .i64 0,.int .i64 0,.int .i64 0]) ?_ 1 _ rfl
    refine blk_put (cs:=#[.int .i64 0,.int .i64 0,.int .i64 0,.int .i64 0,.int .i64 0,.int .i64 0,.int .i64 0]) ?_ 0 _ rfl
    exact hres _
   have hR:=results_cell_row (P:=Try.prog) (fn:=Try.f18) (p:=4) (ty:=44) rfl
   refine bodyPost_ret (hR _ _ (w.heap.size + 1) 44 #[.int .i64 B0,.int .i64 B1,.int .i64 B2,.int .i64 B3,.int .i64 B4,.int .i64 5,.int .i64 6] (0,0) _ rfl (hfin _) Try.underlying44 rfl (by kernel_rfl)) rfl ?_
   refine ⟨?_,by repeat (first|with_reducible exact hbw|with_reducible apply below_alloc|with_reducible refine below_set ?_ (by simp))⟩
   simp [kinds_by.at,z0.out,← hr0,z1.out,← hr1,z2.out,← hr2,z3.out,← hr3,z4.out,← hr4]
  by_cases h3 : a0_0 = 6
  ·subst h3
   obtain ⟨ad,A0,c0,B0,rfl,x0,p0,q0,y0,z0⟩:=hel 0 (by decide)
   obtain ⟨_,A1,c1,B1,e1,x1,_,q1,y1,z1⟩:=hel 1 (by decide)
   cases e1
   obtain ⟨_,A2,c2,B2,e2,x2,_,q2,y2,z2⟩:=hel 2 (by decide)
   cases e2
   obtain ⟨_,A3,c3,B3,e3,x3,_,q3,y3,z3⟩:=hel 3 (by decide)
   cases e3
   obtain ⟨_,A4,c4,B4,e4,x4,_,q4,y4,z4⟩:=hel 4 (by decide)
   cases e4
   obtain ⟨_,A5,c5,B5,e5,x5,_,q5,y5,z5⟩:=hel 5 (by decide)
   cases e5
   replace x0:=hww _ _ x0
   replace y0:=hww _ _ y0
   have hm0 : (0:Int) < (l0_2.length : Int):=by omega
   replace x1:=hww _ _ x1
   replace y1:=hww _ _ y1
   have hm1 : (1:Int) < (l0_2.length : Int):=by omega
   replace x2:=hww _ _ x2
   replace y2:=hww _ _ y2
   have hm2 : (2:Int) < (l0_2.length : Int):=by omega
   replace x3:=hww _ _ x3
   replace y3:=hww _ _ y3
   have hm3 : (3:Int) < (l0_2.length : Int):=by omega
   replace x4:=hww _ _ x4
   replace y4:=hww _ _ y4
   have hm4 : (4:Int) < (l0_2.length : Int):=by omega
   replace x5:=hww _ _ x5
   replace y5:=hww _ _ y5
   have hm5 : (5:Int) < (l0_2.length : Int):=by omega
   simp only [show ad.add 0 = ad by simp [Addr.add]] at x0
   simp only [show ad.add 1 = ⟨ad.block,ad.off + 1,none⟩ by simp [Addr.add]] at x1
   simp only [show ad.add 2 = ⟨ad.block,ad.off + 2,none⟩ by simp [Addr.add]] at x2
   simp only [show ad.add 3 = ⟨ad.block,ad.off + 3,none⟩ by simp [Addr.add]] at x3
   simp only [show ad.add 4 = ⟨ad.block,ad.off + 4,none⟩ by simp [Addr.add]] at x4
   simp only [show ad.add 5 = ⟨ad.block,ad.off + 5,none⟩ by simp [Addr.add]] at x5
   clear hww hel
   have hrc0:=fun o=>blk_cell (hres o) 0
   have hrf0:=fun o=>blk_frozen (hres o) 0
   simp at hrc0
   have hrc1:=fun o=>blk_cell (hres o) 1
   have hrf1:=fun o=>blk_frozen (hres o) 1
   simp at hrc1
   have hrc2:=fun o=>blk_cell (hres o) 2
   have hrf2:=fun o=>blk_frozen (hres o) 2
   simp at hrc2
   have hrc3:=fun o=>blk_cell (hres o) 3
   have hrf3:=fun o=>blk_frozen (hres o) 3
   simp at hrc3
   have hrc4:=fun o=>blk_cell (hres o) 4
   have hrf4:=fun o=>blk_frozen (hres o) 4
   simp at hrc4
   have hrc5:=fun o=>blk_cell (hres o) 5
   have hrf5:=fun o=>blk_frozen (hres o) 5
   simp at hrc5
   have hrc6:=fun o=>blk_cell (hres o) 6
   have hrf6:=fun o=>blk_frozen (hres o) 6
   simp at hrc6
   generalize hr0 : l0_2.getD 0 [] = r0 at x0 q0 z0
   generalize hr1 : l0_2.getD 1 [] = r1 at x1 q1 z1
   generalize hr2 : l0_2.getD 2 [] = r2 at x2 q2 z2
   generalize hr3 : l0_2.getD 3 [] = r3 at x3 q3 z3
   generalize hr4 : l0_2.getD 4 [] = r4 at x4 q4 z4
   generalize hr5 : l0_2.getD 5 [] = r5 at x5 q5 z5
   replace z0:=Aside0.mk z0
   replace z1:=Aside0.mk z1
   replace z2:=Aside0.mk z2
   replace z3:=Aside0.mk z3
   replace z4:=Aside0.mk z4
   replace z5:=Aside0.mk z5
   refine wp_loop_rounds 7 ?_
   rw [rounds_succ];go_wp2
   rw [rounds_succ];go_wp2
   rw [rounds_succ];go_wp2
   rw [rounds_succ];go_wp2
   rw [rounds_succ];go_wp2
   rw [rounds_succ];go_wp2
   rw [rounds_succ];go_wp2
   (try simp only [Exit.inBlock,Exit.then])
   have hfin : ∀ o : Obj,((((((((w'.alloc o).setCell ⟨w.heap.size + 1,0,none⟩ (.int .i64 B0)).setCell ⟨w.heap.size + 1,1,none⟩ (.int .i64 B1)).setCell ⟨w.heap.size + 1,2,none⟩ (.int .i64 B2)).setCell ⟨w.heap.size + 1,3,none⟩ (.int .i64 B3)).setCell ⟨w.heap.size + 1,4,none⟩ (.int .i64 B4)).setCell ⟨w.heap.size + 1,5,none⟩ (.int .i64 B5)).setCell ⟨w.heap.size + 1,6,none⟩ (.int .i64 (6 : Int))).heap[w.heap.size + 1]? = some (.cells #[.int .i64 B0,.int .i64 B1,.int .i64 B2,.int .i64 B3,.int .i64 B4,.int .i64 B5,.int .i64 6] 44 (0,0)):=by
    intro o
    refine blk_put (cs:=#[.int .i64 B0,.int .i64 B1,.int .i64 B2,.int .i64 B3,.int .i64 B4,.int .i64 B5,.int .i64 0]) ?_ 6 _ rfl
    refine blk_put (cs:=#[.int .i64 B0,.int .i64 B1,.int .i64 B2,.int .i64 B3,.int .i64 B4,.int .i64 0,.int .i64 0]) ?_ 5 _ rfl
    refine blk_put (cs:=#[.int .i64 B0,.int .i64 B1,.int .i64 B2,.int .i64 B3,.int .i64 0,.int .i64 0,.int .i64 0]) ?_ 4 _ rfl
    refine blk_put (cs:=#[.int .i64 B0,.int .i64 B1,.int .i64 B2,.int .i64 0,.int .i64 0,.int .i64 0,.int .i64 0]) ?_ 3 _ rfl
    refine blk_put (cs:=#[.int .i64 B0,.int .i64 B1,.int .i64 0,.int .i64 0,.int .i64 0,.int .i64 0,.int .i64 0]) ?_ 2 _ rfl
    refine blk_put (cs:=#[.int .i64 B0,.int .i64 0,.int .i64 0,.int .i64 0,.int .i64 0,.int .i64 0,.int .i64 0]) ?_ 1 _ rfl
    refine blk_put (cs:=#[.int .i64 0,.int .i64 0,.int .i64 0,.int .i64 0,.int .i64 0,.int .i64 0,.int .i64 0]) ?_ 0 _ rfl
    exact hres _
   have hR:=results_cell_row (P:=Try.prog) (fn:=Try.f18) (p:=4) (ty:=44) rfl
   refine bodyPost_ret (hR _ _ (w.heap.size + 1) 44 #[.int .i64 B0,.int .i64 B1,.int .i64 B2,.int .i64 B3,.int .i64 B4,.int .i64 B5,.int .i64 6] (0,0) _ rfl (hfin _) Try.underlying44 rfl (by kernel_rfl)) rfl ?_
   refine ⟨?_,by repeat (first|with_reducible exact hbw|with_reducible apply below_alloc|with_reducible refine below_set ?_ (by simp))⟩
   simp [kinds_by.at,z0.out,← hr0,z1.out,← hr1,z2.out,← hr2,z3.out,← hr3,z4.out,← hr4,z5.out,← hr5]
  by_cases h3 : a0_0 = 7
  ·subst h3
   obtain ⟨ad,A0,c0,B0,rfl,x0,p0,q0,y0,z0⟩:=hel 0 (by decide)
   obtain ⟨_,A1,c1,B1,e1,x1,_,q1,y1,z1⟩:=hel 1 (by decide)
   cases e1
   obtain ⟨_,A2,c2,B2,e2,x2,_,q2,y2,z2⟩:=hel 2 (by decide)
   cases e2
   obtain ⟨_,A3,c3,B3,e3,x3,_,q3,y3,z3⟩:=hel 3 (by decide)
   cases e3
   obtain ⟨_,A4,c4,B4,e4,x4,_,q4,y4,z4⟩:=hel 4 (by decide)
   cases e4
   obtain ⟨_,A5,c5,B5,e5,x5,_,q5,y5,z5⟩:=hel 5 (by decide)
   cases e5
   obtain ⟨_,A6,c6,B6,e6,x6,_,q6,y6,z6⟩:=hel 6 (by decide)
   cases e6
   replace x0:=hww _ _ x0
   replace y0:=hww _ _ y0
   have hm0 : (0:Int) < (l0_2.length : Int):=by omega
   replace x1:=hww _ _ x1
   replace y1:=hww _ _ y1
   have hm1 : (1:Int) < (l0_2.length : Int):=by omega
   replace x2:=hww _ _ x2
   replace y2:=hww _ _ y2
   have hm2 : (2:Int) < (l0_2.length : Int):=by omega
   replace x3:=hww _ _ x3
   replace y3:=hww _ _ y3
   have hm3 : (3:Int) < (l0_2.length : Int):=by omega
   replace x4:=hww _ _ x4
   replace y4:=hww _ _ y4
   have hm4 : (4:Int) < (l0_2.length : Int):=by omega
   replace x5:=hww _ _ x5
   replace y5:=hww _ _ y5
   have hm5 : (5:Int) < (l0_2.length : Int):=by omega
   replace x6:=hww _ _ x6
   replace y6:=hww _ _ y6
   have hm6 : (6:Int) < (l0_2.length : Int):=by omega
   simp only [show ad.add 0 = ad by simp [Addr.add]] at x0
   simp only [show ad.add 1 = ⟨ad.block,ad.off + 1,none⟩ by simp [Addr.add]] at x1
   simp only [show ad.add 2 = ⟨ad.block,ad.off + 2,none⟩ by simp [Addr.add]] at x2
   simp only [show ad.add 3 = ⟨ad.block,ad.off + 3,none⟩ by simp [Addr.add]] at x3
   simp only [show ad.add 4 = ⟨ad.block,ad.off + 4,none⟩ by simp [Addr.add]] at x4
   simp only [show ad.add 5 = ⟨ad.block,ad.off + 5,none⟩ by simp [Addr.add]] at x5
   simp only [show ad.add 6 = ⟨ad.block,ad.off + 6,none⟩ by simp [Addr.add]] at x6
   clear hww hel
   have hrc0:=fun o=>blk_cell (hres o) 0
   have hrf0:=fun o=>blk_frozen (hres o) 0
   simp at hrc0
   have hrc1:=fun o=>blk_cell (hres o) 1
   have hrf1:=fun o=>blk_frozen (hres o) 1
   simp at hrc1
   have hrc2:=fun o=>blk_cell (hres o) 2
   have hrf2:=fun o=>blk_frozen (hres o) 2
   simp at hrc2
   have hrc3:=fun o=>blk_cell (hres o) 3
   have hrf3:=fun o=>blk_frozen (hres o) 3
   simp at hrc3
   have hrc4:=fun o=>blk_cell (hres o) 4
   have hrf4:=fun o=>blk_frozen (hres o) 4
   simp at hrc4
   have hrc5:=fun o=>blk_cell (hres o) 5
   have hrf5:=fun o=>blk_frozen (hres o) 5
   simp at hrc5
   have hrc6:=fun o=>blk_cell (hres o) 6
   have hrf6:=fun o=>blk_frozen (hres o) 6
   simp at hrc6
   generalize hr0 : l0_2.getD 0 [] = r0 at x0 q0 z0
   generalize hr1 : l0_2.getD 1 [] = r1 at x1 q1 z1
   generalize hr2 : l0_2.getD 2 [] = r2 at x2 q2 z2
   generalize hr3 : l0_2.getD 3 [] = r3 at x3 q3 z3
   generalize hr4 : l0_2.getD 4 [] = r4 at x4 q4 z4
   generalize hr5 : l0_2.getD 5 [] = r5 at x5 q5 z5
   generalize hr6 : l0_2.getD 6 [] = r6 at x6 q6 z6
   replace z0:=Aside0.mk z0
   replace z1:=Aside0.mk z1
   replace z2:=Aside0.mk z2
   replace z3:=Aside0.mk z3
   replace z4:=Aside0.mk z4
   replace z5:=Aside0.mk z5
   replace z6:=Aside0.mk z6
   refine wp_loop_rounds 8 ?_
   rw [rounds_succ];go_wp2
   rw [rounds_succ];go_wp2
   rw [rounds_succ];go_wp2
   rw [rounds_succ];go_wp2
   rw [rounds_succ];go_wp2
   rw [rounds_succ];go_wp2
   rw [rounds_succ];go_wp2
   rw [rounds_succ];go_wp2
   (try simp only [Exit.inBlock,Exit.then])
   have hfin : ∀ o : Obj,((((((((w'.alloc o).setCell ⟨w.heap.size + 1,0,none⟩ (.int .i64 B0)).setCell ⟨w.heap.size + 1,1,none⟩ (.int .i64 B1)).setCell ⟨w.heap.size + 1,2,none⟩ (.int .i64 B2)).setCell ⟨w.heap.size + 1,3,none⟩ (.int .i64 B3)).setCell ⟨w.heap.size + 1,4,none⟩ (.int .i64 B4)).setCell ⟨w.heap.size + 1,5,none⟩ (.int .i64 B5)).setCell ⟨w.heap.size + 1,6,none⟩ (.int .i64 B6)).heap[w.heap.size + 1]? = some (.cells #[.int .i64 B0,.int .i64 B1,.int .i64 B2,.int .i64 B3,.int .i64 B4,.int .i64 B5,.int .i64 B6] 44 (0,0)):=by
    intro o
    refine blk_put (cs:=#[.int .i64 B0,.int .i64 B1,.int .i64 B2,.int .i64 B3,.int .i64 B4,.int .i64 B5,.int .i64 0]) ?_ 6 _ rfl
    refine blk_put (cs:=#[.int .i64 B0,.int .i64 B1,.int .i64 B2,.int .i64 B3,.int .i64 B4,.int .i64 0,.int .i64 0]) ?_ 5 _ rfl
    refine blk_put (cs:=#[.int .i64 B0,.int .i64 B1,.int .i64 B2,.int .i64 B3,.int .i64 0,.int .i64 0,.int .i64 0]) ?_ 4 _ rfl
    refine blk_put (cs:=#[.int .i64 B0,.int .i64 B1,.int .i64 B2,.int .i64 0,.int .i64 0,.int .i64 0,.int .i64 0]) ?_ 3 _ rfl
    refine blk_put (cs:=#[.int .i64 B0,.int .i64 B1,.int .i64 0,.int .i64 0,.int .i64 0,.int .i64 0,.int .i64 0]) ?_ 2 _ rfl
    refine blk_put (cs:=#[.int .i64 B0,.int .i64 0,.int .i64 0,.int .i64 0,.int .i64 0,.int .i64 0,.int .i64 0]) ?_ 1 _ rfl
    refine blk_put (cs:=#[.int .i64 0,.int .i64 0,.int .i64 0,.int .i64 0,.int .i64 0,.int .i64 0,.int .i64 0]) ?_ 0 _ rfl
    exact hres _
   have hR:=results_cell_row (P:=Try.prog) (fn:=Try.f18) (p:=4) (ty:=44) rfl
   refine bodyPost_ret (hR _ _ (w.heap.size + 1) 44 #[.int .i64 B0,.int .i64 B1,.int .i64 B2,.int .i64 B3,.int .i64 B4,.int .i64 B5,.int .i64 B6] (0,0) _ rfl (hfin _) Try.underlying44 rfl (by kernel_rfl)) rfl ?_
   refine ⟨?_,by repeat (first|with_reducible exact hbw|with_reducible apply below_alloc|with_reducible refine below_set ?_ (by simp))⟩
   simp [kinds_by.at,z0.out,← hr0,z1.out,← hr1,z2.out,← hr2,z3.out,← hr3,z4.out,← hr4,z5.out,← hr5,z6.out,← hr6]
  have h4 : ¬ (0 < a0_0):=by omega
  clear hww hel
  have hrc0:=fun o=>blk_cell (hres o) 0
  have hrf0:=fun o=>blk_frozen (hres o) 0
  simp at hrc0
  have hrc1:=fun o=>blk_cell (hres o) 1
  have hrf1:=fun o=>blk_frozen (hres o) 1
  simp at hrc1
  have hrc2:=fun o=>blk_cell (hres o) 2
  have hrf2:=fun o=>blk_frozen (hres o) 2
  simp at hrc2
  have hrc3:=fun o=>blk_cell (hres o) 3
  have hrf3:=fun o=>blk_frozen (hres o) 3
  simp at hrc3
  have hrc4:=fun o=>blk_cell (hres o) 4
  have hrf4:=fun o=>blk_frozen (hres o) 4
  simp at hrc4
  have hrc5:=fun o=>blk_cell (hres o) 5
  have hrf5:=fun o=>blk_frozen (hres o) 5
  simp at hrc5
  have hrc6:=fun o=>blk_cell (hres o) 6
  have hrf6:=fun o=>blk_frozen (hres o) 6
  simp at hrc6
  refine wp_loop_rounds 1 ?_
  rw [rounds_succ];go_wp2
  (try simp only [Exit.inBlock,Exit.then])
  have hfin : ∀ o : Obj,((((((((w'.alloc o).setCell ⟨w.heap.size + 1,0,none⟩ (.int .i64 (0 : Int))).setCell ⟨w.heap.size + 1,1,none⟩ (.int .i64 (1 : Int))).setCell ⟨w.heap.size + 1,2,none⟩ (.int .i64 (2 : Int))).setCell ⟨w.heap.size + 1,3,none⟩ (.int .i64 (3 : Int))).setCell ⟨w.heap.size + 1,4,none⟩ (.int .i64 (4 : Int))).setCell ⟨w.heap.size + 1,5,none⟩ (.int .i64 (5 : Int))).setCell ⟨w.heap.size + 1,6,none⟩ (.int .i64 (6 : Int))).heap[w.heap.size + 1]? = some (.cells #[.int .i64 0,.int .i64 1,.int .i64 2,.int .i64 3,.int .i64 4,.int .i64 5,.int .i64 6] 44 (0,0)):=by
   intro o
   refine blk_put (cs:=#[.int .i64 0,.int .i64 1,.int .i64 2,.int .i64 3,.int .i64 4,.int .i64 5,.int .i64 0]) ?_ 6 _ rfl
   refine blk_put (cs:=#[.int .i64 0,.int .i64 1,.int .i64 2,.int .i64 3,.int .i64 4,.int .i64 0,.int .i64 0]) ?_ 5 _ rfl
   refine blk_put (cs:=#[.int .i64 0,.int .i64 1,.int .i64 2,.int .i64 3,.int .i64 0,.int .i64 0,.int .i64 0]) ?_ 4 _ rfl
   refine blk_put (cs:=#[.int .i64 0,.int .i64 1,.int .i64 2,.int .i64 0,.int .i64 0,.int .i64 0,.int .i64 0]) ?_ 3 _ rfl
   refine blk_put (cs:=#[.int .i64 0,.int .i64 1,.int .i64 0,.int .i64 0,.int .i64 0,.int .i64 0,.int .i64 0]) ?_ 2 _ rfl
   refine blk_put (cs:=#[.int .i64 0,.int .i64 0,.int .i64 0,.int .i64 0,.int .i64 0,.int .i64 0,.int .i64 0]) ?_ 1 _ rfl
   refine blk_put (cs:=#[.int .i64 0,.int .i64 0,.int .i64 0,.int .i64 0,.int .i64 0,.int .i64 0,.int .i64 0]) ?_ 0 _ rfl
   exact hres _
  have hR:=results_cell_row (P:=Try.prog) (fn:=Try.f18) (p:=4) (ty:=44) rfl
  refine bodyPost_ret (hR _ _ (w.heap.size + 1) 44 #[.int .i64 0,.int .i64 1,.int .i64 2,.int .i64 3,.int .i64 4,.int .i64 5,.int .i64 6] (0,0) _ rfl (hfin _) Try.underlying44 rfl (by kernel_rfl)) rfl ?_
  refine ⟨?_,by repeat (first|with_reducible exact hbw|with_reducible apply below_alloc|with_reducible refine below_set ?_ (by simp))⟩
  simp [kinds_by.at,show ¬ (0 : Int) < a0_0 by omega,show ¬ (1 : Int) < a0_0 by omega,show ¬ (2 : Int) < a0_0 by omega,show ¬ (3 : Int) < a0_0 by omega,show ¬ (4 : Int) < a0_0 by omega,show ¬ (5 : Int) < a0_0 by omega,show ¬ (6 : Int) < a0_0 by omega]
 ·exact absurd h (by simp)
end Go.Proofs.Yteppbihlpicjpaa.GM
