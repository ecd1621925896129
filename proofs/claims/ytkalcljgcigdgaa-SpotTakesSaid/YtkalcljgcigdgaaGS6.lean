-- Written by ext.py, a program of this session.
import Derived.Test.YtkalcljgcigdgaaGS0
import Derived.Test.YtkalcljgcigdgaaGS3
import Derived.Test.YtkalcljgcigdgaaGS4
namespace Go.Proofs.Ytkalcljgcigdgaa.GS
open Go.RowKit Go.Proofs.YtkalcljgcigdgaaW.PrintWords Go.Proofs.YtkalcljgcigdgaaW.PrintLast Go.Proofs.YtkalcljgcigdgaaW.PrintMore
attribute [local go_sem] max2_int min2_int max_two min_two max_three min_three max_four min_four cellIs_set   -- for this text's walks alone
set_option linter.unusedVariables false
set_option linter.unusedSimpArgs false
/-! ### spot_Net: function 14 -/
def sR.bit (x : Int) (i : Nat) : Bool:=Go.bits .and .u64 (x / 2 ^ min i 64) 1 == 1
def sR.joinL (last first : Int) : Nat → List Int → List Int
 | _,[]=>[]
 | i,x :: r=>(if sR.bit last i = true then Go.bits .or .u64 x first else x) :: sR.joinL last first (i + 1) r
def sR.one (n : Nat) : Int:=IntKind.u64.wrap (2 ^ n)
def sR.read (l : List S128) : Nat → Int → List Int → List Int → Option (Int × Int × Bool × List Int × List Int)
 | 0,_,_,_=>none
 | q + 1,i,sym,beh=>if 0 ≤ i ∧ i < (l.length : Int) ∧ sym.length ≤ 50 ∧ beh.length ≤ 50 then
   (if (rd_T128 l i).f0 = 2 then some (0,0,true,sym,beh)
   else if (rd_T128 l i).f0 = 3 then some (sR.one sym.length,sR.one sym.length,false,sym ++ [(rd_T128 l i).f1],beh ++ [0])
   else if (rd_T128 l i).f0 = 6 then (sR.read l q (rd_T128 l i).f1 sym beh).bind fun p=>if p.2.2.2.2.length ≤ 50 then some (p.1,p.2.1,true,p.2.2.2.1,sR.joinL p.2.1 p.1 0 p.2.2.2.2) else none
   else if (rd_T128 l i).f0 = 5 then (sR.read l q (rd_T128 l i).f1 sym beh).bind fun p=>(sR.read l q (rd_T128 l i).f2 p.2.2.2.1 p.2.2.2.2).bind fun r=>some (Go.bits .or .u64 p.1 r.1,Go.bits .or .u64 p.2.1 r.2.1,p.2.2.1 || r.2.2.1,r.2.2.2.1,r.2.2.2.2)
   else if (rd_T128 l i).f0 = 4 then (sR.read l q (rd_T128 l i).f1 sym beh).bind fun p=>(sR.read l q (rd_T128 l i).f2 p.2.2.2.1 p.2.2.2.2).bind fun r=>if r.2.2.2.2.length ≤ 50 then some (if p.2.2.1 = true then Go.bits .or .u64 p.1 r.1 else p.1,if r.2.2.1 = true then Go.bits .or .u64 r.2.1 p.2.1 else r.2.1,p.2.2.1 && r.2.2.1,r.2.2.2.1,sR.joinL p.2.1 r.1 0 r.2.2.2.2) else none
   else some (0,0,false,sym,beh)) else none
def sN.row (sym : List Int) (fr : Nat) (tw : Int) (j : Nat) : List S42:=((List.range j).filter fun t=>sR.bit tw t).map fun t=>⟨(fr : Int),sym.getD t 0,(t : Int) + 1⟩
def sN.all (rows sym : List Int) (i : Nat) : List S42:=(List.range i).flatMap fun t=>sN.row sym t (rows.getD t 0) sym.length
def sN.fin (last : Int) (e : Bool) : Int:=if e = true then Go.bits .or .u32 (IntKind.u32.wrap (IntKind.u32.wrap last * 2)) 1 else IntKind.u32.wrap (IntKind.u32.wrap last * 2)
def spot_Net.f (k : Nat) (a0 : Int) (l1 : List S128) : Option (Int × Int × List S42 × Int × Int × Int) :=
 (sentence_Check.f k a0 l1).bind fun e=>if e ≠ 0 then some (0,0,[],0,0,e) else (spot_count.f k l1 7).bind fun m=>if m ≥ 7 then some (0,0,[],0,0,1) else
  (sR.read l1 k (wrap64 ((l1.length : Int) - 1)) [] []).bind fun p=>if p.2.2.2.1.length ≤ 50 ∧ p.2.2.2.2.length ≤ 50 then
   some (((p.2.2.2.1.length + 1 : Nat) : Int),a0,sN.all (p.1 :: p.2.2.2.2) p.2.2.2.1 (p.2.2.2.2.length + 1),1,sN.fin p.2.1 p.2.2.1,0) else none
theorem sR.read_mono (l : List S128) : ∀ q i sym beh,LeO (sR.read l q i sym beh) (sR.read l (q + 1) i sym beh)
 | 0=>fun _ _ _ r h=>by rw [sR.read] at h;cases h
 | q + 1=>by
  have ih:=sR.read_mono l q
  intro i sym beh
  rw [sR.read,sR.read]
  refine LeO.ite (LeO.ite (LeO.refl _) (LeO.ite (LeO.refl _) (LeO.ite (LeO.bind (ih _ _ _) (fun p=>LeO.refl _)) (LeO.ite (LeO.bind (ih _ _ _) (fun p=>LeO.bind (ih _ _ _) (fun r=>LeO.refl _))) (LeO.ite (LeO.bind (ih _ _ _) (fun p=>LeO.bind (ih _ _ _) (fun r=>LeO.refl _))) (LeO.refl _)))))) (LeO.refl _)
theorem spot_Net.mono : ∀ a0 a1 k,LeO (spot_Net.f k a0 a1) (spot_Net.f (k + 1) a0 a1):=by
 intro a0 a1 k
 unfold spot_Net.f
 exact LeO.bind (sentence_Check.mono _ _ _) (fun e=>LeO.ite (LeO.refl _) (LeO.bind (spot_count.mono _ _ _) (fun m=>LeO.ite (LeO.refl _) (LeO.bind (sR.read_mono _ _ _ _ _) (fun p=>LeO.refl _)))))
/-- The reader's box: the sentence,the symbols,what may come behind each. -/
structure sR.Sv (w0 : World) (g : Nat) (A : Option Addr) (n c : Nat) (vs vb : Value) (sym beh : List Int) (w : World) : Prop where
 below : Below w0.heap.size w0 w
 gp : w0.heap.size ≤ g
 b : w.heap[g]? = some (.cells #[.slice A n c,vs,vb] 86 (0,0))
 rs : Kd.R (Kd.int .i64) 3 w w0.heap.size (fun k=>k ≠ g) vs sym
 rb : Kd.R (Kd.int .u64) 87 w w0.heap.size (fun k=>k ≠ g) vb beh
 ap : ∀ k,vs.ownBlock = some k → some k ≠ vb.ownBlock
/-- What a reading leaves as it was. -/
structure sR.To (g : Nat) (vs vb : Value) (w : World) (vs' vb' : Value) (w' : World) : Prop where
 os : vs'.ownBlock = vs.ownBlock ∨ ∃ b,vs'.ownBlock = some b ∧ w.heap.size ≤ b
 ob : vb'.ownBlock = vb.ownBlock ∨ ∃ b,vb'.ownBlock = some b ∧ w.heap.size ≤ b
 size : w.heap.size ≤ w'.heap.size
 fr : ∀ k,k < w.heap.size → k ≠ g → some k ≠ vs.ownBlock → some k ≠ vb.ownBlock → w'.heap[k]? = w.heap[k]?
section
variable {w0 w w1 w2 : World} {g : Nat} {A : Option Addr} {n c : Nat} {vs vb v1 vs1 vb1 vs2 vb2 : Value} {sym beh l1 : List Int}
set_option maxRecDepth 100000 in
theorem sR.fresh_ne {v v' : Value} {b : Nat} (h : v'.ownBlock = v.ownBlock ∨ ∃ b,v'.ownBlock = some b ∧ w.heap.size ≤ b) (hb : b < w.heap.size) (hn : some b ≠ v.ownBlock) : some b ≠ v'.ownBlock:=by
 rcases h with e|⟨c,e,hc⟩
 ·rw [e];exact hn
 ·rw [e];intro e2;injection e2 with e2;omega
set_option maxRecDepth 100000 in
theorem sR.To.refl (g : Nat) (vs vb : Value) (w : World) : sR.To g vs vb w vs vb w:=⟨.inl rfl,.inl rfl,Nat.le_refl _,fun _ _ _ _ _=>rfl⟩
set_option maxRecDepth 100000 in
theorem sR.To.trans (h : sR.To g vs vb w vs1 vb1 w1) (k : sR.To g vs1 vb1 w1 vs2 vb2 w2) : sR.To g vs vb w vs2 vb2 w2:=by
 have hs:=h.size
 refine ⟨?_,?_,Nat.le_trans h.size k.size,fun b hb h1 h2 h3=>?_⟩
 ·rcases k.os with e|⟨b,e,hb⟩
  ·rw [e];exact h.os
  ·exact .inr ⟨b,e,Nat.le_trans hs hb⟩
 ·rcases k.ob with e|⟨b,e,hb⟩
  ·rw [e];exact h.ob
  ·exact .inr ⟨b,e,Nat.le_trans hs hb⟩
 ·rw [k.fr b (by omega) h1 (sR.fresh_ne h.os hb h2) (sR.fresh_ne h.ob hb h3),h.fr b hb h1 h2 h3]
set_option maxRecDepth 100000 in
theorem sR.To.below (h : Below w.heap.size w w1) : sR.To g vs vb w vs vb w1:=⟨.inl rfl,.inl rfl,h.size,fun k hk _ _ _=>h.block k hk⟩
set_option maxRecDepth 100000 in
theorem sR.Sv.kept (h : sR.Sv w0 g A n c vs vb sym beh w) (hb : Below w.heap.size w w1) : sR.Sv w0 g A n c vs vb sym beh w1 :=
 ⟨below_step h.below hb,h.gp,blk_below h.b hb,Kd.R_below h.rs hb,Kd.R_below h.rb hb,h.ap⟩
/-- A box that is none of the reader's. -/
def sR.Ap (g : Nat) (vs vb : Value) (k : Nat) : Prop:=k ≠ g ∧ some k ≠ vs.ownBlock ∧ some k ≠ vb.ownBlock
set_option maxRecDepth 100000 in
theorem sR.To.keep {k : Nat} {cs : Array Value} {ty : TypeId} (t : sR.To g vs vb w vs1 vb1 w1) (h : w.heap[k]? = some (.cells cs ty (0,0))) (a : sR.Ap g vs vb k) : w1.heap[k]? = some (.cells cs ty (0,0)) ∧ sR.Ap g vs1 vb1 k :=
 have hk:=blk_lt h
 ⟨(t.fr k hk a.1 a.2.1 a.2.2).trans h,a.1,sR.fresh_ne t.os hk a.2.1,sR.fresh_ne t.ob hk a.2.2⟩
set_option maxRecDepth 100000 in
theorem sR.Sv.new (h : sR.Sv w0 g A n c vs vb sym beh w) {k : Nat} (hk : w.heap.size ≤ k) : sR.Ap g vs vb k :=
 ⟨by have:=blk_lt h.b;omega,fun e=>by have:=Kd.R_lt h.rs _ e.symm;omega,fun e=>by have:=Kd.R_lt h.rb _ e.symm;omega⟩
set_option maxRecDepth 100000 in
/-- A store into a box that is none of the reader's. -/
theorem sR.Sv.far (h : sR.Sv w0 g A n c vs vb sym beh w) {k j : Nat} (hk : w0.heap.size ≤ k) (a : sR.Ap g vs vb k) (u : Value) : sR.Sv w0 g A n c vs vb sym beh (w.setCell ⟨k,j,none⟩ u) :=
 ⟨h.below.setCell hk _,h.gp,blk_far h.b (Ne.symm a.1) _,Kd.R_mono (Kd.R_far (Kd.R_far1 h.rs rfl (g:=k) a.2.1) (fun _ hk=>hk.2) _) (fun _ hk=>hk.1),Kd.R_mono (Kd.R_far (Kd.R_far1 h.rb rfl (g:=k) a.2.2) (fun _ hk=>hk.2) _) (fun _ hk=>hk.1),h.ap⟩
set_option maxRecDepth 100000 in
/-- A store into the row of what comes behind. -/
theorem sR.Sv.put {b cap : Nat} (h : sR.Sv w0 g A n c vs vb sym beh w) (e : vb = .slice (some ⟨b,0,none⟩) beh.length cap) (i x : Int) : sR.Sv w0 g A n c vs vb sym (beh.set i.toNat x) (w.setCell ⟨b,i.toNat,none⟩ (.int .u64 x)):=by
 subst e
 have hg : b ≠ g:=h.rb.1 b rfl
 have hgb : w0.heap.size ≤ b:=Kd.R_base h.rb b rfl
 have hp:=Kd.R_putn h.rb i x
 refine ⟨h.below.setCell hgb _,h.gp,blk_far h.b (Ne.symm hg) _,?_,hp,h.ap⟩
 exact Kd.R_mono (Kd.R_far (Kd.R_far1 h.rs rfl (g:=b) (fun e=>h.ap b e.symm rfl)) (fun _ hk=>hk.2) _) (fun _ hk=>hk.1)
set_option maxRecDepth 100000 in
theorem sR.To.put {b i m cap : Nat} {u : Value} : sR.To g vs (.slice (some ⟨b,0,none⟩) m cap) w vs (.slice (some ⟨b,0,none⟩) m cap) (w.setCell ⟨b,i,none⟩ u) :=
 ⟨.inl rfl,.inl rfl,Nat.le_of_eq (by simp),fun k hk _ _ h3=>Below.heap_setCell w _ u k (fun e=>h3 (by rw [e];rfl))⟩
end
set_option maxRecDepth 100000 in
theorem sR.joinL_len (last first : Int) : ∀ (i : Nat) (l : List Int),(sR.joinL last first i l).length = l.length
 | _,[]=>rfl
 | i,_ :: r=>by rw [sR.joinL,List.length_cons,List.length_cons,sR.joinL_len last first (i + 1) r]
set_option maxRecDepth 100000 in
theorem sR.joinL_step (last first : Int) : ∀ (l : List Int) (i k : Nat),k < l.length → ((sR.joinL last first i l).take k ++ l.drop k).set k (if sR.bit last (i + k) = true then Go.bits .or .u64 (l.getD k 0) first else l.getD k 0) = (sR.joinL last first i l).take (k + 1) ++ l.drop (k + 1)
 | [],_,_,h=>by simp at h
 | x :: r,i,0,_=>by simp [sR.joinL]
 | x :: r,i,k + 1,h=>by
  have:=sR.joinL_step last first r (i + 1) k (by simpa using h)
  rw [show i + 1 + k = i + (k + 1) by omega] at this
  simpa [sR.joinL] using this
set_option maxRecDepth 100000 in
theorem sR.joinL_get (last first : Int) : ∀ (l : List Int) (i k : Nat),k < l.length → ((sR.joinL last first i l).take k ++ l.drop k).getD k 0 = l.getD k 0
 | [],_,_,h=>by simp at h
 | x :: r,i,0,_=>by simp [sR.joinL]
 | x :: r,i,k + 1,h=>by
  have:=sR.joinL_get last first r (i + 1) k (by simpa using h)
  simpa [sR.joinL] using this
def sR.mix (last first : Int) (beh : List Int) (k : Nat) : List Int:=(sR.joinL last first 0 beh).take k ++ beh.drop k
set_option maxRecDepth 100000 in
theorem sR.mix_len (last first : Int) (beh : List Int) (k : Nat) : (sR.mix last first beh k).length = beh.length:=by
 unfold sR.mix;rw [List.length_append,List.length_take,List.length_drop,sR.joinL_len];omega
set_option maxRecDepth 100000 in
theorem sR.mix_end (last first : Int) (beh : List Int) : sR.mix last first beh beh.length = sR.joinL last first 0 beh:=by
 unfold sR.mix;rw [List.drop_eq_nil_of_le (Nat.le_refl _),List.append_nil,List.take_of_length_le (by rw [sR.joinL_len];omega)]
set_option maxRecDepth 100000 in
theorem sR.mix_zero (last first : Int) (beh : List Int) : sR.mix last first beh 0 = beh:=by simp [sR.mix]
set_option maxRecDepth 100000 in
theorem sR.mix_step (last first : Int) (beh : List Int) (k : Nat) (hk : k < beh.length) : sR.mix last first beh (k + 1) = (sR.mix last first beh k).set k (if sR.bit last k = true then Go.bits .or .u64 ((sR.mix last first beh k).getD k 0) first else (sR.mix last first beh k).getD k 0):=by
 have h1:=sR.joinL_step last first beh 0 k hk
 have h2:=sR.joinL_get last first beh 0 k hk
 rw [Nat.zero_add] at h1
 unfold sR.mix
 rw [h2,h1]
set_option maxRecDepth 100000 in
theorem sR.mix_same (last first : Int) (beh : List Int) (k : Nat) (hk : k < beh.length) (hb : sR.bit last k = false) : sR.mix last first beh (k + 1) = sR.mix last first beh k:=by
 rw [sR.mix_step last first beh k hk,hb]
 have hl:=sR.mix_len last first beh k
 simp only [Bool.false_eq_true,if_false]
 apply List.ext_getElem (by simp)
 intro i h3 h4
 rw [List.getElem_set]
 split
 ·rename_i e;subst e;rw [List.getD_eq_getElem?_getD,List.getElem?_eq_getElem h4,Option.getD_some]
 ·rfl
set_option maxRecDepth 100000 in
set_option maxHeartbeats 4000000 in
theorem sR.join_calls {w0 w : World} {g : Nat} {A : Option Addr} {n c : Nat} {vs vb : Value} {sym beh : List Int} (hS : sR.Sv w0 g A n c vs vb sym beh w) (hl : beh.length ≤ 60) (last first : Int) :
  Calls Try.prog 71 #[.pointer (some ⟨g,0,none⟩),.int .u64 last,.int .u64 first] w fun e w'=>e = .returned (.tuple #[]) ∧ sR.Sv w0 g A n c vs vb sym (sR.joinL last first 0 beh) w' ∧ sR.To g vs vb w vs vb w':=by
 have hu:=Try.underlying86
 obtain ⟨Ab,cb,hvb⟩:=Kd.R_slice hS.rb
 subst hvb
 have q2:=(blk_cell hS.b 2).trans rfl
 have S0:=Aside0.mk (show sR.Sv w0 g A n c vs (.slice Ab beh.length cb) sym (sR.mix last first beh 0) w by rw [sR.mix_zero];exact hS)
 have HL:=Aside0.mk hl
 have hbig : beh.length ≤ 9223372036854775807:=by omega
 clear hS hl
 go_enter Try.func71,Try.ntmps71
 go_wp2
 clear q2
 go_loopg [12] beh.length (fun gg s12 wr=>∃ (k : Nat),s12 = .int .i64 (k : Int) ∧ k ≤ beh.length ∧ beh.length - k ≤ gg ∧ Aside0 (sR.Sv w0 g A n c vs (.slice Ab beh.length cb) sym (sR.mix last first beh k) wr) ∧ Aside0 (sR.To g vs (.slice Ab beh.length cb) w vs (.slice Ab beh.length cb) wr))
 case atStart=>exact ⟨0,rfl,by omega,by omega,S0,⟨sR.To.refl _ _ _ _⟩⟩
 case round =>
  obtain ⟨k,rfl,k1,k2,HS,HT⟩:=hrel
  by_cases ck : k < beh.length
  ·have ckt : ((k : Int) < (beh.length : Int)) = True:=eq_true (by omega)
   have ek : IntKind.i64.wrap ((k : Int) + 1) = ((k + 1 : Nat) : Int):=by have:=HL.out;rw [i64_w,wrap64];omega
   have hml:=sR.mix_len last first beh k
   have hstep:=sR.mix_step last first beh k ck
   have hR : Kd.R (Kd.int .u64) 87 wr w0.heap.size (fun k=>k ≠ g) (.slice Ab (sR.mix last first beh k).length cb) (sR.mix last first beh k):=by rw [hml];exact HS.out.rb
   obtain ⟨bb,cap,hf,-⟩:=Kd.R_form hR (by rw [hml];omega)
   obtain ⟨rfl,rfl⟩ : Ab = some ⟨bb,0,none⟩ ∧ cb = cap:=by
    injection hf with e1 e2 e3
    exact ⟨e1,e3⟩
   obtain ⟨hx,hfz⟩:=Kd.R_celln 0 hR (k : Int) (by omega) (by rw [hml];omega)
   change wr.cell? _ = some (.int .u64 (rd (sR.mix last first beh k) (k : Int))) at hx
   rw [show rd (sR.mix last first beh k) (k : Int) = (sR.mix last first beh k).getD k 0 by simp [rd]] at hx
   rw [Int.toNat_natCast] at hx hfz
   have hbx:=(blk_cell HS.out.b 2).trans rfl
   generalize hxe : (sR.mix last first beh k).getD k 0 = x at hx hstep
   clear hf hR
   have hgb : bb ≠ g:=HS.out.rb.1 bb rfl
   cases hb : sR.bit last k with
   | false =>
    have hbt:=hb
    unfold sR.bit at hbt
    have hsame:=sR.mix_same last first beh k ck hb
    go_wp2
    go_roundg (beh.length - (k + 1))
    case measure=>omega
    case rel=>exact ⟨k + 1,rfl,by omega,by omega,⟨by rw [hsame];exact HS.out⟩,HT⟩
   | true =>
    have hbt:=hb
    unfold sR.bit at hbt
    rw [hb,if_pos rfl] at hstep
    have HS2:=Aside0.mk (HS.out.put (cap:=cb) (by rw [hml]) (k : Int) (Go.bits .or .u64 x first))
    rw [Int.toNat_natCast,← hstep] at HS2
    have HT2:=Aside0.mk (HT.out.trans (sR.To.put (w:=wr) (b:=bb) (i:=k) (g:=g) (vs:=vs) (m:=beh.length) (cap:=cb) (u:=.int .u64 (Go.bits .or .u64 x first))))
    go_wp2
    go_roundg (beh.length - (k + 1))
    case measure=>omega
    case rel=>exact ⟨k + 1,rfl,by omega,by omega,HS2,HT2⟩
  ·obtain rfl : k = beh.length:=by omega
   have ckt : ((beh.length : Int) < (beh.length : Int)) = False:=eq_false (by omega)
   go_wp2
   refine bodyPost_end (results_none rfl _ _ _) rfl ?_
   exact ⟨rfl,by rw [← sR.mix_end];exact HS.out,HT.out⟩
/-- What stands in a round of reading,beside the reader: the result's box,the node's box. -/
structure sR.Fr (w0 : World) (g : Nat) (A : Option Addr) (n c : Nat) (vs0 vb0 : Value) (b4 b5 : Nat) (x0 x1 x2 : Int) (wr : World) (vs vb : Value) (sym beh : List Int) (w : World) : Prop where
 sv : sR.Sv w0 g A n c vs vb sym beh w
 tt : sR.To g vs0 vb0 wr vs vb w
 r4 : w.heap[b4]? = some (.cells #[.int .u64 0,.int .u64 0,.bool false] 89 (0,0))
 a4 : sR.Ap g vs vb b4
 g4 : w0.heap.size ≤ b4
 l4 : b4 < wr.heap.size
 r5 : w.heap[b5]? = some (.cells #[.int .i64 x0,.int .i64 x1,.int .i64 x2] 128 (0,0))
 a5 : sR.Ap g vs vb b5
 l5 : b5 < wr.heap.size
/-- A part's box. -/
structure sR.Bx (w0 : World) (g : Nat) (vs vb : Value) (wr : World) (b : Nat) (f l : Int) (e : Bool) (w : World) : Prop where
 r : w.heap[b]? = some (.cells #[.int .u64 f,.int .u64 l,.bool e] 89 (0,0))
 a : sR.Ap g vs vb b
 ge : wr.heap.size ≤ b
 g0 : w0.heap.size ≤ b
section
variable {w0 w w1 wr : World} {g b4 b5 b b' : Nat} {A : Option Addr} {n c : Nat} {vs0 vb0 vs vb vs1 vb1 : Value} {sym beh sym1 beh1 : List Int} {x0 x1 x2 f l f' l' : Int} {e e' : Bool}
set_option maxRecDepth 100000 in
theorem sR.Fr.call (h : sR.Fr w0 g A n c vs0 vb0 b4 b5 x0 x1 x2 wr vs vb sym beh w) (s : sR.Sv w0 g A n c vs1 vb1 sym1 beh1 w1) (t : sR.To g vs vb w vs1 vb1 w1) : sR.Fr w0 g A n c vs0 vb0 b4 b5 x0 x1 x2 wr vs1 vb1 sym1 beh1 w1 :=
 ⟨s,h.tt.trans t,(t.keep h.r4 h.a4).1,(t.keep h.r4 h.a4).2,h.g4,h.l4,(t.keep h.r5 h.a5).1,(t.keep h.r5 h.a5).2,h.l5⟩
set_option maxRecDepth 100000 in
theorem sR.Fr.alloc (h : sR.Fr w0 g A n c vs0 vb0 b4 b5 x0 x1 x2 wr vs vb sym beh w) (o : Obj) : sR.Fr w0 g A n c vs0 vb0 b4 b5 x0 x1 x2 wr vs vb sym beh (w.alloc o) :=
 have hb:=below_alloc (Below.refl w.heap.size w) o
 h.call (h.sv.kept hb) (sR.To.below hb)
set_option maxRecDepth 100000 in
theorem sR.Fr.drewN (h : sR.Fr w0 g A n c vs0 vb0 b4 b5 x0 x1 x2 wr vs vb sym beh w) : sR.Fr w0 g A n c vs0 vb0 b4 b5 x0 x1 x2 wr vs vb sym beh w.drew :=
 have hb:=below_drew (Below.refl w.heap.size w)
 h.call (h.sv.kept hb) (sR.To.below hb)
set_option maxRecDepth 100000 in
theorem sR.To.box {k j : Nat} {u : Value} (hk : wr.heap.size ≤ k) (t : sR.To g vs0 vb0 wr vs vb w) : sR.To g vs0 vb0 wr vs vb (w.setCell ⟨k,j,none⟩ u) :=
 ⟨t.os,t.ob,Nat.le_trans t.size (Nat.le_of_eq (by simp)),fun b hb h1 h2 h3=>(Below.heap_setCell w _ u b (by show b ≠ k;omega)).trans (t.fr b hb h1 h2 h3)⟩
set_option maxRecDepth 100000 in
theorem sR.Fr.set (h : sR.Fr w0 g A n c vs0 vb0 b4 b5 x0 x1 x2 wr vs vb sym beh w) (x : sR.Bx w0 g vs vb wr b f l e w) (j : Nat) (u : Value) : sR.Fr w0 g A n c vs0 vb0 b4 b5 x0 x1 x2 wr vs vb sym beh (w.setCell ⟨b,j,none⟩ u) :=
 ⟨h.sv.far x.g0 x.a u,h.tt.box x.ge,blk_far h.r4 (by have:=h.l4;have:=x.ge;show b4 ≠ b;omega) _,h.a4,h.g4,h.l4,blk_far h.r5 (by have:=h.l5;have:=x.ge;show b5 ≠ b;omega) _,h.a5,h.l5⟩
set_option maxRecDepth 100000 in
theorem sR.Bx.call (x : sR.Bx w0 g vs vb wr b f l e w) (t : sR.To g vs vb w vs1 vb1 w1) : sR.Bx w0 g vs1 vb1 wr b f l e w1:=⟨(t.keep x.r x.a).1,(t.keep x.r x.a).2,x.ge,x.g0⟩
set_option maxRecDepth 100000 in
theorem sR.Bx.alloc (x : sR.Bx w0 g vs vb wr b f l e w) (o : Obj) : sR.Bx w0 g vs vb wr b f l e (w.alloc o):=x.call (sR.To.below (below_alloc (Below.refl w.heap.size w) o))
set_option maxRecDepth 100000 in
theorem sR.Bx.far (x : sR.Bx w0 g vs vb wr b f l e w) (hn : b' ≠ b) (j : Nat) (u : Value) : sR.Bx w0 g vs vb wr b f l e (w.setCell ⟨b',j,none⟩ u):=⟨blk_far x.r (Ne.symm hn) _,x.a,x.ge,x.g0⟩
set_option maxRecDepth 100000 in
theorem sR.Fr.box (h : sR.Fr w0 g A n c vs0 vb0 b4 b5 x0 x1 x2 wr vs vb sym beh w) (f l : Int) (e : Bool) : sR.Bx w0 g vs vb wr w.heap.size f l e (w.alloc (.cells #[.int .u64 f,.int .u64 l,.bool e] 89)) :=
 ⟨heap_alloc_new w _,h.sv.new (Nat.le_refl _),h.tt.size,below_size h.sv.below⟩
/-- A part stored into its box. -/
def sR.put3 (w : World) (b : Nat) (f l : Int) (e : Bool) : World:=((w.setCell ⟨b,0,none⟩ (.int .u64 f)).setCell ⟨b,1,none⟩ (.int .u64 l)).setCell ⟨b,2,none⟩ (.bool e)
set_option maxRecDepth 100000 in
theorem sR.Bx.put3 (x : sR.Bx w0 g vs vb wr b f l e w) (f' l' : Int) (e' : Bool) : sR.Bx w0 g vs vb wr b f' l' e' (sR.put3 w b f' l' e'):=⟨blk_set (blk_set (blk_set x.r 0 _) 1 _) 2 _,x.a,x.ge,x.g0⟩
set_option maxRecDepth 100000 in
theorem sR.Bx.far3 (x : sR.Bx w0 g vs vb wr b f l e w) (hn : b' ≠ b) (f' l' : Int) (e' : Bool) : sR.Bx w0 g vs vb wr b f l e (sR.put3 w b' f' l' e'):=((x.far hn 0 _).far hn 1 _).far hn 2 _
set_option maxRecDepth 100000 in
theorem sR.Bx.one (x : sR.Bx w0 g vs vb wr b f l e w) (j : Nat) (u : Value) (f' l' : Int) (e' : Bool) (h : (#[Value.int .u64 f,.int .u64 l,.bool e] : Array Value).setIfInBounds j u = #[Value.int .u64 f',.int .u64 l',.bool e']) : sR.Bx w0 g vs vb wr b f' l' e' (w.setCell ⟨b,j,none⟩ u):=⟨by have:=blk_set x.r j u;rwa [h] at this,x.a,x.ge,x.g0⟩
set_option maxRecDepth 100000 in
theorem sR.Fr.put3 (h : sR.Fr w0 g A n c vs0 vb0 b4 b5 x0 x1 x2 wr vs vb sym beh w) (x : sR.Bx w0 g vs vb wr b f l e w) (f' l' : Int) (e' : Bool) : sR.Fr w0 g A n c vs0 vb0 b4 b5 x0 x1 x2 wr vs vb sym beh (sR.put3 w b f' l' e'):=by
 have h1:=h.set x 0 (.int .u64 f')
 have y1:=x.one 0 (.int .u64 f') f' l e rfl
 have h2:=h1.set y1 1 (.int .u64 l')
 have y2:=y1.one 1 (.int .u64 l') f' l' e rfl
 exact h2.set y2 2 (.bool e')
end
/-- Between the appends: the reader's box as it was,the rows as they are. -/
structure sR.Md (w0 : World) (g : Nat) (A : Option Addr) (n c : Nat) (vs vb : Value) (wr : World) (v1 v2 : Value) (sym beh : List Int) (w : World) : Prop where
 below : Below w0.heap.size w0 w
 gp : w0.heap.size ≤ g
 b : w.heap[g]? = some (.cells #[.slice A n c,vs,vb] 86 (0,0))
 rs : Kd.R (Kd.int .i64) 3 w w0.heap.size (fun k=>k ≠ g) v1 sym
 rb : Kd.R (Kd.int .u64) 87 w w0.heap.size (fun k=>k ≠ g) v2 beh
 ap : ∀ k,v1.ownBlock = some k → some k ≠ v2.ownBlock
 tt : sR.To g vs vb wr v1 v2 w
/-- A box or row of this round,that is none of the reader's. -/
structure sR.Hd (g : Nat) (v1 v2 : Value) (b : Nat) (cs : Array Value) (ty : TypeId) (w : World) : Prop where
 r : w.heap[b]? = some (.cells cs ty (0,0))
 a : sR.Ap g v1 v2 b
section
variable {w0 w w1 wr : World} {g b : Nat} {A : Option Addr} {n c : Nat} {vs vb v1 v2 v3 : Value} {sym beh l1 : List Int} {cs : Array Value} {ty : TypeId}
set_option maxRecDepth 100000 in
theorem sR.Md.start (h : sR.Sv w0 g A n c vs vb sym beh w) : sR.Md w0 g A n c vs vb w vs vb sym beh w:=⟨h.below,h.gp,h.b,h.rs,h.rb,h.ap,sR.To.refl _ _ _ _⟩
set_option maxRecDepth 100000 in
theorem sR.Md.kept (h : sR.Md w0 g A n c vs vb wr v1 v2 sym beh w) (hb : Below w.heap.size w w1) : sR.Md w0 g A n c vs vb wr v1 v2 sym beh w1 :=
 ⟨below_step h.below hb,h.gp,blk_below h.b hb,Kd.R_below h.rs hb,Kd.R_below h.rb hb,h.ap,h.tt.trans (sR.To.below hb)⟩
set_option maxRecDepth 100000 in
theorem sR.Md.alloc (h : sR.Md w0 g A n c vs vb wr v1 v2 sym beh w) (o : Obj) : sR.Md w0 g A n c vs vb wr v1 v2 sym beh (w.alloc o):=h.kept (below_alloc (Below.refl _ _) o)
set_option maxRecDepth 100000 in
theorem sR.Md.new (h : sR.Md w0 g A n c vs vb wr v1 v2 sym beh w) (cs : Array Value) (ty : TypeId) : sR.Hd g v1 v2 w.heap.size cs ty (w.alloc (.cells cs ty)) :=
 ⟨heap_alloc_new w _,by have:=blk_lt h.b;omega,fun e=>by have:=Kd.R_lt h.rs _ e.symm;omega,fun e=>by have:=Kd.R_lt h.rb _ e.symm;omega⟩
set_option maxRecDepth 100000 in
theorem sR.Hd.alloc (h : sR.Hd g v1 v2 b cs ty w) (o : Obj) : sR.Hd g v1 v2 b cs ty (w.alloc o):=⟨blk_alloc h.r o,h.a⟩
set_option maxRecDepth 100000 in
theorem sR.Hd.kept (h : sR.Hd g v1 v2 b cs ty w) (hb : Below w.heap.size w w1) : sR.Hd g v1 v2 b cs ty w1:=⟨blk_below h.r hb,h.a⟩
set_option maxRecDepth 100000 in
theorem sR.Hd.grownS (h : sR.Hd g v1 v2 b cs ty w) (hg : w.grownBy w1 v1.ownBlock) (hat : v3.ownBlock = v1.ownBlock ∨ ∃ b,v3.ownBlock = some b ∧ w.heap.size ≤ b) : sR.Hd g v3 v2 b cs ty w1 :=
 ⟨blk_grown h.r hg h.a.2.1,h.a.1,sR.fresh_ne hat (blk_lt h.r) h.a.2.1,h.a.2.2⟩
set_option maxRecDepth 100000 in
theorem sR.Hd.grownB (h : sR.Hd g v1 v2 b cs ty w) (hg : w.grownBy w1 v2.ownBlock) (hat : v3.ownBlock = v2.ownBlock ∨ ∃ b,v3.ownBlock = some b ∧ w.heap.size ≤ b) : sR.Hd g v1 v3 b cs ty w1 :=
 ⟨blk_grown h.r hg h.a.2.2,h.a.1,h.a.2.1,sR.fresh_ne hat (blk_lt h.r) h.a.2.2⟩
set_option maxRecDepth 100000 in
theorem sR.Md.pushS (h : sR.Md w0 g A n c vs vb wr v1 v2 sym beh w) (hr : Kd.R (Kd.int .i64) 3 w1 w0.heap.size (fun k=>k ≠ g) v3 l1) (hb : Below w0.heap.size w0 w1) (hg : w.grownBy w1 v1.ownBlock) (hat : v3.ownBlock = v1.ownBlock ∨ ∃ b,v3.ownBlock = some b ∧ w.heap.size ≤ b) : sR.Md w0 g A n c vs vb wr v3 v2 l1 beh w1 :=
 ⟨hb,h.gp,blk_grown h.b hg (fun e=>(h.rs.1 g e.symm) rfl),hr,Kd.R_grown2 h.rb rfl hg (fun k hk e=>h.ap k hk e),fun k hk e=>by
  rcases hat with e1|⟨b,e1,hle⟩
  ·rw [e1] at hk;exact h.ap k hk e
  ·rw [e1] at hk
   injection hk with hk
   subst hk
   have:=Kd.R_lt h.rb _ e.symm
   omega,h.tt.trans ⟨hat,.inl rfl,by simpa using hg.size,fun k hk _ h2 _=>hg.block k hk h2⟩⟩
set_option maxRecDepth 100000 in
theorem sR.Md.pushB (h : sR.Md w0 g A n c vs vb wr v1 v2 sym beh w) (hr : Kd.R (Kd.int .u64) 87 w1 w0.heap.size (fun k=>k ≠ g) v3 l1) (hb : Below w0.heap.size w0 w1) (hg : w.grownBy w1 v2.ownBlock) (hat : v3.ownBlock = v2.ownBlock ∨ ∃ b,v3.ownBlock = some b ∧ w.heap.size ≤ b) : sR.Md w0 g A n c vs vb wr v1 v3 sym l1 w1 :=
 ⟨hb,h.gp,blk_grown h.b hg (fun e=>(h.rb.1 g e.symm) rfl),Kd.R_grown2 h.rs rfl hg (fun k hk e=>h.ap k e.symm hk.symm),hr,fun k hk e=>by
  rcases hat with e1|⟨b,e1,hle⟩
  ·rw [e1] at e;exact h.ap k hk e
  ·rw [e1] at e
   injection e with e
   subst e
   have:=Kd.R_lt h.rs _ hk
   omega,h.tt.trans ⟨.inl rfl,hat,by simpa using hg.size,fun k hk _ _ h3=>hg.block k hk h3⟩⟩
set_option maxRecDepth 100000 in
/-- A row of one number,read. -/
theorem sR.Hd.row {k : IntKind} {x : Int} (h : sR.Hd g v1 v2 b #[.int k x] ty w) : ReadsRow (fun (y : Int) (cs : List Value)=>cs = [Value.int k y]) 1 w (some ⟨b,0,none⟩) 1 [x]:=by
 refine ⟨rfl,by decide,fun _=>⟨_,rfl,fun j p hj=>?_⟩⟩
 have hj0 : j = 0:=by
  have:=(List.getElem?_eq_some_iff.1 hj).1
  simpa using this
 subst hj0
 obtain rfl : x = p:=by simpa using hj
 refine ⟨_,rfl,rfl,fun i u hi=>?_⟩
 have hi0 : i = 0:=by
  have:=(List.getElem?_eq_some_iff.1 hi).1
  simpa using this
 subst hi0
 obtain rfl : Value.int k x = u:=by simpa using hi
 have:=(blk_cell h.r 0).trans rfl
 simpa [Addr.add] using this
set_option maxRecDepth 100000 in
/-- The two stores behind the appends. -/
theorem sR.Md.fin (h : sR.Md w0 g A n c vs vb wr v1 v2 sym beh w) : sR.Sv w0 g A n c v1 v2 sym beh ((w.setCell ⟨g,1,none⟩ v1).setCell ⟨g,2,none⟩ v2) ∧ sR.To g vs vb wr v1 v2 ((w.setCell ⟨g,1,none⟩ v1).setCell ⟨g,2,none⟩ v2):=by
 refine ⟨⟨(h.below.setCell h.gp _).setCell h.gp _,h.gp,blk_set (blk_set h.b 1 v1) 2 v2,?_,?_,h.ap⟩,h.tt.os,h.tt.ob,Nat.le_trans h.tt.size (Nat.le_of_eq (by simp)),fun k hk h1 h2 h3=>?_⟩
 ·exact Kd.R_far (Kd.R_far h.rs (fun _ hk=>hk) _) (fun _ hk=>hk) _
 ·exact Kd.R_far (Kd.R_far h.rb (fun _ hk=>hk) _) (fun _ hk=>hk) _
 ·exact ((Below.heap_setCell (w.setCell ⟨g,1,none⟩ v1) ⟨g,2,none⟩ v2 k h1).trans (Below.heap_setCell w ⟨g,1,none⟩ v1 k h1)).trans (h.tt.fr k hk h1 h2 h3)
end
set_option maxRecDepth 100000 in
theorem sR.info3 : (Try.prog.info? 3).map (fun i=>(i.zero,i.size,i.bytes)) = some (some (.int .i64 0),1,8):=by kernel_rfl
set_option maxRecDepth 100000 in
theorem sR.infoU : (Try.prog.info? 87).map (fun i=>(i.zero,i.size,i.bytes)) = some (some (.int .u64 0),1,8):=by kernel_rfl
set_option maxRecDepth 100000 in
/-- The result's box filled. -/
theorem sR.fill {w0 w wz : World} {g b4 : Nat} {A : Option Addr} {n c : Nat} {vs vb vs1 vb1 : Value} {sym beh : List Int} (sv : sR.Sv w0 g A n c vs1 vb1 sym beh wz) (tt : sR.To g vs vb w vs1 vb1 wz) (r4 : wz.heap[b4]? = some (.cells #[.int .u64 0,.int .u64 0,.bool false] 89 (0,0))) (a4 : sR.Ap g vs1 vb1 b4) (g4 : w0.heap.size ≤ b4) (h4 : w.heap.size ≤ b4) (x y z : Value) :
  (((wz.setCell ⟨b4,0,none⟩ x).setCell ⟨b4,1,none⟩ y).setCell ⟨b4,2,none⟩ z).heap[b4]? = some (.cells #[x,y,z] 89 (0,0)) ∧ sR.Sv w0 g A n c vs1 vb1 sym beh (((wz.setCell ⟨b4,0,none⟩ x).setCell ⟨b4,1,none⟩ y).setCell ⟨b4,2,none⟩ z) ∧ sR.To g vs vb w vs1 vb1 (((wz.setCell ⟨b4,0,none⟩ x).setCell ⟨b4,1,none⟩ y).setCell ⟨b4,2,none⟩ z) :=
 ⟨blk_set (blk_set (blk_set r4 0 x) 1 y) 2 z,((sv.far g4 a4 x).far g4 a4 y).far g4 a4 z,((tt.box h4).box h4).box h4⟩
set_option maxRecDepth 100000 in
set_option maxHeartbeats 8000000 in
theorem sR.read_calls {w0 : World} {g : Nat} {A : Option Addr} {c : Nat} {l : List S128} (hr0 : Kd.C k128 w0 A l.length l) (hc0 : l.length ≤ c) : ∀ (q : Nat) (i : Int) (vs vb : Value) (sym beh : List Int) (w : World) (r : Int × Int × Bool × List Int × List Int),sR.Sv w0 g A l.length c vs vb sym beh w → sR.read l q i sym beh = some r →
  Calls Try.prog 38 #[.pointer (some ⟨g,0,none⟩),.int .i64 i] w fun e w'=>e = .returned (.agg #[.int .u64 r.1,.int .u64 r.2.1,.bool r.2.2.1]) ∧ ∃ vs' vb',sR.Sv w0 g A l.length c vs' vb' r.2.2.2.1 r.2.2.2.2 w' ∧ sR.To g vs vb w vs' vb' w':=by
 have hu1:=Try.underlying86
 have hu2:=Try.underlying89
 have hu3:=Try.underlying128
 have HR0:=Aside0.mk hr0
 have hbig : l.length ≤ 9223372036854775807:=hr0.2.1
 clear hr0
 intro q
 induction q with
 | zero=>intro i vs vb sym beh w r hS h;rw [sR.read] at h;cases h
 | succ q ih =>
  intro i vs vb sym beh w r hS h
  have IH:=Aside0.mk ih
  clear ih
  rw [sR.read] at h
  by_cases cg : 0 ≤ i ∧ i < (l.length : Int) ∧ sym.length ≤ 50 ∧ beh.length ≤ 50
  case neg=>rw [if_neg cg] at h;cases h
  rw [if_pos cg] at h
  obtain ⟨i0,i1,s50,b50⟩:=cg
  obtain ⟨ad,rfl,y0,y1,y2⟩:=at_T128 HR0.out i i0 i1
  obtain ⟨x0,x1,x2,hx⟩ : ∃ x0 x1 x2,rd_T128 l i = ⟨x0,x1,x2⟩:=⟨_,_,_,rfl⟩
  rw [hx] at h y0 y1 y2
  dsimp only at h y0 y1 y2
  clear hx
  obtain ⟨w1,hw1⟩ : ∃ w1,w.alloc (.cells #[.int .u64 0,.int .u64 0,.bool false] 89) = w1:=⟨_,rfl⟩
  have hb1 : Below w.heap.size w w1:=by rw [← hw1];exact below_alloc (Below.refl w.heap.size w) _
  have s1:=hS.kept hb1
  replace y0:=pw_cell_below s1.below y0
  replace y1:=pw_cell_below s1.below y1
  replace y2:=pw_cell_below s1.below y2
  have qa:=(blk_cell s1.b 0).trans rfl
  have p0:=eq_true i0
  have p1:=eq_true i1
  have S50:=Aside0.mk s50
  have B50:=Aside0.mk b50
  have HS:=Aside0.mk hS
  have H:=Aside0.mk h
  have e1 : w1.heap.size = w.heap.size + 1:=by rw [← hw1];simp
  obtain ⟨wr,hwr⟩ : ∃ wr,w1.alloc (.cells #[.int .i64 x0,.int .i64 x1,.int .i64 x2] 128) = wr:=⟨_,rfl⟩
  have hF : sR.Fr w0 g (some ad) l.length c vs vb w.heap.size (w.heap.size + 1) x0 x1 x2 wr vs vb sym beh wr:=by
   have hb2:=below_alloc (Below.refl w1.heap.size w1) (.cells #[.int .i64 x0,.int .i64 x1,.int .i64 x2] 128)
   have s2:=s1.kept hb2
   have n2:=heap_alloc_new w1 (.cells #[.int .i64 x0,.int .i64 x1,.int .i64 x2] 128)
   have n1:=blk_alloc (heap_alloc_new w (.cells #[.int .u64 0,.int .u64 0,.bool false] 89))
   rw [e1] at n2
   rw [hw1] at n1
   have z2 : wr.heap.size = w.heap.size + 2:=by rw [← hwr];simp [e1]
   rw [← hwr] at z2 ⊢
   exact ⟨s2,sR.To.refl _ _ _ _,n1 _,hS.new (Nat.le_refl _),below_size hS.below,by omega,n2,hS.new (Nat.le_succ _),by omega⟩
  have hT : sR.To g vs vb w vs vb wr:=by rw [← hwr];exact sR.To.below (below_alloc hb1 _)
  have HF:=Aside0.mk hF
  have HT:=Aside0.mk hT
  clear hS h hF hT i0 i1 s50 b50 hb1 s1
  have hz0 : wr.cell? ⟨w.heap.size + 1,0,none⟩ = some (.int .i64 x0):=(blk_cell HF.out.r5 0).trans rfl
  have r40:=(blk_cell HF.out.r4 0).trans rfl
  have r41:=(blk_cell HF.out.r4 1).trans rfl
  have r42:=(blk_cell HF.out.r4 2).trans rfl
  have h:=H.out
  clear H
  by_cases c2 : x0 = 2
  ·rw [if_pos c2] at h
   obtain rfl:=Option.some.inj h
   have t2 : (x0 == 2) = true:=beq_iff_eq.2 c2
   have f0:=blk_frozen HF.out.r4 0
   have f1:=blk_frozen (blk_set HF.out.r4 0 (.int .u64 0)) 1
   have f2:=blk_frozen (blk_set (blk_set HF.out.r4 0 (.int .u64 0)) 1 (.int .u64 0)) 2
   have Z:=Aside0.mk (sR.fill HF.out.sv HT.out HF.out.r4 HF.out.a4 HF.out.g4 (Nat.le_refl _) (.int .u64 0) (.int .u64 0) (.bool true))
   clear h c2
   go_enter Try.func38,Try.ntmps38
   go_wp2
   exact bodyPost_ret (results_single rfl (.cell w.heap.size 89 #[.int .u64 0,.int .u64 0,.bool true] (0,0) _ rfl Z.out.1 hu2 rfl rfl .nil)) rfl ⟨rfl,vs,vb,Z.out.2.1,Z.out.2.2⟩
  rw [if_neg c2] at h
  have t2 : (x0 == 2) = false:=beq_eq_false_iff_ne.2 c2
  clear c2
  by_cases c3 : x0 = 3
  ·have hz1 : wr.cell? ⟨w.heap.size + 1,1,none⟩ = some (.int .i64 x1):=(blk_cell HF.out.r5 1).trans rfl
   have t3 : (x0 == 3) = true:=beq_iff_eq.2 c3
   rw [if_pos c3] at h
   obtain rfl:=Option.some.inj h
   clear h c3
   obtain ⟨As,cs,hvs⟩:=Kd.R_slice HF.out.sv.rs
   obtain ⟨Ab,cb,hvb⟩:=Kd.R_slice HF.out.sv.rb
   subst hvs;subst hvb
   have g1:=(blk_cell HF.out.sv.b 1).trans rfl
   have g2:=(blk_cell HF.out.sv.b 2).trans rfl
   go_enter Try.func38,Try.ntmps38
   go_wp2
   have M0:=(sR.Md.start HF.out.sv).kept (below_drew (Below.refl wr.heap.size wr))
   have H50:=sR.Hd.kept (sR.Hd.mk HF.out.r5 HF.out.a5) (below_drew (Below.refl wr.heap.size wr))
   have H40:=sR.Hd.kept (sR.Hd.mk HF.out.r4 HF.out.a4) (below_drew (Below.refl wr.heap.size wr))
   refine start_ (n:=22) (S:=(fun w'=>w'.cell? ⟨w.heap.size + 1,1,none⟩ = some (.int .i64 x1) ∧ w'.cell? ⟨g,1,none⟩ = some (.slice As sym.length cs) ∧ w'.cell? ⟨g,2,none⟩ = some (.slice Ab beh.length cb))) (ds:=[18,21]) #[false,false,false,false,false,false,false,false,false,false,false,false,false,false,false,false,false,false,false,false,false,false] (by kernel_rfl) rfl rfl (⟨hz1,g1,g2⟩) (fun hHeld=>?_)
   refine take_ (i:=0) (N:=some 26) (v:=?_) (a':=?_) #[true,false,false,false,false,false,false,false,false,false,false,false,false,false,false,false,false,false,false,false,false,false] rfl rfl (by kernel_rfl) (fun _ _ _ h_=>h_) (Or.inl ⟨by rfl,?_⟩) hHeld ?_ ?_
   rotate_left
   ·intro w_ hSw
    (obtain ⟨hz0,hz3,hz4⟩:=hSw)
    go_simp
    first|done|with_reducible rfl
   rotate_left
   ·simp only [putAll,Act.put,List.setIfInBounds_toArray,List.set_cons_zero,List.set_cons_succ]
    rfl
   refine take_ (i:=2) (N:=some 28) (v:=?_) (a':=?_) #[true,false,true,false,false,false,false,false,false,false,false,false,false,false,false,false,false,false,false,false,false,false] rfl rfl (by kernel_rfl) (fun _ _ _ h_=>h_) (Or.inl ⟨by rfl,?_⟩) hHeld ?_ ?_
   rotate_left
   ·intro w_ hSw
    (obtain ⟨hz0,hz3,hz4⟩:=hSw)
    go_simp
    first|done|with_reducible rfl
   rotate_left
   ·simp only [putAll,Act.put,List.setIfInBounds_toArray,List.set_cons_zero,List.set_cons_succ]
    rfl
   refine take_ (i:=3) (N:=some 29) (v:=?_) (a':=?_) #[true,false,true,true,false,false,false,false,false,false,false,false,false,false,false,false,false,false,false,false,false,false] rfl rfl (by kernel_rfl) (fun _ _ _ h_=>h_) (Or.inl ⟨by rfl,?_⟩) hHeld ?_ ?_
   rotate_left
   ·intro w_ hSw
    (obtain ⟨hz0,hz3,hz4⟩:=hSw)
    go_simp
    first|done|with_reducible rfl
   rotate_left
   ·simp only [putAll,Act.put,List.setIfInBounds_toArray,List.set_cons_zero,List.set_cons_succ]
    rfl
   refine take_ (i:=4) (N:=some 30) (v:=?_) (a':=?_) #[true,false,true,true,true,false,false,false,false,false,false,false,false,false,false,false,false,false,false,false,false,false] rfl rfl (by kernel_rfl) (fun _ _ _ h_=>h_) (Or.inl ⟨by rfl,?_⟩) hHeld ?_ ?_
   rotate_left
   ·intro w_ hSw
    (obtain ⟨hz0,hz3,hz4⟩:=hSw)
    go_simp
    first|done|with_reducible rfl
   rotate_left
   ·simp only [putAll,Act.put,List.setIfInBounds_toArray,List.set_cons_zero,List.set_cons_succ]
    rfl
   refine take_ (i:=5) (N:=some 31) (v:=?_) (a':=?_) #[true,false,true,true,true,true,false,false,false,false,false,false,false,false,false,false,false,false,false,false,false,false] rfl rfl (by kernel_rfl) (fun _ _ _ h_=>h_) (Or.inl ⟨by rfl,?_⟩) hHeld ?_ ?_
   rotate_left
   ·intro w_ hSw
    (obtain ⟨hz0,hz3,hz4⟩:=hSw)
    go_simp
    first|done|with_reducible rfl
   rotate_left
   ·simp only [putAll,Act.put,List.setIfInBounds_toArray,List.set_cons_zero,List.set_cons_succ]
    rfl
   refine take_ (i:=6) (N:=some 32) (v:=?_) (a':=?_) #[true,false,true,true,true,true,true,false,false,false,false,false,false,false,false,false,false,false,false,false,false,false] rfl rfl (by kernel_rfl) (fun _ _ _ h_=>h_) (Or.inl ⟨by rfl,?_⟩) hHeld ?_ ?_
   rotate_left
   ·intro w_ hSw
    (obtain ⟨hz0,hz3,hz4⟩:=hSw)
    go_simp
    first|done|with_reducible rfl
   rotate_left
   ·simp only [putAll,Act.put,List.setIfInBounds_toArray,List.set_cons_zero,List.set_cons_succ]
    rfl
   refine take_ (i:=7) (N:=some 33) (v:=?_) (a':=?_) #[true,false,true,true,true,true,true,true,false,false,false,false,false,false,false,false,false,false,false,false,false,false] rfl rfl (by kernel_rfl) (fun _ _ _ h_=>h_) (Or.inl ⟨by rfl,?_⟩) hHeld ?_ ?_
   rotate_left
   ·intro w_ hSw
    (obtain ⟨hz0,hz3,hz4⟩:=hSw)
    go_simp
    first|done|with_reducible rfl
   rotate_left
   ·simp only [putAll,Act.put,List.setIfInBounds_toArray,List.set_cons_zero,List.set_cons_succ]
    rfl
   refine take_ (i:=10) (N:=some 36) (v:=?_) (a':=?_) #[true,false,true,true,true,true,true,true,false,false,true,false,false,false,false,false,false,false,false,false,false,false] rfl rfl (by kernel_rfl) (fun _ _ _ h_=>h_) (Or.inl ⟨by rfl,?_⟩) hHeld ?_ ?_
   rotate_left
   ·intro w_ hSw
    (obtain ⟨hz0,hz3,hz4⟩:=hSw)
    go_simp
    first|done|with_reducible rfl
   rotate_left
   ·simp only [putAll,Act.put,List.setIfInBounds_toArray,List.set_cons_zero,List.set_cons_succ]
    rfl
   refine take_ (i:=11) (N:=some 37) (v:=?_) (a':=?_) #[true,false,true,true,true,true,true,true,false,false,true,true,false,false,false,false,false,false,false,false,false,false] rfl rfl (by kernel_rfl) (fun _ _ _ h_=>h_) (Or.inl ⟨by rfl,?_⟩) hHeld ?_ ?_
   rotate_left
   ·intro w_ hSw
    (obtain ⟨hz0,hz3,hz4⟩:=hSw)
    go_simp
    first|done|with_reducible rfl
   rotate_left
   ·simp only [putAll,Act.put,List.setIfInBounds_toArray,List.set_cons_zero,List.set_cons_succ]
    rfl
   refine take_ (i:=12) (N:=some 38) (v:=?_) (a':=?_) #[true,false,true,true,true,true,true,true,false,false,true,true,true,false,false,false,false,false,false,false,false,false] rfl rfl (by kernel_rfl) (fun _ _ _ h_=>h_) (Or.inl ⟨by rfl,?_⟩) hHeld ?_ ?_
   rotate_left
   ·intro w_ hSw
    (obtain ⟨hz0,hz3,hz4⟩:=hSw)
    go_simp
    first|done|with_reducible rfl
   rotate_left
   ·simp only [putAll,Act.put,List.setIfInBounds_toArray,List.set_cons_zero,List.set_cons_succ]
    rfl
   refine take_ (i:=13) (N:=some 39) (v:=?_) (a':=?_) #[true,false,true,true,true,true,true,true,false,false,true,true,true,true,false,false,false,false,false,false,false,false] rfl rfl (by kernel_rfl) (fun _ _ _ h_=>h_) (Or.inl ⟨by rfl,?_⟩) hHeld ?_ ?_
   rotate_left
   ·intro w_ hSw
    (obtain ⟨hz0,hz3,hz4⟩:=hSw)
    go_simp
    first|done|with_reducible rfl
   rotate_left
   ·simp only [putAll,Act.put,List.setIfInBounds_toArray,List.set_cons_zero,List.set_cons_succ]
    rfl
   refine pure_ (i:=1) (N:=some 27) (v:=?_) (a':=?_) #[true,true,true,true,true,true,true,true,false,false,true,true,true,true,false,false,false,false,false,false,false,false] rfl rfl (by kernel_rfl) (fun _ _ _ h_=>h_) (Or.inl ⟨by rfl,?_⟩) ?_ ?_
   rotate_left
   ·intro w_
    go_simp
    first|done|with_reducible rfl
   rotate_left
   ·simp only [putAll,Act.put,List.setIfInBounds_toArray,List.set_cons_zero,List.set_cons_succ]
    rfl
   refine join_ (σ:=Nat × Value × Nat × Value) 6 #[true,true,true,true,true,true,true,true,true,true,true,true,true,true,true,true,false,false,false,false,false,false] (fun s=>[(34,.slice (some ⟨(s.1),0,none⟩) 1 1),(35,(s.2.1)),(40,.slice (some ⟨(s.2.2.1),0,none⟩) 1 1),(41,(s.2.2.2))]) (fun s w_=>(sR.Md w0 g (some ad) l.length c (.slice As sym.length cs) (.slice Ab beh.length cb) wr (s.2.1) (s.2.2.2) (sym ++ [x1]) (beh ++ [0]) w_) ∧ (sR.Hd g (s.2.1) (s.2.2.2) (w.heap.size + 1) #[.int .i64 x0,.int .i64 x1,.int .i64 x2] 128 w_) ∧ (sR.Hd g (s.2.1) (s.2.2.2) w.heap.size #[.int .u64 0,.int .u64 0,.bool false] 89 w_)) ?c8_9_14_15 (fun j8_9_14_15=>?_)
   rotate_left
   refine join_ (σ:=Nat × Value × Nat) 7 #[true,true,true,true,true,true,true,true,true,true,true,true,true,true,true,false,false,false,false,false,false,false] (fun s=>[(34,.slice (some ⟨(s.1),0,none⟩) 1 1),(35,(s.2.1)),(40,.slice (some ⟨(s.2.2),0,none⟩) 1 1)]) (fun s w_=>(sR.Md w0 g (some ad) l.length c (.slice As sym.length cs) (.slice Ab beh.length cb) wr (s.2.1) (.slice Ab beh.length cb) (sym ++ [x1]) beh w_) ∧ (sR.Hd g (s.2.1) (.slice Ab beh.length cb) (w.heap.size + 1) #[.int .i64 x0,.int .i64 x1,.int .i64 x2] 128 w_) ∧ (sR.Hd g (s.2.1) (.slice Ab beh.length cb) w.heap.size #[.int .u64 0,.int .u64 0,.bool false] 89 w_) ∧ (sR.Hd g (s.2.1) (.slice Ab beh.length cb) (s.2.2) #[.int .u64 0] 87 w_)) ?c8_9_14 (fun j8_9_14=>?_)
   rotate_left
   refine join_ (σ:=Nat × Value) 8 #[true,true,true,true,true,true,true,true,true,true,true,true,true,true,false,false,false,false,false,false,false,false] (fun s=>[(34,.slice (some ⟨(s.1),0,none⟩) 1 1),(35,(s.2))]) (fun s w_=>(sR.Md w0 g (some ad) l.length c (.slice As sym.length cs) (.slice Ab beh.length cb) wr (s.2) (.slice Ab beh.length cb) (sym ++ [x1]) beh w_) ∧ (sR.Hd g (s.2) (.slice Ab beh.length cb) (w.heap.size + 1) #[.int .i64 x0,.int .i64 x1,.int .i64 x2] 128 w_) ∧ (sR.Hd g (s.2) (.slice Ab beh.length cb) w.heap.size #[.int .u64 0,.int .u64 0,.bool false] 89 w_)) ?c8_9 (fun j8_9=>?_)
   rotate_left
   refine join_ (σ:=Nat × Nat) 8 #[true,true,true,true,true,true,true,true,true,false,true,true,true,true,true,false,false,false,false,false,false,false] (fun s=>[(34,.slice (some ⟨(s.1),0,none⟩) 1 1),(40,.slice (some ⟨(s.2),0,none⟩) 1 1)]) (fun s w_=>(sR.Md w0 g (some ad) l.length c (.slice As sym.length cs) (.slice Ab beh.length cb) wr (.slice As sym.length cs) (.slice Ab beh.length cb) sym beh w_) ∧ (sR.Hd g (.slice As sym.length cs) (.slice Ab beh.length cb) (w.heap.size + 1) #[.int .i64 x0,.int .i64 x1,.int .i64 x2] 128 w_) ∧ (sR.Hd g (.slice As sym.length cs) (.slice Ab beh.length cb) w.heap.size #[.int .u64 0,.int .u64 0,.bool false] 89 w_) ∧ (sR.Hd g (.slice As sym.length cs) (.slice Ab beh.length cb) (s.1) #[.int .i64 x1] 3 w_) ∧ (sR.Hd g (.slice As sym.length cs) (.slice Ab beh.length cb) (s.2) #[.int .u64 0] 87 w_)) ?c8_14 (fun j8_14=>?_)
   rotate_left
   refine join_ (σ:=Nat) 9 #[true,true,true,true,true,true,true,true,true,false,true,true,true,true,false,false,false,false,false,false,false,false] (fun s=>[(34,.slice (some ⟨(s),0,none⟩) 1 1)]) (fun s w_=>(sR.Md w0 g (some ad) l.length c (.slice As sym.length cs) (.slice Ab beh.length cb) wr (.slice As sym.length cs) (.slice Ab beh.length cb) sym beh w_) ∧ (sR.Hd g (.slice As sym.length cs) (.slice Ab beh.length cb) (w.heap.size + 1) #[.int .i64 x0,.int .i64 x1,.int .i64 x2] 128 w_) ∧ (sR.Hd g (.slice As sym.length cs) (.slice Ab beh.length cb) w.heap.size #[.int .u64 0,.int .u64 0,.bool false] 89 w_) ∧ (sR.Hd g (.slice As sym.length cs) (.slice Ab beh.length cb) (s) #[.int .i64 x1] 3 w_)) ?c8 (fun j8=>?_)
   rotate_left
   refine join_ (σ:=Nat) 9 #[true,true,true,true,true,true,true,true,false,false,true,true,true,true,true,false,false,false,false,false,false,false] (fun s=>[(40,.slice (some ⟨(s),0,none⟩) 1 1)]) (fun s w_=>(sR.Md w0 g (some ad) l.length c (.slice As sym.length cs) (.slice Ab beh.length cb) wr (.slice As sym.length cs) (.slice Ab beh.length cb) sym beh w_) ∧ (sR.Hd g (.slice As sym.length cs) (.slice Ab beh.length cb) (w.heap.size + 1) #[.int .i64 x0,.int .i64 x1,.int .i64 x2] 128 w_) ∧ (sR.Hd g (.slice As sym.length cs) (.slice Ab beh.length cb) w.heap.size #[.int .u64 0,.int .u64 0,.bool false] 89 w_) ∧ (sR.Hd g (.slice As sym.length cs) (.slice Ab beh.length cb) (s) #[.int .u64 0] 87 w_)) ?c14 (fun j14=>?_)
   rotate_left
   refine two_ (i:=8) (j:=14) (Ni:=some 34) (Nj:=some 40) #[true,true,true,true,true,true,true,true,true,false,true,true,true,true,false,false,false,false,false,false,false,false] #[true,true,true,true,true,true,true,true,false,false,true,true,true,true,true,false,false,false,false,false,false,false] rfl rfl rfl rfl (by kernel_rfl) (by decide) (by decide) (fun K_ hK_=>?_) (fun K_ hK_=>?_)
   ·go_simp
    have M6:=M0.alloc (.cells #[.int .i64 x1] 3)
    have H56:=H50.alloc (.cells #[.int .i64 x1] 3)
    have H46:=H40.alloc (.cells #[.int .i64 x1] 3)
    have N6:=M0.new #[.int .i64 x1] 3
    refine hK_.out _ _ (⟨(blk_cell H56.r 1).trans rfl,(blk_cell M6.b 1).trans rfl,(blk_cell M6.b 2).trans rfl⟩) (fun hHeld=>?_)
    exact j8 _ _ ⟨M6,H56,H46,N6⟩
   ·go_simp
    have M6:=M0.alloc (.cells #[.int .u64 0] 87)
    have H56:=H50.alloc (.cells #[.int .u64 0] 87)
    have H46:=H40.alloc (.cells #[.int .u64 0] 87)
    have N6:=M0.new #[.int .u64 0] 87
    refine hK_.out _ _ (⟨(blk_cell H56.r 1).trans rfl,(blk_cell M6.b 1).trans rfl,(blk_cell M6.b 2).trans rfl⟩) (fun hHeld=>?_)
    exact j14 _ _ ⟨M6,H56,H46,N6⟩
   case c14 =>
    rintro bb_ w_ ⟨M_,H5_,H4_,HB_⟩
    try dsimp only at M_ H5_ H4_ HB_
    refine norm_ (by simp only [putAll,Act.put,List.setIfInBounds_toArray,List.set_cons_zero,List.set_cons_succ];rfl) ?_
    have hHeld : (fun w'=>w'.cell? ⟨w.heap.size + 1,1,none⟩ = some (.int .i64 x1) ∧ w'.cell? ⟨g,1,none⟩ = some (.slice As sym.length cs) ∧ w'.cell? ⟨g,2,none⟩ = some (.slice Ab beh.length cb)) w_:=⟨(blk_cell H5_.r 1).trans rfl,(blk_cell M_.b 1).trans rfl,(blk_cell M_.b 2).trans rfl⟩
    refine one_ (i:=8) (N:=some 34) #[true,true,true,true,true,true,true,true,true,false,true,true,true,true,true,false,false,false,false,false,false,false] rfl rfl (by kernel_rfl) (by decide) (fun K_ hK_=>?_)
    go_simp
    have M6:=M_.alloc (.cells #[.int .i64 x1] 3)
    have H56:=H5_.alloc (.cells #[.int .i64 x1] 3)
    have H46:=H4_.alloc (.cells #[.int .i64 x1] 3)
    have N6:=M_.new #[.int .i64 x1] 3
    refine hK_.out _ _ (⟨(blk_cell H56.r 1).trans rfl,(blk_cell M6.b 1).trans rfl,(blk_cell M6.b 2).trans rfl⟩) (fun hHeld=>?_)
    exact j8_14 ⟨_,bb_⟩ _ ⟨M6,H56,H46,N6,HB_.alloc _⟩
   case c8 =>
    rintro ba_ w_ ⟨M_,H5_,H4_,HA_⟩
    try dsimp only at M_ H5_ H4_ HA_
    refine norm_ (by simp only [putAll,Act.put,List.setIfInBounds_toArray,List.set_cons_zero,List.set_cons_succ];rfl) ?_
    have hHeld : (fun w'=>w'.cell? ⟨w.heap.size + 1,1,none⟩ = some (.int .i64 x1) ∧ w'.cell? ⟨g,1,none⟩ = some (.slice As sym.length cs) ∧ w'.cell? ⟨g,2,none⟩ = some (.slice Ab beh.length cb)) w_:=⟨(blk_cell H5_.r 1).trans rfl,(blk_cell M_.b 1).trans rfl,(blk_cell M_.b 2).trans rfl⟩
    refine two_ (i:=9) (j:=14) (Ni:=some 35) (Nj:=some 40) #[true,true,true,true,true,true,true,true,true,true,true,true,true,true,false,false,false,false,false,false,false,false] #[true,true,true,true,true,true,true,true,true,false,true,true,true,true,true,false,false,false,false,false,false,false] rfl rfl rfl rfl (by kernel_rfl) (by decide) (by decide) (fun K_ hK_=>?_) (fun K_ hK_=>?_)
    ·refine Kd.R_append_rows_step (Kd.int .i64) (w0:=w0) w0.heap.size (by rfl) (.tmp 31) (.tmp 34) 24 3 (.int .i64 0) 8 rfl Try.underlying24 sR.info3 rfl (by decide) (by decide) (.slice As sym.length cs) sym [x1] (some ⟨ba_,0,none⟩) 1 1 (fun k=>k ≠ g) (fun _=>False) rfl rfl M_.rs HA_.row ?xm ?xo ?xf M_.below (below_size M_.below) ?xl ?_
     case xm=>intro x_ cs_ e_;exact e_
     case xo=>exact fun k hk=>hk.elim
     case xf=>exact fun k hk=>(by have h_:=blk_lt M_.b;omega)
     case xl=>have h_:=S50.out;omega
     intro v3_ w6 hr1 hb1 hg1 hat1
     have M6:=M_.pushS hr1 hb1 hg1 hat1
     have H56:=H5_.grownS hg1 hat1
     have H46:=H4_.grownS hg1 hat1
     refine hK_.out _ _ (⟨(blk_cell H56.r 1).trans rfl,(blk_cell M6.b 1).trans rfl,(blk_cell M6.b 2).trans rfl⟩) (fun hHeld=>?_)
     exact j8_9 ⟨ba_,v3_⟩ _ ⟨M6,H56,H46⟩
    ·go_simp
     have M6:=M_.alloc (.cells #[.int .u64 0] 87)
     have H56:=H5_.alloc (.cells #[.int .u64 0] 87)
     have H46:=H4_.alloc (.cells #[.int .u64 0] 87)
     have N6:=M_.new #[.int .u64 0] 87
     refine hK_.out _ _ (⟨(blk_cell H56.r 1).trans rfl,(blk_cell M6.b 1).trans rfl,(blk_cell M6.b 2).trans rfl⟩) (fun hHeld=>?_)
     exact j8_14 ⟨ba_,_⟩ _ ⟨M6,H56,H46,HA_.alloc _,N6⟩
   case c8_14 =>
    rintro ⟨ba_,bb_⟩ w_ ⟨M_,H5_,H4_,HA_,HB_⟩
    try dsimp only at M_ H5_ H4_ HA_ HB_
    refine norm_ (by simp only [putAll,Act.put,List.setIfInBounds_toArray,List.set_cons_zero,List.set_cons_succ];rfl) ?_
    have hHeld : (fun w'=>w'.cell? ⟨w.heap.size + 1,1,none⟩ = some (.int .i64 x1) ∧ w'.cell? ⟨g,1,none⟩ = some (.slice As sym.length cs) ∧ w'.cell? ⟨g,2,none⟩ = some (.slice Ab beh.length cb)) w_:=⟨(blk_cell H5_.r 1).trans rfl,(blk_cell M_.b 1).trans rfl,(blk_cell M_.b 2).trans rfl⟩
    refine one_ (i:=9) (N:=some 35) #[true,true,true,true,true,true,true,true,true,true,true,true,true,true,true,false,false,false,false,false,false,false] rfl rfl (by kernel_rfl) (by decide) (fun K_ hK_=>?_)
    refine Kd.R_append_rows_step (Kd.int .i64) (w0:=w0) w0.heap.size (by rfl) (.tmp 31) (.tmp 34) 24 3 (.int .i64 0) 8 rfl Try.underlying24 sR.info3 rfl (by decide) (by decide) (.slice As sym.length cs) sym [x1] (some ⟨ba_,0,none⟩) 1 1 (fun k=>k ≠ g) (fun _=>False) rfl rfl M_.rs HA_.row ?xm ?xo ?xf M_.below (below_size M_.below) ?xl ?_
    case xm=>intro x_ cs_ e_;exact e_
    case xo=>exact fun k hk=>hk.elim
    case xf=>exact fun k hk=>(by have h_:=blk_lt M_.b;omega)
    case xl=>have h_:=S50.out;omega
    intro v3_ w6 hr1 hb1 hg1 hat1
    have M6:=M_.pushS hr1 hb1 hg1 hat1
    have H56:=H5_.grownS hg1 hat1
    have H46:=H4_.grownS hg1 hat1
    refine hK_.out _ _ (⟨(blk_cell H56.r 1).trans rfl,(blk_cell M6.b 1).trans rfl,(blk_cell M6.b 2).trans rfl⟩) (fun hHeld=>?_)
    exact j8_9_14 ⟨ba_,v3_,bb_⟩ _ ⟨M6,H56,H46,HB_.grownS hg1 hat1⟩
   case c8_9 =>
    rintro ⟨ba_,v1_⟩ w_ ⟨M_,H5_,H4_⟩
    try dsimp only at M_ H5_ H4_
    refine norm_ (by simp only [putAll,Act.put,List.setIfInBounds_toArray,List.set_cons_zero,List.set_cons_succ];rfl) ?_
    have hHeld : (fun w'=>w'.cell? ⟨w.heap.size + 1,1,none⟩ = some (.int .i64 x1) ∧ w'.cell? ⟨g,1,none⟩ = some (.slice As sym.length cs) ∧ w'.cell? ⟨g,2,none⟩ = some (.slice Ab beh.length cb)) w_:=⟨(blk_cell H5_.r 1).trans rfl,(blk_cell M_.b 1).trans rfl,(blk_cell M_.b 2).trans rfl⟩
    refine one_ (i:=14) (N:=some 40) #[true,true,true,true,true,true,true,true,true,true,true,true,true,true,true,false,false,false,false,false,false,false] rfl rfl (by kernel_rfl) (by decide) (fun K_ hK_=>?_)
    go_simp
    have M6:=M_.alloc (.cells #[.int .u64 0] 87)
    have H56:=H5_.alloc (.cells #[.int .u64 0] 87)
    have H46:=H4_.alloc (.cells #[.int .u64 0] 87)
    have N6:=M_.new #[.int .u64 0] 87
    refine hK_.out _ _ (⟨(blk_cell H56.r 1).trans rfl,(blk_cell M6.b 1).trans rfl,(blk_cell M6.b 2).trans rfl⟩) (fun hHeld=>?_)
    exact j8_9_14 ⟨ba_,v1_,_⟩ _ ⟨M6,H56,H46,N6⟩
   case c8_9_14 =>
    rintro ⟨ba_,v1_,bb_⟩ w_ ⟨M_,H5_,H4_,HB_⟩
    try dsimp only at M_ H5_ H4_ HB_
    refine norm_ (by simp only [putAll,Act.put,List.setIfInBounds_toArray,List.set_cons_zero,List.set_cons_succ];rfl) ?_
    have hHeld : (fun w'=>w'.cell? ⟨w.heap.size + 1,1,none⟩ = some (.int .i64 x1) ∧ w'.cell? ⟨g,1,none⟩ = some (.slice As sym.length cs) ∧ w'.cell? ⟨g,2,none⟩ = some (.slice Ab beh.length cb)) w_:=⟨(blk_cell H5_.r 1).trans rfl,(blk_cell M_.b 1).trans rfl,(blk_cell M_.b 2).trans rfl⟩
    refine one_ (i:=15) (N:=some 41) #[true,true,true,true,true,true,true,true,true,true,true,true,true,true,true,true,false,false,false,false,false,false] rfl rfl (by kernel_rfl) (by decide) (fun K_ hK_=>?_)
    refine Kd.R_append_rows_step (Kd.int .u64) (w0:=w0) w0.heap.size (by rfl) (.tmp 39) (.tmp 40) 84 87 (.int .u64 0) 8 rfl Try.underlying84 sR.infoU rfl (by decide) (by decide) (.slice Ab beh.length cb) beh [0] (some ⟨bb_,0,none⟩) 1 1 (fun k=>k ≠ g) (fun _=>False) rfl rfl M_.rb HB_.row ?xm ?xo ?xf M_.below (below_size M_.below) ?xl ?_
    case xm=>intro x_ cs_ e_;exact e_
    case xo=>exact fun k hk=>hk.elim
    case xf=>exact fun k hk=>(by have h_:=blk_lt M_.b;omega)
    case xl=>have h_:=B50.out;omega
    intro v3_ w6 hr1 hb1 hg1 hat1
    have M6:=M_.pushB hr1 hb1 hg1 hat1
    have H56:=H5_.grownB hg1 hat1
    have H46:=H4_.grownB hg1 hat1
    refine hK_.out _ _ (⟨(blk_cell H56.r 1).trans rfl,(blk_cell M6.b 1).trans rfl,(blk_cell M6.b 2).trans rfl⟩) (fun hHeld=>?_)
    exact j8_9_14_15 ⟨ba_,v1_,bb_,v3_⟩ _ ⟨M6,H56,H46⟩
   case c8_9_14_15 =>
    rintro ⟨ba_,v1_,bb_,v2_⟩ w_ ⟨M_,H5_,H4_⟩
    try dsimp only at M_ H5_ H4_
    refine norm_ (by simp only [putAll,Act.put,List.setIfInBounds_toArray,List.set_cons_zero,List.set_cons_succ];rfl) ?_
    have hHeld : (fun w'=>w'.cell? ⟨w.heap.size + 1,1,none⟩ = some (.int .i64 x1) ∧ w'.cell? ⟨g,1,none⟩ = some (.slice As sym.length cs) ∧ w'.cell? ⟨g,2,none⟩ = some (.slice Ab beh.length cb)) w_:=⟨(blk_cell H5_.r 1).trans rfl,(blk_cell M_.b 1).trans rfl,(blk_cell M_.b 2).trans rfl⟩
    refine pure_ (i:=16) (N:=some 42) (v:=?_) (a':=?_) #[true,true,true,true,true,true,true,true,true,true,true,true,true,true,true,true,true,false,false,false,false,false] rfl rfl (by kernel_rfl) (fun _ _ _ h_=>h_) (Or.inl ⟨by rfl,?_⟩) ?_ ?_
    rotate_left
    ·intro w_
     go_simp
     first|done|with_reducible rfl
    rotate_left
    ·simp only [putAll,Act.put,List.setIfInBounds_toArray,List.set_cons_zero,List.set_cons_succ]
     rfl
    refine pure_ (i:=17) (N:=some 43) (v:=?_) (a':=?_) #[true,true,true,true,true,true,true,true,true,true,true,true,true,true,true,true,true,true,false,false,false,false] rfl rfl (by kernel_rfl) (fun _ _ _ h_=>h_) (Or.inl ⟨by rfl,?_⟩) ?_ ?_
    rotate_left
    ·intro w_
     go_simp
     first|done|with_reducible rfl
    rotate_left
    ·simp only [putAll,Act.put,List.setIfInBounds_toArray,List.set_cons_zero,List.set_cons_succ]
     rfl
    have hn1 : (sym ++ [x1]).length = sym.length + 1:=by simp
    obtain ⟨B1_,c1_,hv1⟩:=Kd.R_slice M_.rs
    obtain ⟨B2_,c2_,hv2⟩:=Kd.R_slice M_.rb
    rw [hn1] at hv1
    generalize (beh ++ [0]).length = n2_ at hv2
    subst hv1;subst hv2
    have e1:=(blk_cell M_.b 1).trans rfl
    have e2:=(blk_cell M_.b 2).trans rfl
    have e1f:=blk_frozen M_.b 1
    have e2f:=blk_frozen (blk_set M_.b 1 (.slice B1_ (sym.length + 1) c1_)) 2
    refine last_ (i:=18) (N:=none) #[true,true,true,true,true,true,true,true,true,true,true,true,true,true,true,true,true,true,true,false,false,false] rfl rfl (by kernel_rfl) (by decide) (fun K_ hK_=>?_)
    go_simp
    refine hK_.out _ _ ?_
    clear hK_ K_
    try (refine norm_ (by simp only [putAll,Act.put,List.setIfInBounds_toArray,List.set_cons_zero,List.set_cons_succ];rfl) ?_)
    refine pure_ (i:=19) (N:=some 44) (v:=?_) (a':=?_) #[true,true,true,true,true,true,true,true,true,true,true,true,true,true,true,true,true,true,true,true,false,false] rfl rfl (by kernel_rfl) (fun _ _ _ h_=>h_) (Or.inl ⟨by rfl,?_⟩) ?_ ?_
    rotate_left
    ·intro w_
     go_simp
     first|done|with_reducible rfl
    rotate_left
    ·simp only [putAll,Act.put,List.setIfInBounds_toArray,List.set_cons_zero,List.set_cons_succ]
     rfl
    refine pure_ (i:=20) (N:=some 45) (v:=?_) (a':=?_) #[true,true,true,true,true,true,true,true,true,true,true,true,true,true,true,true,true,true,true,true,true,false] rfl rfl (by kernel_rfl) (fun _ _ _ h_=>h_) (Or.inl ⟨by rfl,?_⟩) ?_ ?_
    rotate_left
    ·intro w_
     go_simp
     first|done|with_reducible rfl
    rotate_left
    ·simp only [putAll,Act.put,List.setIfInBounds_toArray,List.set_cons_zero,List.set_cons_succ]
     rfl
    refine last_ (i:=21) (N:=none) #[true,true,true,true,true,true,true,true,true,true,true,true,true,true,true,true,true,true,true,true,true,true] rfl rfl (by kernel_rfl) (by decide) (fun K_ hK_=>?_)
    go_simp
    refine hK_.out _ _ ?_
    clear hK_ K_
    try (refine norm_ (by simp only [putAll,Act.put,List.setIfInBounds_toArray,List.set_cons_zero,List.set_cons_succ];rfl) ?_)
    refine done_ (by kernel_rfl) ?_
    clear e1 e2 e1f e2f g1 g2 hHeld
    obtain ⟨hsF,htF⟩:=M_.fin
    have h4F:=blk_far (p:=⟨g,2,none⟩) (blk_far (p:=⟨g,1,none⟩) H4_.r H4_.a.1 (.slice B1_ (sym.length + 1) c1_)) H4_.a.1 (.slice B2_ n2_ c2_)
    generalize (w_.setCell ⟨g,1,none⟩ (.slice B1_ (sym.length + 1) c1_)).setCell ⟨g,2,none⟩ (.slice B2_ n2_ c2_) = wF at hsF htF h4F ⊢
    have gF1:=(blk_cell hsF.b 1).trans rfl
    have r40:=(blk_cell h4F 0).trans rfl
    have r41:=(blk_cell h4F 1).trans rfl
    have r42:=(blk_cell h4F 2).trans rfl
    have f0:=blk_frozen h4F 0
    have f1_:=blk_frozen (blk_set h4F 0 (.int .u64 (IntKind.u64.wrap (2 ^ sym.length)))) 1
    have f2_:=blk_frozen (blk_set (blk_set h4F 0 (.int .u64 (IntKind.u64.wrap (2 ^ sym.length)))) 1 (.int .u64 (IntKind.u64.wrap (2 ^ sym.length)))) 2
    have Z:=Aside0.mk (sR.fill hsF (HT.out.trans htF) h4F H4_.a HF.out.g4 (Nat.le_refl _) (.int .u64 (IntKind.u64.wrap (2 ^ sym.length))) (.int .u64 (IntKind.u64.wrap (2 ^ sym.length))) (.bool false))
    have es : IntKind.i64.wrap (((sym.length + 1 : Nat) : Int) - 1) = (sym.length : Int):=by have:=S50.out;rw [i64_w,wrap64];omega
    have es2 : wrap64 ((sym.length : Int) + 1 - 1) = (sym.length : Int):=by have:=S50.out;rw [wrap64];omega
    have h50:=S50.out
    clear hn1 M_ H5_ H4_ hsF htF h4F
    go_wp2
    exact bodyPost_ret (results_single rfl (.cell w.heap.size 89 #[.int .u64 (IntKind.u64.wrap (2 ^ sym.length)),.int .u64 (IntKind.u64.wrap (2 ^ sym.length)),.bool false] (0,0) _ rfl Z.out.1 hu2 rfl rfl .nil)) rfl ⟨rfl,_,_,Z.out.2.1,Z.out.2.2⟩
  rw [if_neg c3] at h
  have t3 : (x0 == 3) = false:=beq_eq_false_iff_ne.2 c3
  clear c3
  by_cases c6 : x0 = 6
  ·rw [if_pos c6] at h
   have t6 : (x0 == 6) = true:=beq_iff_eq.2 c6
   clear c6
   obtain ⟨p,hp,h⟩:=Option.bind_eq_some_iff.mp h
   by_cases cl : p.2.2.2.2.length ≤ 50
   case neg=>rw [if_neg cl] at h;cases h
   rw [if_pos cl] at h
   obtain rfl:=Option.some.inj h
   obtain ⟨f1,f2,f3,sy,be⟩:=p
   dsimp only at cl ⊢
   have hz1 : wr.cell? ⟨w.heap.size + 1,1,none⟩ = some (.int .i64 x1):=(blk_cell HF.out.r5 1).trans rfl
   have K1:=Aside0.mk (IH.out x1 vs vb sym beh wr _ HF.out.sv hp)
   have CL:=Aside0.mk cl
   clear h hp cl
   go_enter Try.func38,Try.ntmps38
   go_wp2_with ((first|(go_at_call 38;refine K1.out.mono ?_)|(refine K1.out.mono ?_));(first|rintro e w6 ⟨rfl,vs6,vb6,hs6,ht6⟩|(intro e w6 he vs6 vb6 hs6 ht6;subst he));have F6:=Aside0.mk (HF.out.call hs6 ht6);clear hs6 ht6)
   have BX:=Aside0.mk (F6.out.box f1 f2 f3)
   have F7:=Aside0.mk (F6.out.alloc (.cells #[.int .u64 f1,.int .u64 f2,.bool f3] 89))
   generalize w6.alloc (.cells #[.int .u64 f1,.int .u64 f2,.bool f3] 89) = w7 at BX F7 ⊢
   generalize w6.heap.size = b7 at BX ⊢
   have J7:=Aside0.mk (sR.join_calls F7.out.sv (by have:=CL.out;omega) f2 f1)
   clear F6 K1 r40 r41 r42 hz0 hz1
   go_wp2_with ((first|(go_at_call 71;refine J7.out.mono ?_)|(refine J7.out.mono ?_));(first|rintro e w8 ⟨rfl,hs8,ht8⟩|(intro e w8 he hs8 ht8;subst he));have F8:=Aside0.mk (F7.out.call hs8 ht8);have B8:=Aside0.mk (BX.out.call ht8);clear hs8 ht8;have k70:=(blk_cell B8.out.r 0).trans rfl;have k71:=(blk_cell B8.out.r 1).trans rfl;have k72:=(blk_cell B8.out.r 2).trans rfl;have k7f:=blk_frozen B8.out.r 2;(obtain ⟨w9,hw9⟩ : ∃ w9,w8.setCell ⟨b7,2,none⟩ (.bool true) = w9:=⟨_,rfl⟩);have F9:=Aside0.mk (F8.out.set B8.out 2 (.bool true));have R9:=Aside0.mk (blk_set B8.out.r 2 (.bool true));rw [hw9] at F9 R9;have m70:=(blk_cell R9.out 0).trans rfl;have m71:=(blk_cell R9.out 1).trans rfl;have m72:=(blk_cell R9.out 2).trans rfl;have r40:=(blk_cell F9.out.r4 0).trans rfl;have r41:=(blk_cell F9.out.r4 1).trans rfl;have r42:=(blk_cell F9.out.r4 2).trans rfl;have f0:=blk_frozen F9.out.r4 0;have f1_:=blk_frozen (blk_set F9.out.r4 0 (.int .u64 f1)) 1;have f2_:=blk_frozen (blk_set (blk_set F9.out.r4 0 (.int .u64 f1)) 1 (.int .u64 f2)) 2;have Z:=Aside0.mk (sR.fill F9.out.sv (HT.out.trans F9.out.tt) F9.out.r4 F9.out.a4 F9.out.g4 (Nat.le_refl _) (.int .u64 f1) (.int .u64 f2) (.bool true)))
   exact bodyPost_ret (results_single rfl (.cell w.heap.size 89 #[.int .u64 f1,.int .u64 f2,.bool true] (0,0) _ rfl Z.out.1 hu2 rfl rfl .nil)) rfl ⟨rfl,_,_,Z.out.2.1,Z.out.2.2⟩
  rw [if_neg c6] at h
  have t6 : (x0 == 6) = false:=beq_eq_false_iff_ne.2 c6
  clear c6
  have hz1 : wr.cell? ⟨w.heap.size + 1,1,none⟩ = some (.int .i64 x1):=(blk_cell HF.out.r5 1).trans rfl
  have hz2 : wr.cell? ⟨w.heap.size + 1,2,none⟩ = some (.int .i64 x2):=(blk_cell HF.out.r5 2).trans rfl
  by_cases c5 : x0 = 5
  ·rw [if_pos c5] at h
   have t5 : (x0 == 5) = true:=beq_iff_eq.2 c5
   clear c5
   obtain ⟨p,hp,h⟩:=Option.bind_eq_some_iff.mp h
   obtain ⟨r,hr,h⟩:=Option.bind_eq_some_iff.mp h
   obtain rfl:=Option.some.inj h
   obtain ⟨p1,p2,p3,ps,pb⟩:=p
   obtain ⟨r1,r2,r3,rs,rb⟩:=r
   dsimp only at hr ⊢
   have K1:=Aside0.mk (fun vs' vb' w' hs=>IH.out x1 vs' vb' sym beh w' _ hs hp)
   have K2:=Aside0.mk (fun vs' vb' w' hs=>IH.out x2 vs' vb' ps pb w' _ hs hr)
   clear h hp hr
   go_enter Try.func38,Try.ntmps38
   go_wp2
   refine start_ (n:=12) (S:=(fun w'=>w'.cell? ⟨w.heap.size + 1,1,none⟩ = some (.int .i64 x1) ∧ w'.cell? ⟨w.heap.size + 1,2,none⟩ = some (.int .i64 x2))) (ds:=[]) #[false,false,false,false,false,false,false,false,false,false,false,false] (by kernel_rfl) rfl rfl (⟨hz1,hz2⟩) (fun hHeld=>?_)
   refine take_ (i:=0) (N:=some 72) (v:=?_) (a':=?_) #[true,false,false,false,false,false,false,false,false,false,false,false] rfl rfl (by kernel_rfl) (fun _ _ _ h_=>h_) (Or.inl ⟨by rfl,?_⟩) hHeld ?_ ?_
   rotate_left
   ·intro w_ hSw
    (obtain ⟨hz0,hz1⟩:=hSw)
    go_simp
    first|done|with_reducible rfl
   rotate_left
   ·simp only [putAll,Act.put,List.setIfInBounds_toArray,List.set_cons_zero,List.set_cons_succ]
    rfl
   refine take_ (i:=1) (N:=some 73) (v:=?_) (a':=?_) #[true,true,false,false,false,false,false,false,false,false,false,false] rfl rfl (by kernel_rfl) (fun _ _ _ h_=>h_) (Or.inl ⟨by rfl,?_⟩) hHeld ?_ ?_
   rotate_left
   ·intro w_ hSw
    (obtain ⟨hz0,hz1⟩:=hSw)
    go_simp
    first|done|with_reducible rfl
   rotate_left
   ·simp only [putAll,Act.put,List.setIfInBounds_toArray,List.set_cons_zero,List.set_cons_succ]
    rfl
   refine take_ (i:=2) (N:=some 74) (v:=?_) (a':=?_) #[true,true,true,false,false,false,false,false,false,false,false,false] rfl rfl (by kernel_rfl) (fun _ _ _ h_=>h_) (Or.inl ⟨by rfl,?_⟩) hHeld ?_ ?_
   rotate_left
   ·intro w_ hSw
    (obtain ⟨hz0,hz1⟩:=hSw)
    go_simp
    first|done|with_reducible rfl
   rotate_left
   ·simp only [putAll,Act.put,List.setIfInBounds_toArray,List.set_cons_zero,List.set_cons_succ]
    rfl
   refine take_ (i:=4) (N:=some 76) (v:=?_) (a':=?_) #[true,true,true,false,true,false,false,false,false,false,false,false] rfl rfl (by kernel_rfl) (fun _ _ _ h_=>h_) (Or.inl ⟨by rfl,?_⟩) hHeld ?_ ?_
   rotate_left
   ·intro w_ hSw
    (obtain ⟨hz0,hz1⟩:=hSw)
    go_simp
    first|done|with_reducible rfl
   rotate_left
   ·simp only [putAll,Act.put,List.setIfInBounds_toArray,List.set_cons_zero,List.set_cons_succ]
    rfl
   refine take_ (i:=5) (N:=some 77) (v:=?_) (a':=?_) #[true,true,true,false,true,true,false,false,false,false,false,false] rfl rfl (by kernel_rfl) (fun _ _ _ h_=>h_) (Or.inl ⟨by rfl,?_⟩) hHeld ?_ ?_
   rotate_left
   ·intro w_ hSw
    (obtain ⟨hz0,hz1⟩:=hSw)
    go_simp
    first|done|with_reducible rfl
   rotate_left
   ·simp only [putAll,Act.put,List.setIfInBounds_toArray,List.set_cons_zero,List.set_cons_succ]
    rfl
   refine take_ (i:=6) (N:=some 78) (v:=?_) (a':=?_) #[true,true,true,false,true,true,true,false,false,false,false,false] rfl rfl (by kernel_rfl) (fun _ _ _ h_=>h_) (Or.inl ⟨by rfl,?_⟩) hHeld ?_ ?_
   rotate_left
   ·intro w_ hSw
    (obtain ⟨hz0,hz1⟩:=hSw)
    go_simp
    first|done|with_reducible rfl
   rotate_left
   ·simp only [putAll,Act.put,List.setIfInBounds_toArray,List.set_cons_zero,List.set_cons_succ]
    rfl
   refine join_ (σ:=Value × Value × Nat × Nat) 2 #[true,true,true,true,true,true,true,true,true,true,false,false] (fun s=>[(75,.agg #[.int .u64 p1,.int .u64 p2,.bool p3]),(79,.agg #[.int .u64 r1,.int .u64 r2,.bool r3]),(8,.pointer (some ⟨(s.2.2.1),0,none⟩)),(9,.pointer (some ⟨(s.2.2.2),0,none⟩))]) (fun s w_=>(sR.Fr w0 g (some ad) l.length c vs vb w.heap.size (w.heap.size + 1) x0 x1 x2 wr (s.1) (s.2.1) rs rb w_) ∧ (sR.Bx w0 g (s.1) (s.2.1) wr (s.2.2.1) 0 0 false w_) ∧ (sR.Bx w0 g (s.1) (s.2.1) wr (s.2.2.2) 0 0 false w_) ∧ ((s.2.2.1) ≠ (s.2.2.2))) ?c3_7_8_9 (fun j3_7_8_9=>?_)
   rotate_left
   refine join_ (σ:=Value × Value × Nat) 3 #[true,true,true,true,true,true,true,true,true,false,false,false] (fun s=>[(75,.agg #[.int .u64 p1,.int .u64 p2,.bool p3]),(79,.agg #[.int .u64 r1,.int .u64 r2,.bool r3]),(8,.pointer (some ⟨(s.2.2),0,none⟩))]) (fun s w_=>(sR.Fr w0 g (some ad) l.length c vs vb w.heap.size (w.heap.size + 1) x0 x1 x2 wr (s.1) (s.2.1) rs rb w_) ∧ (sR.Bx w0 g (s.1) (s.2.1) wr (s.2.2) 0 0 false w_)) ?c3_7_8 (fun j3_7_8=>?_)
   rotate_left
   refine join_ (σ:=Value × Value × Nat) 3 #[true,true,true,true,true,true,true,true,false,true,false,false] (fun s=>[(75,.agg #[.int .u64 p1,.int .u64 p2,.bool p3]),(79,.agg #[.int .u64 r1,.int .u64 r2,.bool r3]),(9,.pointer (some ⟨(s.2.2),0,none⟩))]) (fun s w_=>(sR.Fr w0 g (some ad) l.length c vs vb w.heap.size (w.heap.size + 1) x0 x1 x2 wr (s.1) (s.2.1) rs rb w_) ∧ (sR.Bx w0 g (s.1) (s.2.1) wr (s.2.2) 0 0 false w_)) ?c3_7_9 (fun j3_7_9=>?_)
   rotate_left
   refine join_ (σ:=Value × Value × Nat × Nat) 3 #[true,true,true,true,true,true,true,false,true,true,false,false] (fun s=>[(75,.agg #[.int .u64 p1,.int .u64 p2,.bool p3]),(8,.pointer (some ⟨(s.2.2.1),0,none⟩)),(9,.pointer (some ⟨(s.2.2.2),0,none⟩))]) (fun s w_=>(sR.Fr w0 g (some ad) l.length c vs vb w.heap.size (w.heap.size + 1) x0 x1 x2 wr (s.1) (s.2.1) ps pb w_) ∧ (sR.Bx w0 g (s.1) (s.2.1) wr (s.2.2.1) 0 0 false w_) ∧ (sR.Bx w0 g (s.1) (s.2.1) wr (s.2.2.2) 0 0 false w_) ∧ ((s.2.2.1) ≠ (s.2.2.2))) ?c3_8_9 (fun j3_8_9=>?_)
   rotate_left
   refine join_ (σ:=Value × Value) 4 #[true,true,true,true,true,true,true,true,false,false,false,false] (fun s=>[(75,.agg #[.int .u64 p1,.int .u64 p2,.bool p3]),(79,.agg #[.int .u64 r1,.int .u64 r2,.bool r3])]) (fun s w_=>(sR.Fr w0 g (some ad) l.length c vs vb w.heap.size (w.heap.size + 1) x0 x1 x2 wr (s.1) (s.2) rs rb w_)) ?c3_7 (fun j3_7=>?_)
   rotate_left
   refine join_ (σ:=Value × Value × Nat) 4 #[true,true,true,true,true,true,true,false,true,false,false,false] (fun s=>[(75,.agg #[.int .u64 p1,.int .u64 p2,.bool p3]),(8,.pointer (some ⟨(s.2.2),0,none⟩))]) (fun s w_=>(sR.Fr w0 g (some ad) l.length c vs vb w.heap.size (w.heap.size + 1) x0 x1 x2 wr (s.1) (s.2.1) ps pb w_) ∧ (sR.Bx w0 g (s.1) (s.2.1) wr (s.2.2) 0 0 false w_)) ?c3_8 (fun j3_8=>?_)
   rotate_left
   refine join_ (σ:=Value × Value × Nat) 4 #[true,true,true,true,true,true,true,false,false,true,false,false] (fun s=>[(75,.agg #[.int .u64 p1,.int .u64 p2,.bool p3]),(9,.pointer (some ⟨(s.2.2),0,none⟩))]) (fun s w_=>(sR.Fr w0 g (some ad) l.length c vs vb w.heap.size (w.heap.size + 1) x0 x1 x2 wr (s.1) (s.2.1) ps pb w_) ∧ (sR.Bx w0 g (s.1) (s.2.1) wr (s.2.2) 0 0 false w_)) ?c3_9 (fun j3_9=>?_)
   rotate_left
   refine join_ (σ:=Value × Value × Nat × Nat) 4 #[true,true,true,false,true,true,true,false,true,true,false,false] (fun s=>[(8,.pointer (some ⟨(s.2.2.1),0,none⟩)),(9,.pointer (some ⟨(s.2.2.2),0,none⟩))]) (fun s w_=>(sR.Fr w0 g (some ad) l.length c vs vb w.heap.size (w.heap.size + 1) x0 x1 x2 wr (s.1) (s.2.1) sym beh w_) ∧ (sR.Bx w0 g (s.1) (s.2.1) wr (s.2.2.1) 0 0 false w_) ∧ (sR.Bx w0 g (s.1) (s.2.1) wr (s.2.2.2) 0 0 false w_) ∧ ((s.2.2.1) ≠ (s.2.2.2))) ?c8_9 (fun j8_9=>?_)
   rotate_left
   refine join_ (σ:=Value × Value) 5 #[true,true,true,true,true,true,true,false,false,false,false,false] (fun s=>[(75,.agg #[.int .u64 p1,.int .u64 p2,.bool p3])]) (fun s w_=>(sR.Fr w0 g (some ad) l.length c vs vb w.heap.size (w.heap.size + 1) x0 x1 x2 wr (s.1) (s.2) ps pb w_)) ?c3 (fun j3=>?_)
   rotate_left
   refine join_ (σ:=Value × Value × Nat) 5 #[true,true,true,false,true,true,true,false,true,false,false,false] (fun s=>[(8,.pointer (some ⟨(s.2.2),0,none⟩))]) (fun s w_=>(sR.Fr w0 g (some ad) l.length c vs vb w.heap.size (w.heap.size + 1) x0 x1 x2 wr (s.1) (s.2.1) sym beh w_) ∧ (sR.Bx w0 g (s.1) (s.2.1) wr (s.2.2) 0 0 false w_)) ?c8 (fun j8=>?_)
   rotate_left
   refine join_ (σ:=Value × Value × Nat) 5 #[true,true,true,false,true,true,true,false,false,true,false,false] (fun s=>[(9,.pointer (some ⟨(s.2.2),0,none⟩))]) (fun s w_=>(sR.Fr w0 g (some ad) l.length c vs vb w.heap.size (w.heap.size + 1) x0 x1 x2 wr (s.1) (s.2.1) sym beh w_) ∧ (sR.Bx w0 g (s.1) (s.2.1) wr (s.2.2) 0 0 false w_)) ?c9 (fun j9=>?_)
   rotate_left
   refine three_ (i:=3) (j:=8) (k:=9) (Ni:=some 75) (Nj:=some 8) (Nk:=some 9) #[true,true,true,true,true,true,true,false,false,false,false,false] #[true,true,true,false,true,true,true,false,true,false,false,false] #[true,true,true,false,true,true,true,false,false,true,false,false] rfl rfl rfl rfl rfl rfl (by kernel_rfl) (by decide) (by decide) (by decide) (fun K_ hK_=>?_) (fun K_ hK_=>?_) (fun K_ hK_=>?_)
   ·go_simp
    ((first|(go_at_call 38;refine (K1.out _ _ _ HF.out.drewN.sv).mono ?_)|(refine (K1.out _ _ _ HF.out.drewN.sv).mono ?_));(first|rintro e w6 ⟨rfl,vs6,vb6,hs6,ht6⟩|(intro e w6 he vs6 vb6 hs6 ht6;subst he)))
    have F6:=HF.out.drewN.call hs6 ht6
    refine hK_.out _ _ (⟨(blk_cell F6.r5 1).trans rfl,(blk_cell F6.r5 2).trans rfl⟩) (fun hHeld=>?_)
    exact j3 ⟨vs6,vb6⟩ _ (F6)
   ·go_simp
    have F6:=HF.out.drewN.alloc (.cells #[.int .u64 0,.int .u64 0,.bool false] 89)
    have X6:=HF.out.drewN.box 0 0 false
    refine hK_.out _ _ (⟨(blk_cell F6.r5 1).trans rfl,(blk_cell F6.r5 2).trans rfl⟩) (fun hHeld=>?_)
    exact j8 ⟨vs,vb,_⟩ _ ⟨F6,X6⟩
   ·go_simp
    have F6:=HF.out.drewN.alloc (.cells #[.int .u64 0,.int .u64 0,.bool false] 89)
    have X6:=HF.out.drewN.box 0 0 false
    refine hK_.out _ _ (⟨(blk_cell F6.r5 1).trans rfl,(blk_cell F6.r5 2).trans rfl⟩) (fun hHeld=>?_)
    exact j9 ⟨vs,vb,_⟩ _ ⟨F6,X6⟩
   case c9 =>
    rintro ⟨vs_,vb_,b9_⟩ w_ ⟨F_,X9_⟩
    try dsimp only at F_ X9_
    refine norm_ (by simp only [putAll,Act.put,List.setIfInBounds_toArray,List.set_cons_zero,List.set_cons_succ];rfl) ?_
    have hHeld : (fun w'=>w'.cell? ⟨w.heap.size + 1,1,none⟩ = some (.int .i64 x1) ∧ w'.cell? ⟨w.heap.size + 1,2,none⟩ = some (.int .i64 x2)) w_:=⟨(blk_cell F_.r5 1).trans rfl,(blk_cell F_.r5 2).trans rfl⟩
    refine two_ (i:=3) (j:=8) (Ni:=some 75) (Nj:=some 8) #[true,true,true,true,true,true,true,false,false,true,false,false] #[true,true,true,false,true,true,true,false,true,true,false,false] rfl rfl rfl rfl (by kernel_rfl) (by decide) (by decide) (fun K_ hK_=>?_) (fun K_ hK_=>?_)
    ·go_simp
     ((first|(go_at_call 38;refine (K1.out _ _ _ F_.sv).mono ?_)|(refine (K1.out _ _ _ F_.sv).mono ?_));(first|rintro e w6 ⟨rfl,vs6,vb6,hs6,ht6⟩|(intro e w6 he vs6 vb6 hs6 ht6;subst he)))
     have F6:=F_.call hs6 ht6
     refine hK_.out _ _ (⟨(blk_cell F6.r5 1).trans rfl,(blk_cell F6.r5 2).trans rfl⟩) (fun hHeld=>?_)
     exact j3_9 ⟨vs6,vb6,b9_⟩ _ ⟨F6,X9_.call ht6⟩
    ·go_simp
     have F6:=F_.alloc (.cells #[.int .u64 0,.int .u64 0,.bool false] 89)
     have X6:=F_.box 0 0 false
     refine hK_.out _ _ (⟨(blk_cell F6.r5 1).trans rfl,(blk_cell F6.r5 2).trans rfl⟩) (fun hHeld=>?_)
     exact j8_9 ⟨vs_,vb_,_,b9_⟩ _ ⟨F6,X6,X9_.alloc _,(by have h_:=blk_lt X9_.r;show w_.heap.size ≠ b9_;omega)⟩
   case c8 =>
    rintro ⟨vs_,vb_,b8_⟩ w_ ⟨F_,X8_⟩
    try dsimp only at F_ X8_
    refine norm_ (by simp only [putAll,Act.put,List.setIfInBounds_toArray,List.set_cons_zero,List.set_cons_succ];rfl) ?_
    have hHeld : (fun w'=>w'.cell? ⟨w.heap.size + 1,1,none⟩ = some (.int .i64 x1) ∧ w'.cell? ⟨w.heap.size + 1,2,none⟩ = some (.int .i64 x2)) w_:=⟨(blk_cell F_.r5 1).trans rfl,(blk_cell F_.r5 2).trans rfl⟩
    refine two_ (i:=3) (j:=9) (Ni:=some 75) (Nj:=some 9) #[true,true,true,true,true,true,true,false,true,false,false,false] #[true,true,true,false,true,true,true,false,true,true,false,false] rfl rfl rfl rfl (by kernel_rfl) (by decide) (by decide) (fun K_ hK_=>?_) (fun K_ hK_=>?_)
    ·go_simp
     ((first|(go_at_call 38;refine (K1.out _ _ _ F_.sv).mono ?_)|(refine (K1.out _ _ _ F_.sv).mono ?_));(first|rintro e w6 ⟨rfl,vs6,vb6,hs6,ht6⟩|(intro e w6 he vs6 vb6 hs6 ht6;subst he)))
     have F6:=F_.call hs6 ht6
     refine hK_.out _ _ (⟨(blk_cell F6.r5 1).trans rfl,(blk_cell F6.r5 2).trans rfl⟩) (fun hHeld=>?_)
     exact j3_8 ⟨vs6,vb6,b8_⟩ _ ⟨F6,X8_.call ht6⟩
    ·go_simp
     have F6:=F_.alloc (.cells #[.int .u64 0,.int .u64 0,.bool false] 89)
     have X6:=F_.box 0 0 false
     refine hK_.out _ _ (⟨(blk_cell F6.r5 1).trans rfl,(blk_cell F6.r5 2).trans rfl⟩) (fun hHeld=>?_)
     exact j8_9 ⟨vs_,vb_,b8_,_⟩ _ ⟨F6,X8_.alloc _,X6,(by have h_:=blk_lt X8_.r;show b8_ ≠ w_.heap.size;omega)⟩
   case c3 =>
    rintro ⟨vs_,vb_⟩ w_ F_
    try dsimp only at F_
    refine norm_ (by simp only [putAll,Act.put,List.setIfInBounds_toArray,List.set_cons_zero,List.set_cons_succ];rfl) ?_
    have hHeld : (fun w'=>w'.cell? ⟨w.heap.size + 1,1,none⟩ = some (.int .i64 x1) ∧ w'.cell? ⟨w.heap.size + 1,2,none⟩ = some (.int .i64 x2)) w_:=⟨(blk_cell F_.r5 1).trans rfl,(blk_cell F_.r5 2).trans rfl⟩
    refine three_ (i:=7) (j:=8) (k:=9) (Ni:=some 79) (Nj:=some 8) (Nk:=some 9) #[true,true,true,true,true,true,true,true,false,false,false,false] #[true,true,true,true,true,true,true,false,true,false,false,false] #[true,true,true,true,true,true,true,false,false,true,false,false] rfl rfl rfl rfl rfl rfl (by kernel_rfl) (by decide) (by decide) (by decide) (fun K_ hK_=>?_) (fun K_ hK_=>?_) (fun K_ hK_=>?_)
    ·go_simp
     ((first|(go_at_call 38;refine (K2.out _ _ _ F_.sv).mono ?_)|(refine (K2.out _ _ _ F_.sv).mono ?_));(first|rintro e w6 ⟨rfl,vs6,vb6,hs6,ht6⟩|(intro e w6 he vs6 vb6 hs6 ht6;subst he)))
     have F6:=F_.call hs6 ht6
     refine hK_.out _ _ (⟨(blk_cell F6.r5 1).trans rfl,(blk_cell F6.r5 2).trans rfl⟩) (fun hHeld=>?_)
     exact j3_7 ⟨vs6,vb6⟩ _ (F6)
    ·go_simp
     have F6:=F_.alloc (.cells #[.int .u64 0,.int .u64 0,.bool false] 89)
     have X6:=F_.box 0 0 false
     refine hK_.out _ _ (⟨(blk_cell F6.r5 1).trans rfl,(blk_cell F6.r5 2).trans rfl⟩) (fun hHeld=>?_)
     exact j3_8 ⟨vs_,vb_,_⟩ _ ⟨F6,X6⟩
    ·go_simp
     have F6:=F_.alloc (.cells #[.int .u64 0,.int .u64 0,.bool false] 89)
     have X6:=F_.box 0 0 false
     refine hK_.out _ _ (⟨(blk_cell F6.r5 1).trans rfl,(blk_cell F6.r5 2).trans rfl⟩) (fun hHeld=>?_)
     exact j3_9 ⟨vs_,vb_,_⟩ _ ⟨F6,X6⟩
   case c8_9 =>
    rintro ⟨vs_,vb_,b8_,b9_⟩ w_ ⟨F_,X8_,X9_,N_⟩
    try dsimp only at F_ X8_ X9_ N_
    refine norm_ (by simp only [putAll,Act.put,List.setIfInBounds_toArray,List.set_cons_zero,List.set_cons_succ];rfl) ?_
    have hHeld : (fun w'=>w'.cell? ⟨w.heap.size + 1,1,none⟩ = some (.int .i64 x1) ∧ w'.cell? ⟨w.heap.size + 1,2,none⟩ = some (.int .i64 x2)) w_:=⟨(blk_cell F_.r5 1).trans rfl,(blk_cell F_.r5 2).trans rfl⟩
    refine one_ (i:=3) (N:=some 75) #[true,true,true,true,true,true,true,false,true,true,false,false] rfl rfl (by kernel_rfl) (by decide) (fun K_ hK_=>?_)
    go_simp
    ((first|(go_at_call 38;refine (K1.out _ _ _ F_.sv).mono ?_)|(refine (K1.out _ _ _ F_.sv).mono ?_));(first|rintro e w6 ⟨rfl,vs6,vb6,hs6,ht6⟩|(intro e w6 he vs6 vb6 hs6 ht6;subst he)))
    have F6:=F_.call hs6 ht6
    refine hK_.out _ _ (⟨(blk_cell F6.r5 1).trans rfl,(blk_cell F6.r5 2).trans rfl⟩) (fun hHeld=>?_)
    exact j3_8_9 ⟨vs6,vb6,b8_,b9_⟩ _ ⟨F6,X8_.call ht6,X9_.call ht6,N_⟩
   case c3_9 =>
    rintro ⟨vs_,vb_,b9_⟩ w_ ⟨F_,X9_⟩
    try dsimp only at F_ X9_
    refine norm_ (by simp only [putAll,Act.put,List.setIfInBounds_toArray,List.set_cons_zero,List.set_cons_succ];rfl) ?_
    have hHeld : (fun w'=>w'.cell? ⟨w.heap.size + 1,1,none⟩ = some (.int .i64 x1) ∧ w'.cell? ⟨w.heap.size + 1,2,none⟩ = some (.int .i64 x2)) w_:=⟨(blk_cell F_.r5 1).trans rfl,(blk_cell F_.r5 2).trans rfl⟩
    refine two_ (i:=7) (j:=8) (Ni:=some 79) (Nj:=some 8) #[true,true,true,true,true,true,true,true,false,true,false,false] #[true,true,true,true,true,true,true,false,true,true,false,false] rfl rfl rfl rfl (by kernel_rfl) (by decide) (by decide) (fun K_ hK_=>?_) (fun K_ hK_=>?_)
    ·go_simp
     ((first|(go_at_call 38;refine (K2.out _ _ _ F_.sv).mono ?_)|(refine (K2.out _ _ _ F_.sv).mono ?_));(first|rintro e w6 ⟨rfl,vs6,vb6,hs6,ht6⟩|(intro e w6 he vs6 vb6 hs6 ht6;subst he)))
     have F6:=F_.call hs6 ht6
     refine hK_.out _ _ (⟨(blk_cell F6.r5 1).trans rfl,(blk_cell F6.r5 2).trans rfl⟩) (fun hHeld=>?_)
     exact j3_7_9 ⟨vs6,vb6,b9_⟩ _ ⟨F6,X9_.call ht6⟩
    ·go_simp
     have F6:=F_.alloc (.cells #[.int .u64 0,.int .u64 0,.bool false] 89)
     have X6:=F_.box 0 0 false
     refine hK_.out _ _ (⟨(blk_cell F6.r5 1).trans rfl,(blk_cell F6.r5 2).trans rfl⟩) (fun hHeld=>?_)
     exact j3_8_9 ⟨vs_,vb_,_,b9_⟩ _ ⟨F6,X6,X9_.alloc _,(by have h_:=blk_lt X9_.r;show w_.heap.size ≠ b9_;omega)⟩
   case c3_8 =>
    rintro ⟨vs_,vb_,b8_⟩ w_ ⟨F_,X8_⟩
    try dsimp only at F_ X8_
    refine norm_ (by simp only [putAll,Act.put,List.setIfInBounds_toArray,List.set_cons_zero,List.set_cons_succ];rfl) ?_
    have hHeld : (fun w'=>w'.cell? ⟨w.heap.size + 1,1,none⟩ = some (.int .i64 x1) ∧ w'.cell? ⟨w.heap.size + 1,2,none⟩ = some (.int .i64 x2)) w_:=⟨(blk_cell F_.r5 1).trans rfl,(blk_cell F_.r5 2).trans rfl⟩
    refine two_ (i:=7) (j:=9) (Ni:=some 79) (Nj:=some 9) #[true,true,true,true,true,true,true,true,true,false,false,false] #[true,true,true,true,true,true,true,false,true,true,false,false] rfl rfl rfl rfl (by kernel_rfl) (by decide) (by decide) (fun K_ hK_=>?_) (fun K_ hK_=>?_)
    ·go_simp
     ((first|(go_at_call 38;refine (K2.out _ _ _ F_.sv).mono ?_)|(refine (K2.out _ _ _ F_.sv).mono ?_));(first|rintro e w6 ⟨rfl,vs6,vb6,hs6,ht6⟩|(intro e w6 he vs6 vb6 hs6 ht6;subst he)))
     have F6:=F_.call hs6 ht6
     refine hK_.out _ _ (⟨(blk_cell F6.r5 1).trans rfl,(blk_cell F6.r5 2).trans rfl⟩) (fun hHeld=>?_)
     exact j3_7_8 ⟨vs6,vb6,b8_⟩ _ ⟨F6,X8_.call ht6⟩
    ·go_simp
     have F6:=F_.alloc (.cells #[.int .u64 0,.int .u64 0,.bool false] 89)
     have X6:=F_.box 0 0 false
     refine hK_.out _ _ (⟨(blk_cell F6.r5 1).trans rfl,(blk_cell F6.r5 2).trans rfl⟩) (fun hHeld=>?_)
     exact j3_8_9 ⟨vs_,vb_,b8_,_⟩ _ ⟨F6,X8_.alloc _,X6,(by have h_:=blk_lt X8_.r;show b8_ ≠ w_.heap.size;omega)⟩
   case c3_7 =>
    rintro ⟨vs_,vb_⟩ w_ F_
    try dsimp only at F_
    refine norm_ (by simp only [putAll,Act.put,List.setIfInBounds_toArray,List.set_cons_zero,List.set_cons_succ];rfl) ?_
    have hHeld : (fun w'=>w'.cell? ⟨w.heap.size + 1,1,none⟩ = some (.int .i64 x1) ∧ w'.cell? ⟨w.heap.size + 1,2,none⟩ = some (.int .i64 x2)) w_:=⟨(blk_cell F_.r5 1).trans rfl,(blk_cell F_.r5 2).trans rfl⟩
    refine two_ (i:=8) (j:=9) (Ni:=some 8) (Nj:=some 9) #[true,true,true,true,true,true,true,true,true,false,false,false] #[true,true,true,true,true,true,true,true,false,true,false,false] rfl rfl rfl rfl (by kernel_rfl) (by decide) (by decide) (fun K_ hK_=>?_) (fun K_ hK_=>?_)
    ·go_simp
     have F6:=F_.alloc (.cells #[.int .u64 0,.int .u64 0,.bool false] 89)
     have X6:=F_.box 0 0 false
     refine hK_.out _ _ (⟨(blk_cell F6.r5 1).trans rfl,(blk_cell F6.r5 2).trans rfl⟩) (fun hHeld=>?_)
     exact j3_7_8 ⟨vs_,vb_,_⟩ _ ⟨F6,X6⟩
    ·go_simp
     have F6:=F_.alloc (.cells #[.int .u64 0,.int .u64 0,.bool false] 89)
     have X6:=F_.box 0 0 false
     refine hK_.out _ _ (⟨(blk_cell F6.r5 1).trans rfl,(blk_cell F6.r5 2).trans rfl⟩) (fun hHeld=>?_)
     exact j3_7_9 ⟨vs_,vb_,_⟩ _ ⟨F6,X6⟩
   case c3_8_9 =>
    rintro ⟨vs_,vb_,b8_,b9_⟩ w_ ⟨F_,X8_,X9_,N_⟩
    try dsimp only at F_ X8_ X9_ N_
    refine norm_ (by simp only [putAll,Act.put,List.setIfInBounds_toArray,List.set_cons_zero,List.set_cons_succ];rfl) ?_
    have hHeld : (fun w'=>w'.cell? ⟨w.heap.size + 1,1,none⟩ = some (.int .i64 x1) ∧ w'.cell? ⟨w.heap.size + 1,2,none⟩ = some (.int .i64 x2)) w_:=⟨(blk_cell F_.r5 1).trans rfl,(blk_cell F_.r5 2).trans rfl⟩
    refine one_ (i:=7) (N:=some 79) #[true,true,true,true,true,true,true,true,true,true,false,false] rfl rfl (by kernel_rfl) (by decide) (fun K_ hK_=>?_)
    go_simp
    ((first|(go_at_call 38;refine (K2.out _ _ _ F_.sv).mono ?_)|(refine (K2.out _ _ _ F_.sv).mono ?_));(first|rintro e w6 ⟨rfl,vs6,vb6,hs6,ht6⟩|(intro e w6 he vs6 vb6 hs6 ht6;subst he)))
    have F6:=F_.call hs6 ht6
    refine hK_.out _ _ (⟨(blk_cell F6.r5 1).trans rfl,(blk_cell F6.r5 2).trans rfl⟩) (fun hHeld=>?_)
    exact j3_7_8_9 ⟨vs6,vb6,b8_,b9_⟩ _ ⟨F6,X8_.call ht6,X9_.call ht6,N_⟩
   case c3_7_9 =>
    rintro ⟨vs_,vb_,b9_⟩ w_ ⟨F_,X9_⟩
    try dsimp only at F_ X9_
    refine norm_ (by simp only [putAll,Act.put,List.setIfInBounds_toArray,List.set_cons_zero,List.set_cons_succ];rfl) ?_
    have hHeld : (fun w'=>w'.cell? ⟨w.heap.size + 1,1,none⟩ = some (.int .i64 x1) ∧ w'.cell? ⟨w.heap.size + 1,2,none⟩ = some (.int .i64 x2)) w_:=⟨(blk_cell F_.r5 1).trans rfl,(blk_cell F_.r5 2).trans rfl⟩
    refine one_ (i:=8) (N:=some 8) #[true,true,true,true,true,true,true,true,true,true,false,false] rfl rfl (by kernel_rfl) (by decide) (fun K_ hK_=>?_)
    go_simp
    have F6:=F_.alloc (.cells #[.int .u64 0,.int .u64 0,.bool false] 89)
    have X6:=F_.box 0 0 false
    refine hK_.out _ _ (⟨(blk_cell F6.r5 1).trans rfl,(blk_cell F6.r5 2).trans rfl⟩) (fun hHeld=>?_)
    exact j3_7_8_9 ⟨vs_,vb_,_,b9_⟩ _ ⟨F6,X6,X9_.alloc _,(by have h_:=blk_lt X9_.r;show w_.heap.size ≠ b9_;omega)⟩
   case c3_7_8 =>
    rintro ⟨vs_,vb_,b8_⟩ w_ ⟨F_,X8_⟩
    try dsimp only at F_ X8_
    refine norm_ (by simp only [putAll,Act.put,List.setIfInBounds_toArray,List.set_cons_zero,List.set_cons_succ];rfl) ?_
    have hHeld : (fun w'=>w'.cell? ⟨w.heap.size + 1,1,none⟩ = some (.int .i64 x1) ∧ w'.cell? ⟨w.heap.size + 1,2,none⟩ = some (.int .i64 x2)) w_:=⟨(blk_cell F_.r5 1).trans rfl,(blk_cell F_.r5 2).trans rfl⟩
    refine one_ (i:=9) (N:=some 9) #[true,true,true,true,true,true,true,true,true,true,false,false] rfl rfl (by kernel_rfl) (by decide) (fun K_ hK_=>?_)
    go_simp
    have F6:=F_.alloc (.cells #[.int .u64 0,.int .u64 0,.bool false] 89)
    have X6:=F_.box 0 0 false
    refine hK_.out _ _ (⟨(blk_cell F6.r5 1).trans rfl,(blk_cell F6.r5 2).trans rfl⟩) (fun hHeld=>?_)
    exact j3_7_8_9 ⟨vs_,vb_,b8_,_⟩ _ ⟨F6,X8_.alloc _,X6,(by have h_:=blk_lt X8_.r;show b8_ ≠ w_.heap.size;omega)⟩
   case c3_7_8_9 =>
    rintro ⟨vs_,vb_,b8_,b9_⟩ w_ ⟨F_,X8_,X9_,N_⟩
    try dsimp only at F_ X8_ X9_ N_
    refine norm_ (by simp only [putAll,Act.put,List.setIfInBounds_toArray,List.set_cons_zero,List.set_cons_succ];rfl) ?_
    have hHeld : (fun w'=>w'.cell? ⟨w.heap.size + 1,1,none⟩ = some (.int .i64 x1) ∧ w'.cell? ⟨w.heap.size + 1,2,none⟩ = some (.int .i64 x2)) w_:=⟨(blk_cell F_.r5 1).trans rfl,(blk_cell F_.r5 2).trans rfl⟩
    have ka0:=(blk_cell X8_.r 0).trans rfl
    have ka1:=(blk_cell X8_.r 1).trans rfl
    have ka2:=(blk_cell X8_.r 2).trans rfl
    have kaf0:=blk_frozen X8_.r 0
    have kaf1:=blk_frozen (blk_set X8_.r 0 (.int .u64 p1)) 1
    have kaf2:=blk_frozen (blk_set (blk_set X8_.r 0 (.int .u64 p1)) 1 (.int .u64 p2)) 2
    obtain ⟨wA,hwA⟩ : ∃ wA,((w_.setCell ⟨b8_,0,none⟩ (.int .u64 p1)).setCell ⟨b8_,1,none⟩ (.int .u64 p2)).setCell ⟨b8_,2,none⟩ (.bool p3) = wA:=⟨_,rfl⟩
    have FA:=F_.put3 X8_ p1 p2 p3
    have YA:=X8_.put3 p1 p2 p3
    have YB:=X9_.far3 N_ p1 p2 p3
    unfold sR.put3 at FA YA YB
    rw [hwA] at FA YA YB
    refine one_ (i:=10) (N:=none) #[true,true,true,true,true,true,true,true,true,true,true,false] rfl rfl (by kernel_rfl) (by decide) (fun K_ hK_=>?_)
    go_simp
    refine hK_.out _ _ (⟨(blk_cell FA.r5 1).trans rfl,(blk_cell FA.r5 2).trans rfl⟩) (fun hHeld=>?_)
    clear hK_ K_
    try (refine norm_ (by simp only [putAll,Act.put,List.setIfInBounds_toArray,List.set_cons_zero,List.set_cons_succ];rfl) ?_)
    clear ka0 ka1 ka2 kaf0 kaf1 kaf2 hwA F_ X8_ X9_
    have kb0:=(blk_cell YB.r 0).trans rfl
    have kb1:=(blk_cell YB.r 1).trans rfl
    have kb2:=(blk_cell YB.r 2).trans rfl
    have kbf0:=blk_frozen YB.r 0
    have kbf1:=blk_frozen (blk_set YB.r 0 (.int .u64 r1)) 1
    have kbf2:=blk_frozen (blk_set (blk_set YB.r 0 (.int .u64 r1)) 1 (.int .u64 r2)) 2
    obtain ⟨wB,hwB⟩ : ∃ wB,((wA.setCell ⟨b9_,0,none⟩ (.int .u64 r1)).setCell ⟨b9_,1,none⟩ (.int .u64 r2)).setCell ⟨b9_,2,none⟩ (.bool r3) = wB:=⟨_,rfl⟩
    have FB:=FA.put3 YB r1 r2 r3
    have ZB:=YB.put3 r1 r2 r3
    have ZA:=YA.far3 (Ne.symm N_) r1 r2 r3
    unfold sR.put3 at FB ZA ZB
    rw [hwB] at FB ZA ZB
    refine one_ (i:=11) (N:=none) #[true,true,true,true,true,true,true,true,true,true,true,true] rfl rfl (by kernel_rfl) (by decide) (fun K_ hK_=>?_)
    go_simp
    refine hK_.out _ _ (⟨(blk_cell FB.r5 1).trans rfl,(blk_cell FB.r5 2).trans rfl⟩) (fun hHeld=>?_)
    clear hK_ K_
    try (refine norm_ (by simp only [putAll,Act.put,List.setIfInBounds_toArray,List.set_cons_zero,List.set_cons_succ];rfl) ?_)
    clear kb0 kb1 kb2 kbf0 kbf1 kbf2 hwB FA YA YB hHeld
    refine done_ (by kernel_rfl) ?_
    have FB:=Aside0.mk FB
    have ZA:=Aside0.mk ZA
    have ZB:=Aside0.mk ZB
    have NN:=Aside0.mk N_
    clear N_
    have ka0:=(blk_cell ZA.out.r 0).trans rfl
    have ka1:=(blk_cell ZA.out.r 1).trans rfl
    have ka2:=(blk_cell ZA.out.r 2).trans rfl
    have kb0:=(blk_cell ZB.out.r 0).trans rfl
    have kb1:=(blk_cell ZB.out.r 1).trans rfl
    have kb2:=(blk_cell ZB.out.r 2).trans rfl
    have r40:=(blk_cell FB.out.r4 0).trans rfl
    have r41:=(blk_cell FB.out.r4 1).trans rfl
    have r42:=(blk_cell FB.out.r4 2).trans rfl
    have f0:=blk_frozen FB.out.r4 0
    have f1_:=blk_frozen (blk_set FB.out.r4 0 (.int .u64 (Go.bits .or .u64 p1 r1))) 1
    have f2_:=blk_frozen (blk_set (blk_set FB.out.r4 0 (.int .u64 (Go.bits .or .u64 p1 r1))) 1 (.int .u64 (Go.bits .or .u64 p2 r2))) 2
    have Z:=Aside0.mk (sR.fill FB.out.sv (HT.out.trans FB.out.tt) FB.out.r4 FB.out.a4 FB.out.g4 (Nat.le_refl _) (.int .u64 (Go.bits .or .u64 p1 r1)) (.int .u64 (Go.bits .or .u64 p2 r2)) (.bool (p3 || r3)))
    cases p3
    ·go_wp2
     exact bodyPost_ret (results_single rfl (.cell w.heap.size 89 #[.int .u64 (Go.bits .or .u64 p1 r1),.int .u64 (Go.bits .or .u64 p2 r2),.bool (false || r3)] (0,0) _ rfl Z.out.1 hu2 rfl rfl .nil)) rfl ⟨rfl,_,_,Z.out.2.1,Z.out.2.2⟩
    ·go_wp2
     exact bodyPost_ret (results_single rfl (.cell w.heap.size 89 #[.int .u64 (Go.bits .or .u64 p1 r1),.int .u64 (Go.bits .or .u64 p2 r2),.bool (true || r3)] (0,0) _ rfl Z.out.1 hu2 rfl rfl .nil)) rfl ⟨rfl,_,_,Z.out.2.1,Z.out.2.2⟩
  rw [if_neg c5] at h
  have t5 : (x0 == 5) = false:=beq_eq_false_iff_ne.2 c5
  clear c5
  by_cases c4 : x0 = 4
  ·rw [if_pos c4] at h
   have t4 : (x0 == 4) = true:=beq_iff_eq.2 c4
   clear c4
   obtain ⟨p,hp,h⟩:=Option.bind_eq_some_iff.mp h
   obtain ⟨r,hr,h⟩:=Option.bind_eq_some_iff.mp h
   by_cases cl : r.2.2.2.2.length ≤ 50
   case neg=>rw [if_neg cl] at h;cases h
   rw [if_pos cl] at h
   obtain rfl:=Option.some.inj h
   obtain ⟨p1,p2,p3,ps,pb⟩:=p
   obtain ⟨r1,r2,r3,rs,rb⟩:=r
   dsimp only at hr cl ⊢
   have CL:=Aside0.mk cl
   have K1:=Aside0.mk (fun vs' vb' w' hs=>IH.out x1 vs' vb' sym beh w' _ hs hp)
   have K2:=Aside0.mk (fun vs' vb' w' hs=>IH.out x2 vs' vb' ps pb w' _ hs hr)
   clear h hp hr cl
   go_enter Try.func38,Try.ntmps38
   go_wp2
   refine start_ (n:=12) (S:=(fun w'=>w'.cell? ⟨w.heap.size + 1,1,none⟩ = some (.int .i64 x1) ∧ w'.cell? ⟨w.heap.size + 1,2,none⟩ = some (.int .i64 x2))) (ds:=[]) #[false,false,false,false,false,false,false,false,false,false,false,false] (by kernel_rfl) rfl rfl (⟨hz1,hz2⟩) (fun hHeld=>?_)
   refine take_ (i:=0) (N:=some 99) (v:=?_) (a':=?_) #[true,false,false,false,false,false,false,false,false,false,false,false] rfl rfl (by kernel_rfl) (fun _ _ _ h_=>h_) (Or.inl ⟨by rfl,?_⟩) hHeld ?_ ?_
   rotate_left
   ·intro w_ hSw
    (obtain ⟨hz0,hz1⟩:=hSw)
    go_simp
    first|done|with_reducible rfl
   rotate_left
   ·simp only [putAll,Act.put,List.setIfInBounds_toArray,List.set_cons_zero,List.set_cons_succ]
    rfl
   refine take_ (i:=1) (N:=some 100) (v:=?_) (a':=?_) #[true,true,false,false,false,false,false,false,false,false,false,false] rfl rfl (by kernel_rfl) (fun _ _ _ h_=>h_) (Or.inl ⟨by rfl,?_⟩) hHeld ?_ ?_
   rotate_left
   ·intro w_ hSw
    (obtain ⟨hz0,hz1⟩:=hSw)
    go_simp
    first|done|with_reducible rfl
   rotate_left
   ·simp only [putAll,Act.put,List.setIfInBounds_toArray,List.set_cons_zero,List.set_cons_succ]
    rfl
   refine take_ (i:=2) (N:=some 101) (v:=?_) (a':=?_) #[true,true,true,false,false,false,false,false,false,false,false,false] rfl rfl (by kernel_rfl) (fun _ _ _ h_=>h_) (Or.inl ⟨by rfl,?_⟩) hHeld ?_ ?_
   rotate_left
   ·intro w_ hSw
    (obtain ⟨hz0,hz1⟩:=hSw)
    go_simp
    first|done|with_reducible rfl
   rotate_left
   ·simp only [putAll,Act.put,List.setIfInBounds_toArray,List.set_cons_zero,List.set_cons_succ]
    rfl
   refine take_ (i:=4) (N:=some 103) (v:=?_) (a':=?_) #[true,true,true,false,true,false,false,false,false,false,false,false] rfl rfl (by kernel_rfl) (fun _ _ _ h_=>h_) (Or.inl ⟨by rfl,?_⟩) hHeld ?_ ?_
   rotate_left
   ·intro w_ hSw
    (obtain ⟨hz0,hz1⟩:=hSw)
    go_simp
    first|done|with_reducible rfl
   rotate_left
   ·simp only [putAll,Act.put,List.setIfInBounds_toArray,List.set_cons_zero,List.set_cons_succ]
    rfl
   refine take_ (i:=5) (N:=some 104) (v:=?_) (a':=?_) #[true,true,true,false,true,true,false,false,false,false,false,false] rfl rfl (by kernel_rfl) (fun _ _ _ h_=>h_) (Or.inl ⟨by rfl,?_⟩) hHeld ?_ ?_
   rotate_left
   ·intro w_ hSw
    (obtain ⟨hz0,hz1⟩:=hSw)
    go_simp
    first|done|with_reducible rfl
   rotate_left
   ·simp only [putAll,Act.put,List.setIfInBounds_toArray,List.set_cons_zero,List.set_cons_succ]
    rfl
   refine take_ (i:=6) (N:=some 105) (v:=?_) (a':=?_) #[true,true,true,false,true,true,true,false,false,false,false,false] rfl rfl (by kernel_rfl) (fun _ _ _ h_=>h_) (Or.inl ⟨by rfl,?_⟩) hHeld ?_ ?_
   rotate_left
   ·intro w_ hSw
    (obtain ⟨hz0,hz1⟩:=hSw)
    go_simp
    first|done|with_reducible rfl
   rotate_left
   ·simp only [putAll,Act.put,List.setIfInBounds_toArray,List.set_cons_zero,List.set_cons_succ]
    rfl
   refine join_ (σ:=Value × Value × Nat × Nat) 2 #[true,true,true,true,true,true,true,true,true,true,false,false] (fun s=>[(102,.agg #[.int .u64 p1,.int .u64 p2,.bool p3]),(106,.agg #[.int .u64 r1,.int .u64 r2,.bool r3]),(10,.pointer (some ⟨(s.2.2.1),0,none⟩)),(11,.pointer (some ⟨(s.2.2.2),0,none⟩))]) (fun s w_=>(sR.Fr w0 g (some ad) l.length c vs vb w.heap.size (w.heap.size + 1) x0 x1 x2 wr (s.1) (s.2.1) rs rb w_) ∧ (sR.Bx w0 g (s.1) (s.2.1) wr (s.2.2.1) 0 0 false w_) ∧ (sR.Bx w0 g (s.1) (s.2.1) wr (s.2.2.2) 0 0 false w_) ∧ ((s.2.2.1) ≠ (s.2.2.2))) ?c3_7_8_9 (fun j3_7_8_9=>?_)
   rotate_left
   refine join_ (σ:=Value × Value × Nat) 3 #[true,true,true,true,true,true,true,true,true,false,false,false] (fun s=>[(102,.agg #[.int .u64 p1,.int .u64 p2,.bool p3]),(106,.agg #[.int .u64 r1,.int .u64 r2,.bool r3]),(10,.pointer (some ⟨(s.2.2),0,none⟩))]) (fun s w_=>(sR.Fr w0 g (some ad) l.length c vs vb w.heap.size (w.heap.size + 1) x0 x1 x2 wr (s.1) (s.2.1) rs rb w_) ∧ (sR.Bx w0 g (s.1) (s.2.1) wr (s.2.2) 0 0 false w_)) ?c3_7_8 (fun j3_7_8=>?_)
   rotate_left
   refine join_ (σ:=Value × Value × Nat) 3 #[true,true,true,true,true,true,true,true,false,true,false,false] (fun s=>[(102,.agg #[.int .u64 p1,.int .u64 p2,.bool p3]),(106,.agg #[.int .u64 r1,.int .u64 r2,.bool r3]),(11,.pointer (some ⟨(s.2.2),0,none⟩))]) (fun s w_=>(sR.Fr w0 g (some ad) l.length c vs vb w.heap.size (w.heap.size + 1) x0 x1 x2 wr (s.1) (s.2.1) rs rb w_) ∧ (sR.Bx w0 g (s.1) (s.2.1) wr (s.2.2) 0 0 false w_)) ?c3_7_9 (fun j3_7_9=>?_)
   rotate_left
   refine join_ (σ:=Value × Value × Nat × Nat) 3 #[true,true,true,true,true,true,true,false,true,true,false,false] (fun s=>[(102,.agg #[.int .u64 p1,.int .u64 p2,.bool p3]),(10,.pointer (some ⟨(s.2.2.1),0,none⟩)),(11,.pointer (some ⟨(s.2.2.2),0,none⟩))]) (fun s w_=>(sR.Fr w0 g (some ad) l.length c vs vb w.heap.size (w.heap.size + 1) x0 x1 x2 wr (s.1) (s.2.1) ps pb w_) ∧ (sR.Bx w0 g (s.1) (s.2.1) wr (s.2.2.1) 0 0 false w_) ∧ (sR.Bx w0 g (s.1) (s.2.1) wr (s.2.2.2) 0 0 false w_) ∧ ((s.2.2.1) ≠ (s.2.2.2))) ?c3_8_9 (fun j3_8_9=>?_)
   rotate_left
   refine join_ (σ:=Value × Value) 4 #[true,true,true,true,true,true,true,true,false,false,false,false] (fun s=>[(102,.agg #[.int .u64 p1,.int .u64 p2,.bool p3]),(106,.agg #[.int .u64 r1,.int .u64 r2,.bool r3])]) (fun s w_=>(sR.Fr w0 g (some ad) l.length c vs vb w.heap.size (w.heap.size + 1) x0 x1 x2 wr (s.1) (s.2) rs rb w_)) ?c3_7 (fun j3_7=>?_)
   rotate_left
   refine join_ (σ:=Value × Value × Nat) 4 #[true,true,true,true,true,true,true,false,true,false,false,false] (fun s=>[(102,.agg #[.int .u64 p1,.int .u64 p2,.bool p3]),(10,.pointer (some ⟨(s.2.2),0,none⟩))]) (fun s w_=>(sR.Fr w0 g (some ad) l.length c vs vb w.heap.size (w.heap.size + 1) x0 x1 x2 wr (s.1) (s.2.1) ps pb w_) ∧ (sR.Bx w0 g (s.1) (s.2.1) wr (s.2.2) 0 0 false w_)) ?c3_8 (fun j3_8=>?_)
   rotate_left
   refine join_ (σ:=Value × Value × Nat) 4 #[true,true,true,true,true,true,true,false,false,true,false,false] (fun s=>[(102,.agg #[.int .u64 p1,.int .u64 p2,.bool p3]),(11,.pointer (some ⟨(s.2.2),0,none⟩))]) (fun s w_=>(sR.Fr w0 g (some ad) l.length c vs vb w.heap.size (w.heap.size + 1) x0 x1 x2 wr (s.1) (s.2.1) ps pb w_) ∧ (sR.Bx w0 g (s.1) (s.2.1) wr (s.2.2) 0 0 false w_)) ?c3_9 (fun j3_9=>?_)
   rotate_left
   refine join_ (σ:=Value × Value × Nat × Nat) 4 #[true,true,true,false,true,true,true,false,true,true,false,false] (fun s=>[(10,.pointer (some ⟨(s.2.2.1),0,none⟩)),(11,.pointer (some ⟨(s.2.2.2),0,none⟩))]) (fun s w_=>(sR.Fr w0 g (some ad) l.length c vs vb w.heap.size (w.heap.size + 1) x0 x1 x2 wr (s.1) (s.2.1) sym beh w_) ∧ (sR.Bx w0 g (s.1) (s.2.1) wr (s.2.2.1) 0 0 false w_) ∧ (sR.Bx w0 g (s.1) (s.2.1) wr (s.2.2.2) 0 0 false w_) ∧ ((s.2.2.1) ≠ (s.2.2.2))) ?c8_9 (fun j8_9=>?_)
   rotate_left
   refine join_ (σ:=Value × Value) 5 #[true,true,true,true,true,true,true,false,false,false,false,false] (fun s=>[(102,.agg #[.int .u64 p1,.int .u64 p2,.bool p3])]) (fun s w_=>(sR.Fr w0 g (some ad) l.length c vs vb w.heap.size (w.heap.size + 1) x0 x1 x2 wr (s.1) (s.2) ps pb w_)) ?c3 (fun j3=>?_)
   rotate_left
   refine join_ (σ:=Value × Value × Nat) 5 #[true,true,true,false,true,true,true,false,true,false,false,false] (fun s=>[(10,.pointer (some ⟨(s.2.2),0,none⟩))]) (fun s w_=>(sR.Fr w0 g (some ad) l.length c vs vb w.heap.size (w.heap.size + 1) x0 x1 x2 wr (s.1) (s.2.1) sym beh w_) ∧ (sR.Bx w0 g (s.1) (s.2.1) wr (s.2.2) 0 0 false w_)) ?c8 (fun j8=>?_)
   rotate_left
   refine join_ (σ:=Value × Value × Nat) 5 #[true,true,true,false,true,true,true,false,false,true,false,false] (fun s=>[(11,.pointer (some ⟨(s.2.2),0,none⟩))]) (fun s w_=>(sR.Fr w0 g (some ad) l.length c vs vb w.heap.size (w.heap.size + 1) x0 x1 x2 wr (s.1) (s.2.1) sym beh w_) ∧ (sR.Bx w0 g (s.1) (s.2.1) wr (s.2.2) 0 0 false w_)) ?c9 (fun j9=>?_)
   rotate_left
   refine three_ (i:=3) (j:=8) (k:=9) (Ni:=some 102) (Nj:=some 10) (Nk:=some 11) #[true,true,true,true,true,true,true,false,false,false,false,false] #[true,true,true,false,true,true,true,false,true,false,false,false] #[true,true,true,false,true,true,true,false,false,true,false,false] rfl rfl rfl rfl rfl rfl (by kernel_rfl) (by decide) (by decide) (by decide) (fun K_ hK_=>?_) (fun K_ hK_=>?_) (fun K_ hK_=>?_)
   ·go_simp
    ((first|(go_at_call 38;refine (K1.out _ _ _ HF.out.drewN.sv).mono ?_)|(refine (K1.out _ _ _ HF.out.drewN.sv).mono ?_));(first|rintro e w6 ⟨rfl,vs6,vb6,hs6,ht6⟩|(intro e w6 he vs6 vb6 hs6 ht6;subst he)))
    have F6:=HF.out.drewN.call hs6 ht6
    refine hK_.out _ _ (⟨(blk_cell F6.r5 1).trans rfl,(blk_cell F6.r5 2).trans rfl⟩) (fun hHeld=>?_)
    exact j3 ⟨vs6,vb6⟩ _ (F6)
   ·go_simp
    have F6:=HF.out.drewN.alloc (.cells #[.int .u64 0,.int .u64 0,.bool false] 89)
    have X6:=HF.out.drewN.box 0 0 false
    refine hK_.out _ _ (⟨(blk_cell F6.r5 1).trans rfl,(blk_cell F6.r5 2).trans rfl⟩) (fun hHeld=>?_)
    exact j8 ⟨vs,vb,_⟩ _ ⟨F6,X6⟩
   ·go_simp
    have F6:=HF.out.drewN.alloc (.cells #[.int .u64 0,.int .u64 0,.bool false] 89)
    have X6:=HF.out.drewN.box 0 0 false
    refine hK_.out _ _ (⟨(blk_cell F6.r5 1).trans rfl,(blk_cell F6.r5 2).trans rfl⟩) (fun hHeld=>?_)
    exact j9 ⟨vs,vb,_⟩ _ ⟨F6,X6⟩
   case c9 =>
    rintro ⟨vs_,vb_,b9_⟩ w_ ⟨F_,X9_⟩
    try dsimp only at F_ X9_
    refine norm_ (by simp only [putAll,Act.put,List.setIfInBounds_toArray,List.set_cons_zero,List.set_cons_succ];rfl) ?_
    have hHeld : (fun w'=>w'.cell? ⟨w.heap.size + 1,1,none⟩ = some (.int .i64 x1) ∧ w'.cell? ⟨w.heap.size + 1,2,none⟩ = some (.int .i64 x2)) w_:=⟨(blk_cell F_.r5 1).trans rfl,(blk_cell F_.r5 2).trans rfl⟩
    refine two_ (i:=3) (j:=8) (Ni:=some 102) (Nj:=some 10) #[true,true,true,true,true,true,true,false,false,true,false,false] #[true,true,true,false,true,true,true,false,true,true,false,false] rfl rfl rfl rfl (by kernel_rfl) (by decide) (by decide) (fun K_ hK_=>?_) (fun K_ hK_=>?_)
    ·go_simp
     ((first|(go_at_call 38;refine (K1.out _ _ _ F_.sv).mono ?_)|(refine (K1.out _ _ _ F_.sv).mono ?_));(first|rintro e w6 ⟨rfl,vs6,vb6,hs6,ht6⟩|(intro e w6 he vs6 vb6 hs6 ht6;subst he)))
     have F6:=F_.call hs6 ht6
     refine hK_.out _ _ (⟨(blk_cell F6.r5 1).trans rfl,(blk_cell F6.r5 2).trans rfl⟩) (fun hHeld=>?_)
     exact j3_9 ⟨vs6,vb6,b9_⟩ _ ⟨F6,X9_.call ht6⟩
    ·go_simp
     have F6:=F_.alloc (.cells #[.int .u64 0,.int .u64 0,.bool false] 89)
     have X6:=F_.box 0 0 false
     refine hK_.out _ _ (⟨(blk_cell F6.r5 1).trans rfl,(blk_cell F6.r5 2).trans rfl⟩) (fun hHeld=>?_)
     exact j8_9 ⟨vs_,vb_,_,b9_⟩ _ ⟨F6,X6,X9_.alloc _,(by have h_:=blk_lt X9_.r;show w_.heap.size ≠ b9_;omega)⟩
   case c8 =>
    rintro ⟨vs_,vb_,b8_⟩ w_ ⟨F_,X8_⟩
    try dsimp only at F_ X8_
    refine norm_ (by simp only [putAll,Act.put,List.setIfInBounds_toArray,List.set_cons_zero,List.set_cons_succ];rfl) ?_
    have hHeld : (fun w'=>w'.cell? ⟨w.heap.size + 1,1,none⟩ = some (.int .i64 x1) ∧ w'.cell? ⟨w.heap.size + 1,2,none⟩ = some (.int .i64 x2)) w_:=⟨(blk_cell F_.r5 1).trans rfl,(blk_cell F_.r5 2).trans rfl⟩
    refine two_ (i:=3) (j:=9) (Ni:=some 102) (Nj:=some 11) #[true,true,true,true,true,true,true,false,true,false,false,false] #[true,true,true,false,true,true,true,false,true,true,false,false] rfl rfl rfl rfl (by kernel_rfl) (by decide) (by decide) (fun K_ hK_=>?_) (fun K_ hK_=>?_)
    ·go_simp
     ((first|(go_at_call 38;refine (K1.out _ _ _ F_.sv).mono ?_)|(refine (K1.out _ _ _ F_.sv).mono ?_));(first|rintro e w6 ⟨rfl,vs6,vb6,hs6,ht6⟩|(intro e w6 he vs6 vb6 hs6 ht6;subst he)))
     have F6:=F_.call hs6 ht6
     refine hK_.out _ _ (⟨(blk_cell F6.r5 1).trans rfl,(blk_cell F6.r5 2).trans rfl⟩) (fun hHeld=>?_)
     exact j3_8 ⟨vs6,vb6,b8_⟩ _ ⟨F6,X8_.call ht6⟩
    ·go_simp
     have F6:=F_.alloc (.cells #[.int .u64 0,.int .u64 0,.bool false] 89)
     have X6:=F_.box 0 0 false
     refine hK_.out _ _ (⟨(blk_cell F6.r5 1).trans rfl,(blk_cell F6.r5 2).trans rfl⟩) (fun hHeld=>?_)
     exact j8_9 ⟨vs_,vb_,b8_,_⟩ _ ⟨F6,X8_.alloc _,X6,(by have h_:=blk_lt X8_.r;show b8_ ≠ w_.heap.size;omega)⟩
   case c3 =>
    rintro ⟨vs_,vb_⟩ w_ F_
    try dsimp only at F_
    refine norm_ (by simp only [putAll,Act.put,List.setIfInBounds_toArray,List.set_cons_zero,List.set_cons_succ];rfl) ?_
    have hHeld : (fun w'=>w'.cell? ⟨w.heap.size + 1,1,none⟩ = some (.int .i64 x1) ∧ w'.cell? ⟨w.heap.size + 1,2,none⟩ = some (.int .i64 x2)) w_:=⟨(blk_cell F_.r5 1).trans rfl,(blk_cell F_.r5 2).trans rfl⟩
    refine three_ (i:=7) (j:=8) (k:=9) (Ni:=some 106) (Nj:=some 10) (Nk:=some 11) #[true,true,true,true,true,true,true,true,false,false,false,false] #[true,true,true,true,true,true,true,false,true,false,false,false] #[true,true,true,true,true,true,true,false,false,true,false,false] rfl rfl rfl rfl rfl rfl (by kernel_rfl) (by decide) (by decide) (by decide) (fun K_ hK_=>?_) (fun K_ hK_=>?_) (fun K_ hK_=>?_)
    ·go_simp
     ((first|(go_at_call 38;refine (K2.out _ _ _ F_.sv).mono ?_)|(refine (K2.out _ _ _ F_.sv).mono ?_));(first|rintro e w6 ⟨rfl,vs6,vb6,hs6,ht6⟩|(intro e w6 he vs6 vb6 hs6 ht6;subst he)))
     have F6:=F_.call hs6 ht6
     refine hK_.out _ _ (⟨(blk_cell F6.r5 1).trans rfl,(blk_cell F6.r5 2).trans rfl⟩) (fun hHeld=>?_)
     exact j3_7 ⟨vs6,vb6⟩ _ (F6)
    ·go_simp
     have F6:=F_.alloc (.cells #[.int .u64 0,.int .u64 0,.bool false] 89)
     have X6:=F_.box 0 0 false
     refine hK_.out _ _ (⟨(blk_cell F6.r5 1).trans rfl,(blk_cell F6.r5 2).trans rfl⟩) (fun hHeld=>?_)
     exact j3_8 ⟨vs_,vb_,_⟩ _ ⟨F6,X6⟩
    ·go_simp
     have F6:=F_.alloc (.cells #[.int .u64 0,.int .u64 0,.bool false] 89)
     have X6:=F_.box 0 0 false
     refine hK_.out _ _ (⟨(blk_cell F6.r5 1).trans rfl,(blk_cell F6.r5 2).trans rfl⟩) (fun hHeld=>?_)
     exact j3_9 ⟨vs_,vb_,_⟩ _ ⟨F6,X6⟩
   case c8_9 =>
    rintro ⟨vs_,vb_,b8_,b9_⟩ w_ ⟨F_,X8_,X9_,N_⟩
    try dsimp only at F_ X8_ X9_ N_
    refine norm_ (by simp only [putAll,Act.put,List.setIfInBounds_toArray,List.set_cons_zero,List.set_cons_succ];rfl) ?_
    have hHeld : (fun w'=>w'.cell? ⟨w.heap.size + 1,1,none⟩ = some (.int .i64 x1) ∧ w'.cell? ⟨w.heap.size + 1,2,none⟩ = some (.int .i64 x2)) w_:=⟨(blk_cell F_.r5 1).trans rfl,(blk_cell F_.r5 2).trans rfl⟩
    refine one_ (i:=3) (N:=some 102) #[true,true,true,true,true,true,true,false,true,true,false,false] rfl rfl (by kernel_rfl) (by decide) (fun K_ hK_=>?_)
    go_simp
    ((first|(go_at_call 38;refine (K1.out _ _ _ F_.sv).mono ?_)|(refine (K1.out _ _ _ F_.sv).mono ?_));(first|rintro e w6 ⟨rfl,vs6,vb6,hs6,ht6⟩|(intro e w6 he vs6 vb6 hs6 ht6;subst he)))
    have F6:=F_.call hs6 ht6
    refine hK_.out _ _ (⟨(blk_cell F6.r5 1).trans rfl,(blk_cell F6.r5 2).trans rfl⟩) (fun hHeld=>?_)
    exact j3_8_9 ⟨vs6,vb6,b8_,b9_⟩ _ ⟨F6,X8_.call ht6,X9_.call ht6,N_⟩
   case c3_9 =>
    rintro ⟨vs_,vb_,b9_⟩ w_ ⟨F_,X9_⟩
    try dsimp only at F_ X9_
    refine norm_ (by simp only [putAll,Act.put,List.setIfInBounds_toArray,List.set_cons_zero,List.set_cons_succ];rfl) ?_
    have hHeld : (fun w'=>w'.cell? ⟨w.heap.size + 1,1,none⟩ = some (.int .i64 x1) ∧ w'.cell? ⟨w.heap.size + 1,2,none⟩ = some (.int .i64 x2)) w_:=⟨(blk_cell F_.r5 1).trans rfl,(blk_cell F_.r5 2).trans rfl⟩
    refine two_ (i:=7) (j:=8) (Ni:=some 106) (Nj:=some 10) #[true,true,true,true,true,true,true,true,false,true,false,false] #[true,true,true,true,true,true,true,false,true,true,false,false] rfl rfl rfl rfl (by kernel_rfl) (by decide) (by decide) (fun K_ hK_=>?_) (fun K_ hK_=>?_)
    ·go_simp
     ((first|(go_at_call 38;refine (K2.out _ _ _ F_.sv).mono ?_)|(refine (K2.out _ _ _ F_.sv).mono ?_));(first|rintro e w6 ⟨rfl,vs6,vb6,hs6,ht6⟩|(intro e w6 he vs6 vb6 hs6 ht6;subst he)))
     have F6:=F_.call hs6 ht6
     refine hK_.out _ _ (⟨(blk_cell F6.r5 1).trans rfl,(blk_cell F6.r5 2).trans rfl⟩) (fun hHeld=>?_)
     exact j3_7_9 ⟨vs6,vb6,b9_⟩ _ ⟨F6,X9_.call ht6⟩
    ·go_simp
     have F6:=F_.alloc (.cells #[.int .u64 0,.int .u64 0,.bool false] 89)
     have X6:=F_.box 0 0 false
     refine hK_.out _ _ (⟨(blk_cell F6.r5 1).trans rfl,(blk_cell F6.r5 2).trans rfl⟩) (fun hHeld=>?_)
     exact j3_8_9 ⟨vs_,vb_,_,b9_⟩ _ ⟨F6,X6,X9_.alloc _,(by have h_:=blk_lt X9_.r;show w_.heap.size ≠ b9_;omega)⟩
   case c3_8 =>
    rintro ⟨vs_,vb_,b8_⟩ w_ ⟨F_,X8_⟩
    try dsimp only at F_ X8_
    refine norm_ (by simp only [putAll,Act.put,List.setIfInBounds_toArray,List.set_cons_zero,List.set_cons_succ];rfl) ?_
    have hHeld : (fun w'=>w'.cell? ⟨w.heap.size + 1,1,none⟩ = some (.int .i64 x1) ∧ w'.cell? ⟨w.heap.size + 1,2,none⟩ = some (.int .i64 x2)) w_:=⟨(blk_cell F_.r5 1).trans rfl,(blk_cell F_.r5 2).trans rfl⟩
    refine two_ (i:=7) (j:=9) (Ni:=some 106) (Nj:=some 11) #[true,true,true,true,true,true,true,true,true,false,false,false] #[true,true,true,true,true,true,true,false,true,true,false,false] rfl rfl rfl rfl (by kernel_rfl) (by decide) (by decide) (fun K_ hK_=>?_) (fun K_ hK_=>?_)
    ·go_simp
     ((first|(go_at_call 38;refine (K2.out _ _ _ F_.sv).mono ?_)|(refine (K2.out _ _ _ F_.sv).mono ?_));(first|rintro e w6 ⟨rfl,vs6,vb6,hs6,ht6⟩|(intro e w6 he vs6 vb6 hs6 ht6;subst he)))
     have F6:=F_.call hs6 ht6
     refine hK_.out _ _ (⟨(blk_cell F6.r5 1).trans rfl,(blk_cell F6.r5 2).trans rfl⟩) (fun hHeld=>?_)
     exact j3_7_8 ⟨vs6,vb6,b8_⟩ _ ⟨F6,X8_.call ht6⟩
    ·go_simp
     have F6:=F_.alloc (.cells #[.int .u64 0,.int .u64 0,.bool false] 89)
     have X6:=F_.box 0 0 false
     refine hK_.out _ _ (⟨(blk_cell F6.r5 1).trans rfl,(blk_cell F6.r5 2).trans rfl⟩) (fun hHeld=>?_)
     exact j3_8_9 ⟨vs_,vb_,b8_,_⟩ _ ⟨F6,X8_.alloc _,X6,(by have h_:=blk_lt X8_.r;show b8_ ≠ w_.heap.size;omega)⟩
   case c3_7 =>
    rintro ⟨vs_,vb_⟩ w_ F_
    try dsimp only at F_
    refine norm_ (by simp only [putAll,Act.put,List.setIfInBounds_toArray,List.set_cons_zero,List.set_cons_succ];rfl) ?_
    have hHeld : (fun w'=>w'.cell? ⟨w.heap.size + 1,1,none⟩ = some (.int .i64 x1) ∧ w'.cell? ⟨w.heap.size + 1,2,none⟩ = some (.int .i64 x2)) w_:=⟨(blk_cell F_.r5 1).trans rfl,(blk_cell F_.r5 2).trans rfl⟩
    refine two_ (i:=8) (j:=9) (Ni:=some 10) (Nj:=some 11) #[true,true,true,true,true,true,true,true,true,false,false,false] #[true,true,true,true,true,true,true,true,false,true,false,false] rfl rfl rfl rfl (by kernel_rfl) (by decide) (by decide) (fun K_ hK_=>?_) (fun K_ hK_=>?_)
    ·go_simp
     have F6:=F_.alloc (.cells #[.int .u64 0,.int .u64 0,.bool false] 89)
     have X6:=F_.box 0 0 false
     refine hK_.out _ _ (⟨(blk_cell F6.r5 1).trans rfl,(blk_cell F6.r5 2).trans rfl⟩) (fun hHeld=>?_)
     exact j3_7_8 ⟨vs_,vb_,_⟩ _ ⟨F6,X6⟩
    ·go_simp
     have F6:=F_.alloc (.cells #[.int .u64 0,.int .u64 0,.bool false] 89)
     have X6:=F_.box 0 0 false
     refine hK_.out _ _ (⟨(blk_cell F6.r5 1).trans rfl,(blk_cell F6.r5 2).trans rfl⟩) (fun hHeld=>?_)
     exact j3_7_9 ⟨vs_,vb_,_⟩ _ ⟨F6,X6⟩
   case c3_8_9 =>
    rintro ⟨vs_,vb_,b8_,b9_⟩ w_ ⟨F_,X8_,X9_,N_⟩
    try dsimp only at F_ X8_ X9_ N_
    refine norm_ (by simp only [putAll,Act.put,List.setIfInBounds_toArray,List.set_cons_zero,List.set_cons_succ];rfl) ?_
    have hHeld : (fun w'=>w'.cell? ⟨w.heap.size + 1,1,none⟩ = some (.int .i64 x1) ∧ w'.cell? ⟨w.heap.size + 1,2,none⟩ = some (.int .i64 x2)) w_:=⟨(blk_cell F_.r5 1).trans rfl,(blk_cell F_.r5 2).trans rfl⟩
    refine one_ (i:=7) (N:=some 106) #[true,true,true,true,true,true,true,true,true,true,false,false] rfl rfl (by kernel_rfl) (by decide) (fun K_ hK_=>?_)
    go_simp
    ((first|(go_at_call 38;refine (K2.out _ _ _ F_.sv).mono ?_)|(refine (K2.out _ _ _ F_.sv).mono ?_));(first|rintro e w6 ⟨rfl,vs6,vb6,hs6,ht6⟩|(intro e w6 he vs6 vb6 hs6 ht6;subst he)))
    have F6:=F_.call hs6 ht6
    refine hK_.out _ _ (⟨(blk_cell F6.r5 1).trans rfl,(blk_cell F6.r5 2).trans rfl⟩) (fun hHeld=>?_)
    exact j3_7_8_9 ⟨vs6,vb6,b8_,b9_⟩ _ ⟨F6,X8_.call ht6,X9_.call ht6,N_⟩
   case c3_7_9 =>
    rintro ⟨vs_,vb_,b9_⟩ w_ ⟨F_,X9_⟩
    try dsimp only at F_ X9_
    refine norm_ (by simp only [putAll,Act.put,List.setIfInBounds_toArray,List.set_cons_zero,List.set_cons_succ];rfl) ?_
    have hHeld : (fun w'=>w'.cell? ⟨w.heap.size + 1,1,none⟩ = some (.int .i64 x1) ∧ w'.cell? ⟨w.heap.size + 1,2,none⟩ = some (.int .i64 x2)) w_:=⟨(blk_cell F_.r5 1).trans rfl,(blk_cell F_.r5 2).trans rfl⟩
    refine one_ (i:=8) (N:=some 10) #[true,true,true,true,true,true,true,true,true,true,false,false] rfl rfl (by kernel_rfl) (by decide) (fun K_ hK_=>?_)
    go_simp
    have F6:=F_.alloc (.cells #[.int .u64 0,.int .u64 0,.bool false] 89)
    have X6:=F_.box 0 0 false
    refine hK_.out _ _ (⟨(blk_cell F6.r5 1).trans rfl,(blk_cell F6.r5 2).trans rfl⟩) (fun hHeld=>?_)
    exact j3_7_8_9 ⟨vs_,vb_,_,b9_⟩ _ ⟨F6,X6,X9_.alloc _,(by have h_:=blk_lt X9_.r;show w_.heap.size ≠ b9_;omega)⟩
   case c3_7_8 =>
    rintro ⟨vs_,vb_,b8_⟩ w_ ⟨F_,X8_⟩
    try dsimp only at F_ X8_
    refine norm_ (by simp only [putAll,Act.put,List.setIfInBounds_toArray,List.set_cons_zero,List.set_cons_succ];rfl) ?_
    have hHeld : (fun w'=>w'.cell? ⟨w.heap.size + 1,1,none⟩ = some (.int .i64 x1) ∧ w'.cell? ⟨w.heap.size + 1,2,none⟩ = some (.int .i64 x2)) w_:=⟨(blk_cell F_.r5 1).trans rfl,(blk_cell F_.r5 2).trans rfl⟩
    refine one_ (i:=9) (N:=some 11) #[true,true,true,true,true,true,true,true,true,true,false,false] rfl rfl (by kernel_rfl) (by decide) (fun K_ hK_=>?_)
    go_simp
    have F6:=F_.alloc (.cells #[.int .u64 0,.int .u64 0,.bool false] 89)
    have X6:=F_.box 0 0 false
    refine hK_.out _ _ (⟨(blk_cell F6.r5 1).trans rfl,(blk_cell F6.r5 2).trans rfl⟩) (fun hHeld=>?_)
    exact j3_7_8_9 ⟨vs_,vb_,b8_,_⟩ _ ⟨F6,X8_.alloc _,X6,(by have h_:=blk_lt X8_.r;show b8_ ≠ w_.heap.size;omega)⟩
   case c3_7_8_9 =>
    rintro ⟨vs_,vb_,b8_,b9_⟩ w_ ⟨F_,X8_,X9_,N_⟩
    try dsimp only at F_ X8_ X9_ N_
    refine norm_ (by simp only [putAll,Act.put,List.setIfInBounds_toArray,List.set_cons_zero,List.set_cons_succ];rfl) ?_
    have hHeld : (fun w'=>w'.cell? ⟨w.heap.size + 1,1,none⟩ = some (.int .i64 x1) ∧ w'.cell? ⟨w.heap.size + 1,2,none⟩ = some (.int .i64 x2)) w_:=⟨(blk_cell F_.r5 1).trans rfl,(blk_cell F_.r5 2).trans rfl⟩
    have ka0:=(blk_cell X8_.r 0).trans rfl
    have ka1:=(blk_cell X8_.r 1).trans rfl
    have ka2:=(blk_cell X8_.r 2).trans rfl
    have kaf0:=blk_frozen X8_.r 0
    have kaf1:=blk_frozen (blk_set X8_.r 0 (.int .u64 p1)) 1
    have kaf2:=blk_frozen (blk_set (blk_set X8_.r 0 (.int .u64 p1)) 1 (.int .u64 p2)) 2
    obtain ⟨wA,hwA⟩ : ∃ wA,((w_.setCell ⟨b8_,0,none⟩ (.int .u64 p1)).setCell ⟨b8_,1,none⟩ (.int .u64 p2)).setCell ⟨b8_,2,none⟩ (.bool p3) = wA:=⟨_,rfl⟩
    have FA:=F_.put3 X8_ p1 p2 p3
    have YA:=X8_.put3 p1 p2 p3
    have YB:=X9_.far3 N_ p1 p2 p3
    unfold sR.put3 at FA YA YB
    rw [hwA] at FA YA YB
    refine one_ (i:=10) (N:=none) #[true,true,true,true,true,true,true,true,true,true,true,false] rfl rfl (by kernel_rfl) (by decide) (fun K_ hK_=>?_)
    go_simp
    refine hK_.out _ _ (⟨(blk_cell FA.r5 1).trans rfl,(blk_cell FA.r5 2).trans rfl⟩) (fun hHeld=>?_)
    clear hK_ K_
    try (refine norm_ (by simp only [putAll,Act.put,List.setIfInBounds_toArray,List.set_cons_zero,List.set_cons_succ];rfl) ?_)
    clear ka0 ka1 ka2 kaf0 kaf1 kaf2 hwA F_ X8_ X9_
    have kb0:=(blk_cell YB.r 0).trans rfl
    have kb1:=(blk_cell YB.r 1).trans rfl
    have kb2:=(blk_cell YB.r 2).trans rfl
    have kbf0:=blk_frozen YB.r 0
    have kbf1:=blk_frozen (blk_set YB.r 0 (.int .u64 r1)) 1
    have kbf2:=blk_frozen (blk_set (blk_set YB.r 0 (.int .u64 r1)) 1 (.int .u64 r2)) 2
    obtain ⟨wB,hwB⟩ : ∃ wB,((wA.setCell ⟨b9_,0,none⟩ (.int .u64 r1)).setCell ⟨b9_,1,none⟩ (.int .u64 r2)).setCell ⟨b9_,2,none⟩ (.bool r3) = wB:=⟨_,rfl⟩
    have FB:=FA.put3 YB r1 r2 r3
    have ZB:=YB.put3 r1 r2 r3
    have ZA:=YA.far3 (Ne.symm N_) r1 r2 r3
    unfold sR.put3 at FB ZA ZB
    rw [hwB] at FB ZA ZB
    refine one_ (i:=11) (N:=none) #[true,true,true,true,true,true,true,true,true,true,true,true] rfl rfl (by kernel_rfl) (by decide) (fun K_ hK_=>?_)
    go_simp
    refine hK_.out _ _ (⟨(blk_cell FB.r5 1).trans rfl,(blk_cell FB.r5 2).trans rfl⟩) (fun hHeld=>?_)
    clear hK_ K_
    try (refine norm_ (by simp only [putAll,Act.put,List.setIfInBounds_toArray,List.set_cons_zero,List.set_cons_succ];rfl) ?_)
    clear kb0 kb1 kb2 kbf0 kbf1 kbf2 hwB FA YA YB hHeld
    refine done_ (by kernel_rfl) ?_
    have FB:=Aside0.mk FB
    have ZA:=Aside0.mk ZA
    have ZB:=Aside0.mk ZB
    have NN:=Aside0.mk N_
    clear N_
    have ka0:=(blk_cell ZA.out.r 0).trans rfl
    have ka1:=(blk_cell ZA.out.r 1).trans rfl
    have ka2:=(blk_cell ZA.out.r 2).trans rfl
    have kb0:=(blk_cell ZB.out.r 0).trans rfl
    have kb1:=(blk_cell ZB.out.r 1).trans rfl
    have kb2:=(blk_cell ZB.out.r 2).trans rfl
    have JJ:=Aside0.mk (sR.join_calls FB.out.sv (by have:=CL.out;omega) p2 r1)
    cases p3
    ·cases r3
     ·go_wp2_with ((first|(go_at_call 71;refine JJ.out.mono ?_)|(refine JJ.out.mono ?_));(first|rintro e wC ⟨rfl,hs8,ht8⟩|(intro e wC he hs8 ht8;subst he));have FC:=Aside0.mk (FB.out.call hs8 ht8);have YA:=Aside0.mk (ZA.out.call ht8);have YB:=Aside0.mk (ZB.out.call ht8);clear hs8 ht8;clear ka0 ka1 ka2 kb0 kb1 kb2;have ka2:=(blk_cell YA.out.r 2).trans rfl;have ka0:=(blk_cell YA.out.r 0).trans rfl;have ka1:=(blk_cell YA.out.r 1).trans rfl;have kb0:=(blk_cell YB.out.r 0).trans rfl;have kb1:=(blk_cell YB.out.r 1).trans rfl;have kb2:=(blk_cell YB.out.r 2).trans rfl;have r40:=(blk_cell FC.out.r4 0).trans rfl;have r41:=(blk_cell FC.out.r4 1).trans rfl;have r42:=(blk_cell FC.out.r4 2).trans rfl;have f0:=blk_frozen FC.out.r4 0;have f1_:=blk_frozen (blk_set FC.out.r4 0 (.int .u64 p1)) 1;have f2_:=blk_frozen (blk_set (blk_set FC.out.r4 0 (.int .u64 p1)) 1 (.int .u64 r2)) 2;have Z:=Aside0.mk (sR.fill FC.out.sv (HT.out.trans FC.out.tt) FC.out.r4 FC.out.a4 FC.out.g4 (Nat.le_refl _) (.int .u64 p1) (.int .u64 r2) (.bool false)))
      exact bodyPost_ret (results_single rfl (.cell w.heap.size 89 #[.int .u64 p1,.int .u64 r2,.bool false] (0,0) _ rfl Z.out.1 hu2 rfl rfl .nil)) rfl ⟨rfl,_,_,Z.out.2.1,Z.out.2.2⟩
     ·go_wp2_with ((first|(go_at_call 71;refine JJ.out.mono ?_)|(refine JJ.out.mono ?_));(first|rintro e wC ⟨rfl,hs8,ht8⟩|(intro e wC he hs8 ht8;subst he));have FC:=Aside0.mk (FB.out.call hs8 ht8);have YA:=Aside0.mk (ZA.out.call ht8);have YB:=Aside0.mk (ZB.out.call ht8);clear hs8 ht8;clear ka0 ka1 ka2 kb0 kb1 kb2;have ka2:=(blk_cell YA.out.r 2).trans rfl;have ka0:=(blk_cell YA.out.r 0).trans rfl;have ka1:=(blk_cell YA.out.r 1).trans rfl;have kb0:=(blk_cell YB.out.r 0).trans rfl;have kb1:=(blk_cell YB.out.r 1).trans rfl;have kb2:=(blk_cell YB.out.r 2).trans rfl;have kbf:=blk_frozen YB.out.r 1;(obtain ⟨wE,hwE⟩ : ∃ wE,wC.setCell ⟨b9_,1,none⟩ (.int .u64 (Go.bits .or .u64 r2 p2)) = wE:=⟨_,rfl⟩);have FE:=Aside0.mk (FC.out.set YB.out 1 (.int .u64 (Go.bits .or .u64 r2 p2)));have XF:=Aside0.mk (YA.out.far (Ne.symm NN.out) 1 (.int .u64 (Go.bits .or .u64 r2 p2)));have XG:=Aside0.mk (YB.out.one 1 (.int .u64 (Go.bits .or .u64 r2 p2)) r1 (Go.bits .or .u64 r2 p2) true rfl);rw [hwE] at FE XF XG;have ea0:=(blk_cell XF.out.r 0).trans rfl;have ea1:=(blk_cell XF.out.r 1).trans rfl;have ea2:=(blk_cell XF.out.r 2).trans rfl;have eb0:=(blk_cell XG.out.r 0).trans rfl;have eb1:=(blk_cell XG.out.r 1).trans rfl;have eb2:=(blk_cell XG.out.r 2).trans rfl;have r40:=(blk_cell FE.out.r4 0).trans rfl;have r41:=(blk_cell FE.out.r4 1).trans rfl;have r42:=(blk_cell FE.out.r4 2).trans rfl;have f0:=blk_frozen FE.out.r4 0;have f1_:=blk_frozen (blk_set FE.out.r4 0 (.int .u64 p1)) 1;have f2_:=blk_frozen (blk_set (blk_set FE.out.r4 0 (.int .u64 p1)) 1 (.int .u64 (Go.bits .or .u64 r2 p2))) 2;have Z:=Aside0.mk (sR.fill FE.out.sv (HT.out.trans FE.out.tt) FE.out.r4 FE.out.a4 FE.out.g4 (Nat.le_refl _) (.int .u64 p1) (.int .u64 (Go.bits .or .u64 r2 p2)) (.bool false)))
      exact bodyPost_ret (results_single rfl (.cell w.heap.size 89 #[.int .u64 p1,.int .u64 (Go.bits .or .u64 r2 p2),.bool false] (0,0) _ rfl Z.out.1 hu2 rfl rfl .nil)) rfl ⟨rfl,_,_,Z.out.2.1,Z.out.2.2⟩
    ·cases r3
     ·go_wp2_with ((first|(go_at_call 71;refine JJ.out.mono ?_)|(refine JJ.out.mono ?_));(first|rintro e wC ⟨rfl,hs8,ht8⟩|(intro e wC he hs8 ht8;subst he));have FC:=Aside0.mk (FB.out.call hs8 ht8);have YA:=Aside0.mk (ZA.out.call ht8);have YB:=Aside0.mk (ZB.out.call ht8);clear hs8 ht8;clear ka0 ka1 ka2 kb0 kb1 kb2;have ka2:=(blk_cell YA.out.r 2).trans rfl;have ka0:=(blk_cell YA.out.r 0).trans rfl;have ka1:=(blk_cell YA.out.r 1).trans rfl;have kb0:=(blk_cell YB.out.r 0).trans rfl;have kb1:=(blk_cell YB.out.r 1).trans rfl;have kb2:=(blk_cell YB.out.r 2).trans rfl;have kaf:=blk_frozen YA.out.r 0;(obtain ⟨wD,hwD⟩ : ∃ wD,wC.setCell ⟨b8_,0,none⟩ (.int .u64 (Go.bits .or .u64 p1 r1)) = wD:=⟨_,rfl⟩);have FD:=Aside0.mk (FC.out.set YA.out 0 (.int .u64 (Go.bits .or .u64 p1 r1)));have XD:=Aside0.mk (YA.out.one 0 (.int .u64 (Go.bits .or .u64 p1 r1)) (Go.bits .or .u64 p1 r1) p2 true rfl);have XE:=Aside0.mk (YB.out.far NN.out 0 (.int .u64 (Go.bits .or .u64 p1 r1)));rw [hwD] at FD XD XE;have da0:=(blk_cell XD.out.r 0).trans rfl;have da1:=(blk_cell XD.out.r 1).trans rfl;have da2:=(blk_cell XD.out.r 2).trans rfl;have db0:=(blk_cell XE.out.r 0).trans rfl;have db1:=(blk_cell XE.out.r 1).trans rfl;have db2:=(blk_cell XE.out.r 2).trans rfl;have r40:=(blk_cell FD.out.r4 0).trans rfl;have r41:=(blk_cell FD.out.r4 1).trans rfl;have r42:=(blk_cell FD.out.r4 2).trans rfl;have f0:=blk_frozen FD.out.r4 0;have f1_:=blk_frozen (blk_set FD.out.r4 0 (.int .u64 (Go.bits .or .u64 p1 r1))) 1;have f2_:=blk_frozen (blk_set (blk_set FD.out.r4 0 (.int .u64 (Go.bits .or .u64 p1 r1))) 1 (.int .u64 r2)) 2;have Z:=Aside0.mk (sR.fill FD.out.sv (HT.out.trans FD.out.tt) FD.out.r4 FD.out.a4 FD.out.g4 (Nat.le_refl _) (.int .u64 (Go.bits .or .u64 p1 r1)) (.int .u64 r2) (.bool false)))
      exact bodyPost_ret (results_single rfl (.cell w.heap.size 89 #[.int .u64 (Go.bits .or .u64 p1 r1),.int .u64 r2,.bool false] (0,0) _ rfl Z.out.1 hu2 rfl rfl .nil)) rfl ⟨rfl,_,_,Z.out.2.1,Z.out.2.2⟩
     ·go_wp2_with ((first|(go_at_call 71;refine JJ.out.mono ?_)|(refine JJ.out.mono ?_));(first|rintro e wC ⟨rfl,hs8,ht8⟩|(intro e wC he hs8 ht8;subst he));have FC:=Aside0.mk (FB.out.call hs8 ht8);have YA:=Aside0.mk (ZA.out.call ht8);have YB:=Aside0.mk (ZB.out.call ht8);clear hs8 ht8;clear ka0 ka1 ka2 kb0 kb1 kb2;have ka2:=(blk_cell YA.out.r 2).trans rfl;have ka0:=(blk_cell YA.out.r 0).trans rfl;have ka1:=(blk_cell YA.out.r 1).trans rfl;have kb0:=(blk_cell YB.out.r 0).trans rfl;have kb1:=(blk_cell YB.out.r 1).trans rfl;have kb2:=(blk_cell YB.out.r 2).trans rfl;have kaf:=blk_frozen YA.out.r 0;(obtain ⟨wD,hwD⟩ : ∃ wD,wC.setCell ⟨b8_,0,none⟩ (.int .u64 (Go.bits .or .u64 p1 r1)) = wD:=⟨_,rfl⟩);have FD:=Aside0.mk (FC.out.set YA.out 0 (.int .u64 (Go.bits .or .u64 p1 r1)));have XD:=Aside0.mk (YA.out.one 0 (.int .u64 (Go.bits .or .u64 p1 r1)) (Go.bits .or .u64 p1 r1) p2 true rfl);have XE:=Aside0.mk (YB.out.far NN.out 0 (.int .u64 (Go.bits .or .u64 p1 r1)));rw [hwD] at FD XD XE;have da0:=(blk_cell XD.out.r 0).trans rfl;have da1:=(blk_cell XD.out.r 1).trans rfl;have da2:=(blk_cell XD.out.r 2).trans rfl;have db0:=(blk_cell XE.out.r 0).trans rfl;have db1:=(blk_cell XE.out.r 1).trans rfl;have db2:=(blk_cell XE.out.r 2).trans rfl;have kbf:=blk_frozen XE.out.r 1;(obtain ⟨wE,hwE⟩ : ∃ wE,wD.setCell ⟨b9_,1,none⟩ (.int .u64 (Go.bits .or .u64 r2 p2)) = wE:=⟨_,rfl⟩);have FE:=Aside0.mk (FD.out.set XE.out 1 (.int .u64 (Go.bits .or .u64 r2 p2)));have XF:=Aside0.mk (XD.out.far (Ne.symm NN.out) 1 (.int .u64 (Go.bits .or .u64 r2 p2)));have XG:=Aside0.mk (XE.out.one 1 (.int .u64 (Go.bits .or .u64 r2 p2)) r1 (Go.bits .or .u64 r2 p2) true rfl);rw [hwE] at FE XF XG;have ea0:=(blk_cell XF.out.r 0).trans rfl;have ea1:=(blk_cell XF.out.r 1).trans rfl;have ea2:=(blk_cell XF.out.r 2).trans rfl;have eb0:=(blk_cell XG.out.r 0).trans rfl;have eb1:=(blk_cell XG.out.r 1).trans rfl;have eb2:=(blk_cell XG.out.r 2).trans rfl;have r40:=(blk_cell FE.out.r4 0).trans rfl;have r41:=(blk_cell FE.out.r4 1).trans rfl;have r42:=(blk_cell FE.out.r4 2).trans rfl;have f0:=blk_frozen FE.out.r4 0;have f1_:=blk_frozen (blk_set FE.out.r4 0 (.int .u64 (Go.bits .or .u64 p1 r1))) 1;have f2_:=blk_frozen (blk_set (blk_set FE.out.r4 0 (.int .u64 (Go.bits .or .u64 p1 r1))) 1 (.int .u64 (Go.bits .or .u64 r2 p2))) 2;have Z:=Aside0.mk (sR.fill FE.out.sv (HT.out.trans FE.out.tt) FE.out.r4 FE.out.a4 FE.out.g4 (Nat.le_refl _) (.int .u64 (Go.bits .or .u64 p1 r1)) (.int .u64 (Go.bits .or .u64 r2 p2)) (.bool true)))
      exact bodyPost_ret (results_single rfl (.cell w.heap.size 89 #[.int .u64 (Go.bits .or .u64 p1 r1),.int .u64 (Go.bits .or .u64 r2 p2),.bool true] (0,0) _ rfl Z.out.1 hu2 rfl rfl .nil)) rfl ⟨rfl,_,_,Z.out.2.1,Z.out.2.2⟩
  rw [if_neg c4] at h
  have t4 : (x0 == 4) = false:=beq_eq_false_iff_ne.2 c4
  clear c4
  obtain rfl:=Option.some.inj h
  have f0:=blk_frozen HF.out.r4 0
  have f1:=blk_frozen (blk_set HF.out.r4 0 (.int .u64 0)) 1
  have f2:=blk_frozen (blk_set (blk_set HF.out.r4 0 (.int .u64 0)) 1 (.int .u64 0)) 2
  have Z:=Aside0.mk (sR.fill HF.out.sv HT.out HF.out.r4 HF.out.a4 HF.out.g4 (Nat.le_refl _) (.int .u64 0) (.int .u64 0) (.bool false))
  clear h
  go_enter Try.func38,Try.ntmps38
  go_wp2
  exact bodyPost_ret (results_single rfl (.cell w.heap.size 89 #[.int .u64 0,.int .u64 0,.bool false] (0,0) _ rfl Z.out.1 hu2 rfl rfl .nil)) rfl ⟨rfl,_,_,Z.out.2.1,Z.out.2.2⟩
set_option maxRecDepth 100000 in
theorem sN.row_succ (sym : List Int) (fr : Nat) (tw : Int) (j : Nat) : sN.row sym fr tw (j + 1) = sN.row sym fr tw j ++ (if sR.bit tw j = true then [⟨(fr : Int),sym.getD j 0,(j : Int) + 1⟩] else []):=by
 unfold sN.row
 rw [List.range_succ,List.filter_append,List.map_append]
 congr 1
 by_cases h : sR.bit tw j = true
 ·rw [if_pos h];simp [h]
 ·rw [if_neg h];simp [h]
set_option maxRecDepth 100000 in
theorem sN.row_len (sym : List Int) (fr : Nat) (tw : Int) (j : Nat) : (sN.row sym fr tw j).length ≤ j:=by
 unfold sN.row
 rw [List.length_map]
 exact Nat.le_trans (List.length_filter_le _ _) (by simp)
set_option maxRecDepth 100000 in
theorem sN.all_succ (rows sym : List Int) (i : Nat) : sN.all rows sym (i + 1) = sN.all rows sym i ++ sN.row sym i (rows.getD i 0) sym.length:=by
 unfold sN.all;rw [List.range_succ,List.flatMap_append];simp
set_option maxRecDepth 100000 in
theorem sN.all_len (rows sym : List Int) : ∀ i,(sN.all rows sym i).length ≤ i * sym.length
 | 0=>by simp [sN.all]
 | i + 1=>by
  have:=sN.all_len rows sym i
  have h2:=sN.row_len sym i (rows.getD i 0) sym.length
  rw [sN.all_succ,List.length_append,Nat.succ_mul]
  omega
set_option maxRecDepth 100000 in
theorem sN.info42 : (Try.prog.info? 42).map (fun i=>(i.zero,i.size,i.bytes)) = some (some (.agg #[.int .i64 0,.int .i64 0,.int .i64 0]),3,24):=by kernel_rfl
set_option maxRecDepth 100000 in
theorem sN.one_R (w : World) (x : Int) {b base : Nat} (hb : b = w.heap.size) (hbase : base ≤ b) : Kd.R (Kd.int .u64) 87 (w.alloc (.cells #[.int .u64 x] 87)) base (fun k=>k = b) (.slice (some ⟨b,0,none⟩) 1 1) [x]:=by
 subst hb
 refine Kd.R_of_own ⟨by simp [encs],Or.inr ⟨w.heap.size,1,#[.int .u64 x],rfl,hbase,heap_alloc_new w _,Nat.le_refl _,by decide,rfl,rfl⟩⟩ (fun k hk=>?_)
 simp only [Value.ownBlock,Option.some.injEq] at hk
 exact hk.symm
/-- Is none of the boxes. -/
def sN.ok (g b4 bn k : Nat) : Prop:=k ≠ g ∧ k ≠ b4 ∧ k ≠ bn
/-- The net as it grows. -/
structure sN.L (w : World) (g b4 bn : Nat) (A : Option Addr) (n c : Nat) (vs vb vt va : Value) (sym rows : List Int) (arcs : List S42) (N k fi : Int) (wr : World) : Prop where
 below : Below w.heap.size w wr
 gg : w.heap.size ≤ g
 g4 : w.heap.size ≤ b4
 gn : w.heap.size ≤ bn
 n1 : g ≠ b4
 n2 : g ≠ bn
 n3 : b4 ≠ bn
 xg : wr.heap[g]? = some (.cells #[.slice A n c,vs,vb] 86 (0,0))
 x4 : wr.heap[b4]? = some (.cells #[.int .i64 0,.int .i64 0,.slice none 0 0,.int .u32 0,.int .u32 0] 35 (0,0))
 xn : wr.heap[bn]? = some (.cells #[.int .i64 N,.int .i64 k,va,.int .u32 1,.int .u32 fi] 35 (0,0))
 rs : Kd.R (Kd.int .i64) 3 wr w.heap.size (fun q=>sN.ok g b4 bn q ∧ some q ≠ va.ownBlock) vs sym
 rt : Kd.R (Kd.int .u64) 87 wr w.heap.size (fun q=>sN.ok g b4 bn q ∧ some q ≠ va.ownBlock) vt rows
 ra : Kd.R k42 42 wr w.heap.size (sN.ok g b4 bn) va arcs
section
variable {w wr w1 : World} {g b4 bn n c : Nat} {A : Option Addr} {vs vb vt va v1 : Value} {sym rows : List Int} {arcs l1 : List S42} {N k fi : Int}
set_option maxRecDepth 100000 in
theorem sN.L.away (h : sN.L w g b4 bn A n c vs vb vt va sym rows arcs N k fi wr) {q : Nat} (hq : ¬ sN.ok g b4 bn q) : some q ≠ va.ownBlock:=fun e=>hq (h.ra.1 q e.symm)
set_option maxRecDepth 100000 in
theorem sN.L.new (h : sN.L w g b4 bn A n c vs vb vt va sym rows arcs N k fi wr) (q : Nat) (hq : wr.heap.size ≤ q) : sN.ok g b4 bn q :=
 ⟨fun e=>by have:=blk_lt h.xg;omega,fun e=>by have:=blk_lt h.x4;omega,fun e=>by have:=blk_lt h.xn;omega⟩
set_option maxRecDepth 100000 in
/-- An arc behind the arcs. -/
theorem sN.L.push (h : sN.L w g b4 bn A n c vs vb vt va sym rows arcs N k fi wr) (hg : wr.grownBy w1 va.ownBlock) (hb : Below w.heap.size w w1) (hr : Kd.R k42 42 w1 w.heap.size (sN.ok g b4 bn) v1 l1) (hat : v1.ownBlock = va.ownBlock ∨ ∃ b,v1.ownBlock = some b ∧ wr.heap.size ≤ b) : sN.L w g b4 bn A n c vs vb vt v1 sym rows l1 N k fi (w1.setCell ⟨bn,2,none⟩ v1) :=
 ⟨hb.setCell h.gn _,h.gg,h.g4,h.gn,h.n1,h.n2,h.n3,blk_far (blk_grown h.xg hg (h.away (fun q=>q.1 rfl))) h.n2 _,blk_far (blk_grown h.x4 hg (h.away (fun q=>q.2.1 rfl))) h.n3 _,blk_set (blk_grown h.xn hg (h.away (fun q=>q.2.2 rfl))) 2 _,
  Kd.R_far (Kd.R_after h.rs hg hat) (fun _ hk=>hk.1.2.2) _,Kd.R_far (Kd.R_after h.rt hg hat) (fun _ hk=>hk.1.2.2) _,Kd.R_far hr (fun _ hk=>hk.2.2) _⟩
end
set_option maxHeartbeats 8000000 in
set_option maxRecDepth 100000 in
theorem spot_Net.calls (k : Nat) (a0 : Int) (A1 : Option Addr) (c1 : Nat) (l1 : List (S128)) (r1 : Int) (r2 : Int) (r3 : List (S42)) (r4 : Int) (r5 : Int) (r6 : Int) (w : World) (hr1 : Kd.C k128 w A1 l1.length l1) (hc1 : l1.length ≤ c1) (h : spot_Net.f k a0 l1 = some (r1,r2,r3,r4,r5,r6)) :
  Calls Try.prog 14 #[.int .i64 a0,.slice A1 l1.length c1] w fun e w'=>∃ v2_ : Value,e = .returned (.tuple #[.agg #[.int .i64 r1,.int .i64 r2,v2_,.int .u32 r4,.int .u32 r5],.int .i64 r6]) ∧ Kd.R k42 42 w' w.heap.size (fun _=>True) v2_ r3 ∧ Below w.heap.size w w':=by
 have hu1:=Try.underlying86
 have hu2:=Try.underlying89
 have hu4:=Try.underlying35
 have hbig : l1.length ≤ 9223372036854775807:=hr1.2.1
 have HR1:=Aside0.mk hr1
 have HC1:=Aside0.mk hc1
 obtain ⟨W1,hW1⟩ : ∃ W1,w.alloc (.cells #[.int .i64 0,.int .i64 0,.slice none 0 0,.int .u32 0,.int .u32 0] 35) = W1:=⟨_,rfl⟩
 have hB1 : Below w.heap.size w W1:=by rw [← hW1];exact below_alloc (Below.refl _ _) _
 have hx1 : W1.heap[w.heap.size]? = some (.cells #[.int .i64 0,.int .i64 0,.slice none 0 0,.int .u32 0,.int .u32 0] 35 (0,0)):=by rw [← hW1];exact heap_alloc_new w _
 unfold spot_Net.f at h
 obtain ⟨e,he,h⟩:=Option.bind_eq_some_iff.mp h
 have HE:=Aside0.mk (sentence_Check.calls k a0 A1 c1 l1 e W1 (Kd.C_below hr1 hB1) hc1 he)
 have B1:=Aside0.mk hB1
 have X1:=Aside0.mk hx1
 clear hr1 hc1 hB1 hx1 he
 by_cases ce : e ≠ 0
 ·rw [if_pos ce] at h
  obtain ⟨rfl,rfl,rfl,rfl,rfl,rfl⟩ : r1 = 0 ∧ r2 = 0 ∧ r3 = [] ∧ r4 = 0 ∧ r5 = 0 ∧ r6 = e:=by simpa [eq_comm] using h
  have et : (r6 != 0) = true:=bne_iff_ne.2 ce
  clear h ce
  go_enter Try.func14,Try.ntmps14
  go_wp2_with (go_at_call 36;refine HE.out.mono ?_;rintro e2 w2 ⟨rfl,hb2⟩;have B2:=Aside0.mk (below_step B1.out hb2);have X2:=Aside0.mk (blk_below X1.out hb2);have b0_:=(blk_cell X2.out 0).trans rfl;have b1_:=(blk_cell X2.out 1).trans rfl;have b2_:=(blk_cell X2.out 2).trans rfl;have b3_:=(blk_cell X2.out 3).trans rfl;have b4_:=(blk_cell X2.out 4).trans rfl;have z0_:=blk_frozen X2.out 0;have z1_:=blk_frozen (blk_set X2.out 0 (.int .i64 0)) 1;have z2_:=blk_frozen (blk_set (blk_set X2.out 0 (.int .i64 0)) 1 (.int .i64 0)) 2;have z3_:=blk_frozen (blk_set (blk_set (blk_set X2.out 0 (.int .i64 0)) 1 (.int .i64 0)) 2 (.slice none 0 0)) 3;have z4_:=blk_frozen (blk_set (blk_set (blk_set (blk_set X2.out 0 (.int .i64 0)) 1 (.int .i64 0)) 2 (.slice none 0 0)) 3 (.int .u32 0)) 4;clear hb2)
  exact bodyPost_ret (results_ct rfl _ _ w.heap.size 35 #[.int .i64 0,.int .i64 0,.slice none 0 0,.int .u32 0,.int .u32 0] (0,0) _ rfl (blk_set (blk_set (blk_set (blk_set (blk_set X2.out 0 (.int .i64 0)) 1 (.int .i64 0)) 2 (.slice none 0 0)) 3 (.int .u32 0)) 4 (.int .u32 0)) hu4 rfl rfl) rfl ⟨_,rfl,Kd.R_nil _ _ _ _ _,(((((B2.out.setCell (Nat.le_refl _) _).setCell (Nat.le_refl _) _).setCell (Nat.le_refl _) _).setCell (Nat.le_refl _) _).setCell (Nat.le_refl _) _)⟩
 rw [if_neg ce] at h
 have et : (e != 0) = false:=by simpa using ce
 clear ce
 obtain ⟨m,hm,h⟩:=Option.bind_eq_some_iff.mp h
 have HM:=Aside0.mk (fun (w' : World) (hb : Below w.heap.size w w')=>spot_count.calls k A1 c1 l1 7 m w' (Kd.C_below HR1.out hb) HC1.out hm)
 clear hm
 by_cases cm : m ≥ 7
 ·rw [if_pos cm] at h
  obtain ⟨rfl,rfl,rfl,rfl,rfl,rfl⟩ : r1 = 0 ∧ r2 = 0 ∧ r3 = [] ∧ r4 = 0 ∧ r5 = 0 ∧ r6 = 1:=by simpa [eq_comm] using h
  have mt : (7 ≤ m) = True:=eq_true cm
  clear h cm
  go_enter Try.func14,Try.ntmps14
  go_wp2_with (first
   | (go_at_call 36;refine HE.out.mono ?_;rintro e2 w2 ⟨rfl,hb2⟩;have B2:=Aside0.mk (below_step B1.out hb2);have X2:=Aside0.mk (blk_below X1.out hb2);clear hb2)
   | (go_at_call 37;refine (HM.out _ B2.out).mono ?_;rintro e3 w3 ⟨rfl,hb3⟩;have B3:=Aside0.mk (below_step B2.out hb3);have X3:=Aside0.mk (blk_below X2.out hb3);have b0_:=(blk_cell X3.out 0).trans rfl;have b1_:=(blk_cell X3.out 1).trans rfl;have b2_:=(blk_cell X3.out 2).trans rfl;have b3_:=(blk_cell X3.out 3).trans rfl;have b4_:=(blk_cell X3.out 4).trans rfl;have z0_:=blk_frozen X3.out 0;have z1_:=blk_frozen (blk_set X3.out 0 (.int .i64 0)) 1;have z2_:=blk_frozen (blk_set (blk_set X3.out 0 (.int .i64 0)) 1 (.int .i64 0)) 2;have z3_:=blk_frozen (blk_set (blk_set (blk_set X3.out 0 (.int .i64 0)) 1 (.int .i64 0)) 2 (.slice none 0 0)) 3;have z4_:=blk_frozen (blk_set (blk_set (blk_set (blk_set X3.out 0 (.int .i64 0)) 1 (.int .i64 0)) 2 (.slice none 0 0)) 3 (.int .u32 0)) 4;clear hb3))
  exact bodyPost_ret (results_ct rfl _ _ w.heap.size 35 #[.int .i64 0,.int .i64 0,.slice none 0 0,.int .u32 0,.int .u32 0] (0,0) _ rfl (blk_set (blk_set (blk_set (blk_set (blk_set X3.out 0 (.int .i64 0)) 1 (.int .i64 0)) 2 (.slice none 0 0)) 3 (.int .u32 0)) 4 (.int .u32 0)) hu4 rfl rfl) rfl ⟨_,rfl,Kd.R_nil _ _ _ _ _,(((((B3.out.setCell (Nat.le_refl _) _).setCell (Nat.le_refl _) _).setCell (Nat.le_refl _) _).setCell (Nat.le_refl _) _).setCell (Nat.le_refl _) _)⟩
 rw [if_neg cm] at h
 have mt : (7 ≤ m) = False:=eq_false cm
 clear cm
 obtain ⟨p,hp,h⟩:=Option.bind_eq_some_iff.mp h
 obtain ⟨f1,f2,f3,sym,beh⟩:=p
 dsimp only at h
 by_cases cl : sym.length ≤ 50 ∧ beh.length ≤ 50
 case neg=>rw [if_neg cl] at h;cases h
 rw [if_pos cl] at h
 obtain ⟨rfl,rfl,rfl,rfl,rfl,rfl⟩ : r1 = ((sym.length + 1 : Nat) : Int) ∧ r2 = a0 ∧ r3 = sN.all (f1 :: beh) sym (beh.length + 1) ∧ r4 = 1 ∧ r5 = sN.fin f2 f3 ∧ r6 = 0:=by simpa [eq_comm] using h
 have CS:=Aside0.mk cl.1
 have CB:=Aside0.mk cl.2
 obtain ⟨i0,hi0⟩ : ∃ i0,wrap64 ((l1.length : Int) - 1) = i0:=⟨_,rfl⟩
 rw [hi0] at hp
 have hi1 : IntKind.i64.wrap ((l1.length : Int) - 1) = i0:=by rw [i64_w];exact hi0
 have HP:=Aside0.mk hp
 clear h cl hp hi0
 go_enter Try.func14,Try.ntmps14
 go_wp2_with (first
  | (go_at_call 36;refine HE.out.mono ?_;rintro e2 w2 ⟨rfl,hb2⟩;have B2:=Aside0.mk (below_step B1.out hb2);have X2:=Aside0.mk (blk_below X1.out hb2);clear hb2)
  | (go_at_call 37;refine (HM.out _ B2.out).mono ?_;rintro e3 w3 ⟨rfl,hb3⟩;have B3:=Aside0.mk (below_step B2.out hb3);have X3:=Aside0.mk (blk_below X2.out hb3);clear hb3)
  | (go_at_call 38;(have SV4:=(show sR.Sv w w3.heap.size A1 l1.length c1 (.slice none 0 0) (.slice none 0 0) [] [] (w3.alloc (.cells #[.slice A1 l1.length c1,.slice none 0 0,.slice none 0 0] 86)) from ⟨below_alloc B3.out _,below_size B3.out,heap_alloc_new w3 _,Kd.R_nil _ _ _ _ _,Kd.R_nil _ _ _ _ _,fun k hk=>by cases hk⟩));(have X4:=blk_alloc X3.out (.cells #[.slice A1 l1.length c1,.slice none 0 0,.slice none 0 0] 86));(have AP4:=(show sR.Ap w3.heap.size (.slice none 0 0) (.slice none 0 0) w.heap.size from ⟨by have h_:=blk_lt X3.out;omega,fun e_=>(by cases e_),fun e_=>(by cases e_)⟩));refine (sR.read_calls (w0:=w) HR1.out HC1.out k i0 _ _ [] [] _ _ SV4 HP.out).mono ?_;(first|rintro e5 w5 ⟨rfl,vs,vb,hs5,ht5⟩|(intro e5 w5 he vs vb hs5 ht5;subst he));have K4:=Aside0.mk (ht5.keep X4 AP4);have S5:=Aside0.mk hs5;have GG:=Aside0.mk SV4.gp;clear hs5 ht5 SV4 X4 AP4))
 obtain ⟨As,cs,hvs⟩:=Kd.R_slice S5.out.rs
 obtain ⟨Ab,cb,hvb⟩:=Kd.R_slice S5.out.rb
 subst hvs;subst hvb
 generalize w3.heap.size = g at S5 K4 GG ⊢
 have bP:=below_alloc (Below.refl w5.heap.size w5) (.cells #[.int .u64 f1,.int .u64 f2,.bool f3] 89)
 have S6:=Aside0.mk (S5.out.kept bP)
 have K6:=Aside0.mk (show _ ∧ _ from ⟨blk_below K4.out.1 bP,K4.out.2⟩)
 have P6:=Aside0.mk (heap_alloc_new w5 (.cells #[.int .u64 f1,.int .u64 f2,.bool f3] 89))
 have AP:=Aside0.mk (S5.out.new (Nat.le_refl w5.heap.size))
 have NP:=Aside0.mk (show w5.heap.size ≠ w.heap.size from by have h_:=blk_lt K4.out.1;omega)
 generalize w5.alloc (.cells #[.int .u64 f1,.int .u64 f2,.bool f3] 89) = w6 at S6 K6 P6 ⊢
 generalize w5.heap.size = bp at P6 AP NP ⊢
 clear bP S5 K4
 have q1:=(blk_cell S6.out.b 1).trans rfl
 have q2:=(blk_cell P6.out 1).trans rfl
 obtain ⟨fi0,hfi0⟩ : ∃ fi0,IntKind.u32.wrap (IntKind.u32.wrap f2 * 2) = fi0:=⟨_,rfl⟩
 have hlen1 : IntKind.i64.wrap ((sym.length : Int) + 1) = ((sym.length + 1 : Nat) : Int):=by have:=CS.out;rw [i64_w,wrap64];omega
 refine start_ (n:=14) (S:=(fun w'=>w'.cell? ⟨g,1,none⟩ = some (.slice As sym.length cs) ∧ w'.cell? ⟨bp,1,none⟩ = some (.int .u64 f2))) (ds:=[]) #[false,false,false,false,false,false,false,false,false,false,false,false,false,false] (by kernel_rfl) rfl rfl (⟨q1,q2⟩) (fun hHeld=>?_)
 refine take_ (i:=0) (N:=some 33) (v:=?_) (a':=?_) #[true,false,false,false,false,false,false,false,false,false,false,false,false,false] rfl rfl (by kernel_rfl) (fun _ _ _ h_=>h_) (Or.inl ⟨by rfl,?_⟩) hHeld ?_ ?_
 rotate_left
 ·intro w_ hSw
  (obtain ⟨hz1,hz2⟩:=hSw)
  go_simp
  first|done|with_reducible rfl
 rotate_left
 ·simp only [putAll,Act.put,List.setIfInBounds_toArray,List.set_cons_zero,List.set_cons_succ]
  rfl
 refine take_ (i:=1) (N:=some 34) (v:=?_) (a':=?_) #[true,true,false,false,false,false,false,false,false,false,false,false,false,false] rfl rfl (by kernel_rfl) (fun _ _ _ h_=>h_) (Or.inl ⟨by rfl,?_⟩) hHeld ?_ ?_
 rotate_left
 ·intro w_ hSw
  (obtain ⟨hz1,hz2⟩:=hSw)
  go_simp
  first|done|with_reducible rfl
 rotate_left
 ·simp only [putAll,Act.put,List.setIfInBounds_toArray,List.set_cons_zero,List.set_cons_succ]
  rfl
 refine take_ (i:=2) (N:=some 35) (v:=?_) (a':=?_) #[true,true,true,false,false,false,false,false,false,false,false,false,false,false] rfl rfl (by kernel_rfl) (fun _ _ _ h_=>h_) (Or.inl ⟨by rfl,?_⟩) hHeld ?_ ?_
 rotate_left
 ·intro w_ hSw
  (obtain ⟨hz1,hz2⟩:=hSw)
  go_simp
  first|done|with_reducible rfl
 rotate_left
 ·simp only [putAll,Act.put,List.setIfInBounds_toArray,List.set_cons_zero,List.set_cons_succ]
  rfl
 refine take_ (i:=3) (N:=some 36) (v:=?_) (a':=?_) #[true,true,true,true,false,false,false,false,false,false,false,false,false,false] rfl rfl (by kernel_rfl) (fun _ _ _ h_=>h_) (Or.inl ⟨by rfl,?_⟩) hHeld ?_ ?_
 rotate_left
 ·intro w_ hSw
  (obtain ⟨hz1,hz2⟩:=hSw)
  go_simp
  first|done|with_reducible rfl
 rotate_left
 ·simp only [putAll,Act.put,List.setIfInBounds_toArray,List.set_cons_zero,List.set_cons_succ]
  rfl
 refine take_ (i:=4) (N:=some 37) (v:=?_) (a':=?_) #[true,true,true,true,true,false,false,false,false,false,false,false,false,false] rfl rfl (by kernel_rfl) (fun _ _ _ h_=>h_) (Or.inl ⟨by rfl,?_⟩) hHeld ?_ ?_
 rotate_left
 ·intro w_ hSw
  (obtain ⟨hz1,hz2⟩:=hSw)
  go_simp
  first|done|with_reducible rfl
 rotate_left
 ·simp only [putAll,Act.put,List.setIfInBounds_toArray,List.set_cons_zero,List.set_cons_succ]
  rfl
 refine take_ (i:=5) (N:=some 38) (v:=?_) (a':=?_) #[true,true,true,true,true,true,false,false,false,false,false,false,false,false] rfl rfl (by kernel_rfl) (fun _ _ _ h_=>h_) (Or.inl ⟨by rfl,?_⟩) hHeld ?_ ?_
 rotate_left
 ·intro w_ hSw
  (obtain ⟨hz1,hz2⟩:=hSw)
  go_simp
  first|done|with_reducible rfl
 rotate_left
 ·simp only [putAll,Act.put,List.setIfInBounds_toArray,List.set_cons_zero,List.set_cons_succ]
  rfl
 refine take_ (i:=6) (N:=some 39) (v:=?_) (a':=?_) #[true,true,true,true,true,true,true,false,false,false,false,false,false,false] rfl rfl (by kernel_rfl) (fun _ _ _ h_=>h_) (Or.inl ⟨by rfl,?_⟩) hHeld ?_ ?_
 rotate_left
 ·intro w_ hSw
  (obtain ⟨hz1,hz2⟩:=hSw)
  go_simp
  first|done|with_reducible rfl
 rotate_left
 ·simp only [putAll,Act.put,List.setIfInBounds_toArray,List.set_cons_zero,List.set_cons_succ]
  rfl
 refine take_ (i:=7) (N:=some 40) (v:=?_) (a':=?_) #[true,true,true,true,true,true,true,true,false,false,false,false,false,false] rfl rfl (by kernel_rfl) (fun _ _ _ h_=>h_) (Or.inl ⟨by rfl,?_⟩) hHeld ?_ ?_
 rotate_left
 ·intro w_ hSw
  (obtain ⟨hz1,hz2⟩:=hSw)
  go_simp
  first|done|with_reducible rfl
 rotate_left
 ·simp only [putAll,Act.put,List.setIfInBounds_toArray,List.set_cons_zero,List.set_cons_succ]
  rfl
 refine take_ (i:=8) (N:=some 41) (v:=?_) (a':=?_) #[true,true,true,true,true,true,true,true,true,false,false,false,false,false] rfl rfl (by kernel_rfl) (fun _ _ _ h_=>h_) (Or.inl ⟨by rfl,?_⟩) hHeld ?_ ?_
 rotate_left
 ·intro w_ hSw
  (obtain ⟨hz1,hz2⟩:=hSw)
  go_simp
  first|done|with_reducible rfl
 rotate_left
 ·simp only [putAll,Act.put,List.setIfInBounds_toArray,List.set_cons_zero,List.set_cons_succ]
  rfl
 refine take_ (i:=9) (N:=some 42) (v:=?_) (a':=?_) #[true,true,true,true,true,true,true,true,true,true,false,false,false,false] rfl rfl (by kernel_rfl) (fun _ _ _ h_=>h_) (Or.inl ⟨by rfl,?_⟩) hHeld ?_ ?_
 rotate_left
 ·intro w_ hSw
  (obtain ⟨hz1,hz2⟩:=hSw)
  go_simp
  first|done|with_reducible rfl
 rotate_left
 ·simp only [putAll,Act.put,List.setIfInBounds_toArray,List.set_cons_zero,List.set_cons_succ]
  rfl
 refine take_ (i:=10) (N:=some 43) (v:=?_) (a':=?_) #[true,true,true,true,true,true,true,true,true,true,true,false,false,false] rfl rfl (by kernel_rfl) (fun _ _ _ h_=>h_) (Or.inl ⟨by rfl,?_⟩) hHeld ?_ ?_
 rotate_left
 ·intro w_ hSw
  (obtain ⟨hz1,hz2⟩:=hSw)
  go_simp
  first|done|with_reducible rfl
 rotate_left
 ·simp only [putAll,Act.put,List.setIfInBounds_toArray,List.set_cons_zero,List.set_cons_succ]
  rfl
 refine take_ (i:=11) (N:=some 44) (v:=?_) (a':=?_) #[true,true,true,true,true,true,true,true,true,true,true,true,false,false] rfl rfl (by kernel_rfl) (fun _ _ _ h_=>h_) (Or.inl ⟨by rfl,?_⟩) hHeld ?_ ?_
 rotate_left
 ·intro w_ hSw
  (obtain ⟨hz1,hz2⟩:=hSw)
  go_simp
  first|done|with_reducible rfl
 rotate_left
 ·simp only [putAll,Act.put,List.setIfInBounds_toArray,List.set_cons_zero,List.set_cons_succ]
  rfl
 refine one_ (i:=12) (N:=some 9) #[true,true,true,true,true,true,true,true,true,true,true,true,true,false] rfl rfl (by kernel_rfl) (by decide) (fun K_ hK_=>?_)
 go_simp
 have bN:=below_drew (below_alloc (Below.refl w6.heap.size w6) (.cells #[.int .i64 0,.int .i64 0,.slice none 0 0,.int .u32 0,.int .u32 0] 35))
 have SA:=S6.out.kept bN
 have KA:=And.intro (blk_below K6.out.1 bN) K6.out.2
 have PA:=blk_below P6.out bN
 have NA : (w6.alloc (.cells #[.int .i64 0,.int .i64 0,.slice none 0 0,.int .u32 0,.int .u32 0] 35)).drew.heap[w6.heap.size]? = some (.cells #[.int .i64 0,.int .i64 0,.slice none 0 0,.int .u32 0,.int .u32 0] 35 (0,0)):=heap_alloc_new w6 _
 have AN:=S6.out.new (Nat.le_refl w6.heap.size)
 have NN4 : w6.heap.size ≠ w.heap.size:=by have h_:=blk_lt K6.out.1;omega
 have NNP : w6.heap.size ≠ bp:=by have h_:=blk_lt P6.out;omega
 have GN : w.heap.size ≤ w6.heap.size:=below_size S6.out.below
 refine hK_.out _ _ (⟨(blk_cell SA.b 1).trans rfl,(blk_cell PA 1).trans rfl⟩) (fun hHeld=>?_)
 clear hK_ K_
 try (refine norm_ (by simp only [putAll,Act.put,List.setIfInBounds_toArray,List.set_cons_zero,List.set_cons_succ];rfl) ?_)
 generalize (w6.alloc (.cells #[.int .i64 0,.int .i64 0,.slice none 0 0,.int .u32 0,.int .u32 0] 35)).drew = wA at SA KA PA NA hHeld ⊢
 generalize w6.heap.size = bn at NA AN NN4 NNP GN ⊢
 clear bN q1 q2 hHeld
 refine one_ (i:=13) (N:=none) #[true,true,true,true,true,true,true,true,true,true,true,true,true,true] rfl rfl (by kernel_rfl) (by decide) (fun K_ hK_=>?_)
 have b0_:=(blk_cell NA 0).trans rfl
 have b1_:=(blk_cell NA 1).trans rfl
 have b2_:=(blk_cell NA 2).trans rfl
 have b3_:=(blk_cell NA 3).trans rfl
 have b4_:=(blk_cell NA 4).trans rfl
 have z0_:=blk_frozen NA 0
 have z1_:=blk_frozen (blk_set NA 0 (.int .i64 ((sym.length : Int) + 1))) 1
 have z2_:=blk_frozen (blk_set (blk_set NA 0 (.int .i64 ((sym.length : Int) + 1))) 1 (.int .i64 r2)) 2
 have z3_:=blk_frozen (blk_set (blk_set (blk_set NA 0 (.int .i64 ((sym.length : Int) + 1))) 1 (.int .i64 r2)) 2 (.slice none 0 0)) 3
 have z4_:=blk_frozen (blk_set (blk_set (blk_set (blk_set NA 0 (.int .i64 ((sym.length : Int) + 1))) 1 (.int .i64 r2)) 2 (.slice none 0 0)) 3 (.int .u32 1)) 4
 go_simp
 have SB:=((((SA.far GN AN (j:=0) (.int .i64 ((sym.length : Int) + 1))).far GN AN (j:=1) (.int .i64 r2)).far GN AN (j:=2) (.slice none 0 0)).far GN AN (j:=3) (.int .u32 1)).far GN AN (j:=4) (.int .u32 fi0)
 have KB : (((((wA.setCell ⟨bn,0,none⟩ (.int .i64 ((sym.length : Int) + 1))).setCell ⟨bn,1,none⟩ (.int .i64 r2)).setCell ⟨bn,2,none⟩ (.slice none 0 0)).setCell ⟨bn,3,none⟩ (.int .u32 1)).setCell ⟨bn,4,none⟩ (.int .u32 fi0)).heap[w.heap.size]? = some (.cells #[.int .i64 0,.int .i64 0,.slice none 0 0,.int .u32 0,.int .u32 0] 35 (0,0)):=(blk_far (blk_far (blk_far (blk_far (blk_far KA.1 (Ne.symm NN4) _) (Ne.symm NN4) _) (Ne.symm NN4) _) (Ne.symm NN4) _) (Ne.symm NN4) _)
 have PB : (((((wA.setCell ⟨bn,0,none⟩ (.int .i64 ((sym.length : Int) + 1))).setCell ⟨bn,1,none⟩ (.int .i64 r2)).setCell ⟨bn,2,none⟩ (.slice none 0 0)).setCell ⟨bn,3,none⟩ (.int .u32 1)).setCell ⟨bn,4,none⟩ (.int .u32 fi0)).heap[bp]? = some (.cells #[.int .u64 f1,.int .u64 f2,.bool f3] 89 (0,0)):=(blk_far (blk_far (blk_far (blk_far (blk_far PA (Ne.symm NNP) _) (Ne.symm NNP) _) (Ne.symm NNP) _) (Ne.symm NNP) _) (Ne.symm NNP) _)
 have NB:=(blk_set (blk_set (blk_set (blk_set (blk_set NA 0 (.int .i64 ((sym.length : Int) + 1))) 1 (.int .i64 r2)) 2 (.slice none 0 0)) 3 (.int .u32 1)) 4 (.int .u32 fi0))
 refine hK_.out _ _ (⟨(blk_cell SB.b 1).trans rfl,(blk_cell PB 1).trans rfl⟩) (fun hHeld=>?_)
 clear hK_ K_
 try (refine norm_ (by simp only [putAll,Act.put,List.setIfInBounds_toArray,List.set_cons_zero,List.set_cons_succ];rfl) ?_)
 have K4A:=KA.2
 generalize (((((wA.setCell ⟨bn,0,none⟩ (.int .i64 ((sym.length : Int) + 1))).setCell ⟨bn,1,none⟩ (.int .i64 r2)).setCell ⟨bn,2,none⟩ (.slice none 0 0)).setCell ⟨bn,3,none⟩ (.int .u32 1)).setCell ⟨bn,4,none⟩ (.int .u32 fi0)) = wB at SB KB PB NB hHeld ⊢
 clear hHeld b0_ z0_ b1_ z1_ b2_ z2_ b3_ z3_ b4_ z4_ SA KA PA NA
 refine done_ (by kernel_rfl) ?_
 have HFI:=Aside0.mk hfi0
 clear hfi0
 have p2:=(blk_cell PB 2).trans rfl
 have SB:=Aside0.mk SB
 have KB:=Aside0.mk KB
 have PB:=Aside0.mk PB
 have NB:=Aside0.mk NB
 have AN:=Aside0.mk AN
 have K4A:=Aside0.mk K4A
 have NN4:=Aside0.mk NN4
 have NNP:=Aside0.mk NNP
 have GN:=Aside0.mk GN
 cases f3
 ·have EF:=Aside0.mk (show sN.fin f2 false = fi0 from by unfold sN.fin;rw [if_neg (by decide)];exact HFI.out)
  go_wp2
  obtain ⟨wC,hC⟩ : ∃ wC,wB = wC:=⟨_,rfl⟩
  rw [hC] at SB KB PB NB p2 ⊢
  clear hC p2
  have SC:=SB
  have KC:=KB
  have PC:=PB
  have NC:=NB
  clear SB KB PB NB
  have q1:=(blk_cell PC.out 0).trans rfl
  have q2:=(blk_cell SC.out.b 2).trans rfl
  refine start_ (n:=10) (S:=(fun w'=>w'.cell? ⟨bp,0,none⟩ = some (.int .u64 f1) ∧ w'.cell? ⟨g,2,none⟩ = some (.slice Ab beh.length cb))) (ds:=[]) #[false,false,false,false,false,false,false,false,false,false] (by kernel_rfl) rfl rfl (⟨q1,q2⟩) (fun hHeld=>?_)
  refine take_ (i:=0) (N:=some 51) (v:=?_) (a':=?_) #[true,false,false,false,false,false,false,false,false,false] rfl rfl (by kernel_rfl) (fun _ _ _ h_=>h_) (Or.inl ⟨by rfl,?_⟩) hHeld ?_ ?_
  rotate_left
  ·intro w_ hSw
   (obtain ⟨hz1,hz2⟩:=hSw)
   go_simp
   first|done|with_reducible rfl
  rotate_left
  ·simp only [putAll,Act.put,List.setIfInBounds_toArray,List.set_cons_zero,List.set_cons_succ]
   rfl
  refine take_ (i:=1) (N:=some 52) (v:=?_) (a':=?_) #[true,true,false,false,false,false,false,false,false,false] rfl rfl (by kernel_rfl) (fun _ _ _ h_=>h_) (Or.inl ⟨by rfl,?_⟩) hHeld ?_ ?_
  rotate_left
  ·intro w_ hSw
   (obtain ⟨hz1,hz2⟩:=hSw)
   go_simp
   first|done|with_reducible rfl
  rotate_left
  ·simp only [putAll,Act.put,List.setIfInBounds_toArray,List.set_cons_zero,List.set_cons_succ]
   rfl
  refine take_ (i:=3) (N:=some 54) (v:=?_) (a':=?_) #[true,true,false,true,false,false,false,false,false,false] rfl rfl (by kernel_rfl) (fun _ _ _ h_=>h_) (Or.inl ⟨by rfl,?_⟩) hHeld ?_ ?_
  rotate_left
  ·intro w_ hSw
   (obtain ⟨hz1,hz2⟩:=hSw)
   go_simp
   first|done|with_reducible rfl
  rotate_left
  ·simp only [putAll,Act.put,List.setIfInBounds_toArray,List.set_cons_zero,List.set_cons_succ]
   rfl
  refine take_ (i:=4) (N:=some 55) (v:=?_) (a':=?_) #[true,true,false,true,true,false,false,false,false,false] rfl rfl (by kernel_rfl) (fun _ _ _ h_=>h_) (Or.inl ⟨by rfl,?_⟩) hHeld ?_ ?_
  rotate_left
  ·intro w_ hSw
   (obtain ⟨hz1,hz2⟩:=hSw)
   go_simp
   first|done|with_reducible rfl
  rotate_left
  ·simp only [putAll,Act.put,List.setIfInBounds_toArray,List.set_cons_zero,List.set_cons_succ]
   rfl
  refine take_ (i:=5) (N:=some 56) (v:=?_) (a':=?_) #[true,true,false,true,true,true,false,false,false,false] rfl rfl (by kernel_rfl) (fun _ _ _ h_=>h_) (Or.inl ⟨by rfl,?_⟩) hHeld ?_ ?_
  rotate_left
  ·intro w_ hSw
   (obtain ⟨hz1,hz2⟩:=hSw)
   go_simp
   first|done|with_reducible rfl
  rotate_left
  ·simp only [putAll,Act.put,List.setIfInBounds_toArray,List.set_cons_zero,List.set_cons_succ]
   rfl
  refine take_ (i:=6) (N:=some 57) (v:=?_) (a':=?_) #[true,true,false,true,true,true,true,false,false,false] rfl rfl (by kernel_rfl) (fun _ _ _ h_=>h_) (Or.inl ⟨by rfl,?_⟩) hHeld ?_ ?_
  rotate_left
  ·intro w_ hSw
   (obtain ⟨hz1,hz2⟩:=hSw)
   go_simp
   first|done|with_reducible rfl
  rotate_left
  ·simp only [putAll,Act.put,List.setIfInBounds_toArray,List.set_cons_zero,List.set_cons_succ]
   rfl
  refine take_ (i:=9) (N:=some 60) (v:=?_) (a':=?_) #[true,true,false,true,true,true,true,false,false,true] rfl rfl (by kernel_rfl) (fun _ _ _ h_=>h_) (Or.inl ⟨by rfl,?_⟩) hHeld ?_ ?_
  rotate_left
  ·intro w_ hSw
   (obtain ⟨hz1,hz2⟩:=hSw)
   go_simp
   first|done|with_reducible rfl
  rotate_left
  ·simp only [putAll,Act.put,List.setIfInBounds_toArray,List.set_cons_zero,List.set_cons_succ]
   rfl
  refine one_ (i:=2) (N:=some 53) #[true,true,true,true,true,true,true,false,false,true] rfl rfl (by kernel_rfl) (by decide) (fun K_ hK_=>?_)
  go_simp
  have bR:=below_drew (below_alloc (Below.refl wC.heap.size wC) (.cells #[.int .u64 f1] 87))
  have SD:=SC.out.kept bR
  have PD:=blk_below PC.out bR
  have KD:=blk_below KC.out bR
  have ND:=blk_below NC.out bR
  have RD:=Kd.R_drew (sN.one_R wC f1 (base:=w.heap.size) rfl (below_size SC.out.below))
  have FR:=SC.out.new (Nat.le_refl wC.heap.size)
  have FRP : wC.heap.size ≠ bp:=by have h_:=blk_lt PC.out;omega
  have F4 : wC.heap.size ≠ w.heap.size:=by have h_:=blk_lt KC.out;omega
  have FN : wC.heap.size ≠ bn:=by have h_:=blk_lt NC.out;omega
  refine hK_.out _ _ (⟨(blk_cell PD 0).trans rfl,(blk_cell SD.b 2).trans rfl⟩) (fun hHeld=>?_)
  clear hK_ K_
  try (refine norm_ (by simp only [putAll,Act.put,List.setIfInBounds_toArray,List.set_cons_zero,List.set_cons_succ];rfl) ?_)
  generalize (wC.alloc (.cells #[.int .u64 f1] 87)).drew = wD at SD PD KD ND RD hHeld ⊢
  generalize wC.heap.size = br at RD FR F4 FN FRP ⊢
  refine one_ (i:=7) (N:=some 58) #[true,true,true,true,true,true,true,true,false,true] rfl rfl (by kernel_rfl) (by decide) (fun K_ hK_=>?_)
  refine Kd.R_append_rows_step (Kd.int .u64) (Rr:=fun (x_ : Int) (cs_ : List Value)=>cs_ = [Value.int .u64 x_]) (w0:=w) w.heap.size (by rfl) (.tmp 53) (.tmp 57) 84 87 (.int .u64 0) 8 rfl Try.underlying84 sR.infoU rfl (by decide) (by decide) (.slice (some ⟨br,0,none⟩) 1 1) [f1] beh Ab beh.length cb (fun q=>sN.ok g w.heap.size bn q ∧ q ≠ bp) (fun _=>False) rfl rfl ?xh (Kd.R_reads' SD.rb).2.2 ?xm ?xo ?xf SD.below (below_size SD.below) ?xl ?_
  case xh=>exact Kd.R_mono RD (fun q hq=>(by subst hq;exact ⟨⟨FR.1,F4,FN⟩,FRP⟩))
  case xm=>intro x_ cs_ e_;exact e_
  case xo=>exact fun q hq=>hq.elim
  case xf=>exact fun q hq=>⟨⟨by have h_:=blk_lt SD.b;omega,by have h_:=blk_lt KD;omega,by have h_:=blk_lt ND;omega⟩,by have h_:=blk_lt PD;omega⟩
  case xl=>(have h_:=CB.out;simp only [List.length_cons,List.length_nil];omega)
  intro vt wE hr1 hb1 hg1 hat1
  have hq1:=blk_grown PD hg1 (fun e_=>FRP (Option.some.inj e_).symm)
  have hrS:=(show Kd.R (Kd.int .i64) 3 wE w.heap.size (fun q=>sN.ok g w.heap.size bn q ∧ some q ≠ (Value.slice none 0 0).ownBlock) (.slice As sym.length cs) sym from Kd.R_reok rfl (Kd.R_grown2 SD.rs rfl hg1 (fun q hq e_=>FR.2.1 (by rw [← e_,← hq];rfl))) (fun q hq=>⟨⟨SD.rs.1 q hq,fun e_=>K4A.out.2.1 (by rw [hq,e_]),fun e_=>AN.out.2.1 (by rw [hq,e_])⟩,fun e_=>by cases e_⟩))
  have LL:=Aside0.mk (show sN.L w g w.heap.size bn A1 l1.length c1 (.slice As sym.length cs) (.slice Ab beh.length cb) vt (.slice none 0 0) sym (f1 :: beh) [] ((sym.length : Int) + 1) r2 fi0 wE from ⟨hb1,SD.gp,Nat.le_refl _,GN.out,K4A.out.1.symm,AN.out.1.symm,NN4.out.symm,blk_grown SD.b hg1 (fun e_=>FR.1 (Option.some.inj e_).symm),blk_grown KD hg1 (fun e_=>F4 (Option.some.inj e_).symm),blk_grown ND hg1 (fun e_=>FN (Option.some.inj e_).symm),hrS,Kd.R_mono hr1 (fun q hq=>⟨hq.1,fun e_=>by cases e_⟩),Kd.R_nil _ _ _ _ _⟩)
  clear hrS hr1 hb1 hg1 hat1 SD PD KD ND RD FR F4 FN FRP
  obtain ⟨At,ct,hvt⟩:=Kd.R_slice LL.out.rt
  subst hvt
  refine hK_.out _ _ (⟨(blk_cell hq1 0).trans rfl,(blk_cell LL.out.xg 2).trans rfl⟩) (fun hHeld=>?_)
  clear hK_ K_
  refine norm_ (show _ = Act.put _ (some 58) _ from rfl) ?_
  refine norm_ (by simp only [putAll,Act.put,List.setIfInBounds_toArray,List.set_cons_zero,List.set_cons_succ];rfl) ?_
  refine take_ (i:=8) (N:=some 59) (v:=?_) (a':=?_) #[true,true,true,true,true,true,true,true,true,true] rfl rfl (by kernel_rfl) (fun _ _ _ h_=>h_) (Or.inl ⟨by rfl,?_⟩) hHeld ?_ ?_
  rotate_left
  ·intro w_ hSw
   (obtain ⟨hz1,hz2⟩:=hSw)
   go_simp
   first|done|with_reducible rfl
  rotate_left
  ·simp only [putAll,Act.put,List.setIfInBounds_toArray,List.set_cons_zero,List.set_cons_succ]
   rfl
  refine done_ (by kernel_rfl) ?_
  clear hHeld hq1 q1 q2 SC PC KC NC AN K4A NN4 NNP GN P6 AP NP
  have hbl : beh.length ≤ 50:=CB.out
  have hsl : sym.length ≤ 50:=CS.out
  go_wp2
  go_loopg [60] (beh.length + 1) (fun gg s60 wr=>∃ (i : Nat) (va : Value),s60 = .int .i64 (i : Int) ∧ i ≤ beh.length + 1 ∧ beh.length + 1 - i ≤ gg ∧ Aside0 (sN.L w g w.heap.size bn A1 l1.length c1 (.slice As sym.length cs) (.slice Ab beh.length cb) (.slice At (f1 :: beh).length ct) va sym (f1 :: beh) (sN.all (f1 :: beh) sym i) ((sym.length : Int) + 1) r2 fi0 wr))
  case atStart=>exact ⟨0,_,rfl,by omega,by omega,LL⟩
  case round =>
   obtain ⟨i,va,rfl,i1,i2,HL⟩:=hrel
   by_cases ci : i < beh.length + 1
   ·have cit : ((i : Int) < (beh.length : Int) + 1) = True:=eq_true (by omega)
    have cit2 : (i < beh.length + 1) = True:=eq_true ci
    obtain ⟨ad,hAt,y⟩:=Kd.at_int (Kd.R_reads' HL.out.rt).2.2 (i : Int) (by omega) (by rw [List.length_cons];omega)
    rw [Int.toNat_natCast,show rd (f1 :: beh) (i : Int) = (f1 :: beh).getD i 0 by simp [rd]] at y
    obtain ⟨tw,htw⟩ : ∃ tw,(f1 :: beh).getD i 0 = tw:=⟨_,rfl⟩
    rw [htw] at y
    have hall:=sN.all_len (f1 :: beh) sym i
    have hmul : i * sym.length ≤ 51 * 50:=Nat.mul_le_mul (by omega) (by omega)
    have HLEN:=Aside0.mk (show (sN.all (f1 :: beh) sym i).length ≤ 2550 from by omega)
    have HTW:=Aside0.mk htw
    clear hall hmul htw
    have g1:=(blk_cell HL.out.xg 1).trans rfl
    have HL0:=Aside0.mk (show sN.L w g w.heap.size bn A1 l1.length c1 (.slice As sym.length cs) (.slice Ab beh.length cb) (.slice At (f1 :: beh).length ct) va sym (f1 :: beh) (sN.all (f1 :: beh) sym i ++ sN.row sym i tw 0) ((sym.length : Int) + 1) r2 fi0 wr from by rw [show sN.row sym i tw 0 = [] from rfl,List.append_nil];exact HL.out)
    have einc : IntKind.i64.wrap ((i : Int) + 1) = (i : Int) + 1:=by rw [i64_w,wrap64];omega
    subst hAt
    go_wp2
    go_loopg [70] sym.length (fun g2 s70 wr=>∃ (j : Nat) (va : Value),s70 = .int .i64 (j : Int) ∧ j ≤ sym.length ∧ sym.length - j ≤ g2 ∧ Aside0 (sN.L w g w.heap.size bn A1 l1.length c1 (.slice As sym.length cs) (.slice Ab beh.length cb) (.slice (some ad) (f1 :: beh).length ct) va sym (f1 :: beh) (sN.all (f1 :: beh) sym i ++ sN.row sym i tw j) ((sym.length : Int) + 1) r2 fi0 wr))
    case atStart=>exact ⟨0,_,rfl,by omega,by omega,HL0⟩
    case round =>
     obtain ⟨j,va,rfl,j1,j2,HM⟩:=hrel
     by_cases cj : j < sym.length
     ·have cjt : ((j : Int) < (sym.length : Int)) = True:=eq_true (by omega)
      have cjt2 : (j < sym.length) = True:=eq_true cj
      obtain ⟨ay,hAs,ys⟩:=Kd.at_int (Kd.R_reads' HM.out.rs).2.2 (j : Int) (by omega) (by omega)
      rw [Int.toNat_natCast,show rd sym (j : Int) = sym.getD j 0 by simp [rd]] at ys
      subst hAs
      obtain ⟨sy,hsy⟩ : ∃ sy,sym.getD j 0 = sy:=⟨_,rfl⟩
      have ejnc : IntKind.i64.wrap ((j : Int) + 1) = (j : Int) + 1:=by rw [i64_w,wrap64];omega
      have hrow:=sN.row_succ sym i tw j
      rw [hsy] at ys hrow
      have HRL:=Aside0.mk (sN.row_len sym i tw j)
      clear hsy
      cases hb : sR.bit tw j with
      | false =>
       have hbt:=hb
       unfold sR.bit at hbt
       have hbt2:=hbt
       rw [show min j 64 = j by omega] at hbt2
       rw [hb,if_neg (by decide),List.append_nil] at hrow
       have HM2:=Aside0.mk (show sN.L w g w.heap.size bn A1 l1.length c1 (.slice (some ay) sym.length cs) (.slice Ab beh.length cb) (.slice (some ad) (f1 :: beh).length ct) va sym (f1 :: beh) (sN.all (f1 :: beh) sym i ++ sN.row sym i tw (j + 1)) ((sym.length : Int) + 1) r2 fi0 wr from by rw [hrow];exact HM.out)
       clear hrow
       go_wp2
       go_roundg (sym.length - (j + 1))
       case measure=>omega
       case rel=>exact ⟨j + 1,va,rfl,by omega,by omega,HM2⟩
      | true =>
       have hbt:=hb
       unfold sR.bit at hbt
       have hbt2:=hbt
       rw [show min j 64 = j by omega] at hbt2
       rw [hb,if_pos rfl] at hrow
       have HROW:=Aside0.mk hrow
       clear hrow
       obtain ⟨Aa,ca,hva⟩:=Kd.R_slice HM.out.ra
       subst hva
       have n2:=(blk_cell HM.out.xn 2).trans rfl
       obtain ⟨arcs,harcs⟩ : ∃ arcs,sN.all (f1 :: beh) sym i ++ sN.row sym i tw j = arcs:=⟨_,rfl⟩
       have HAL:=Aside0.mk (show arcs.length ≤ 2600 from by have h1_:=HLEN.out;have h2_:=HRL.out;rw [← harcs,List.length_append];omega)
       have HAR:=Aside0.mk harcs
       rw [harcs] at HM n2
       clear harcs
       go_wp2_with ((with_reducible refine gate_builtin (b:=.append) (xs:=#[.tmp 81,.tmp 87]) rfl ?_);at_builtin;go_loud (refine Kd.R_append k42 (w0:=w) w.heap.size rfl (.tmp 81) (.tmp 87) 32 42 (.agg #[.int .i64 0,.int .i64 0,.int .i64 0]) 24 rfl Try.underlying32 sN.info42 rfl (by decide) (by omega) (.slice Aa arcs.length ca) arcs ⟨(i : Int),sy,(j : Int) + 1⟩ _ (sN.ok g w.heap.size bn) (fun _=>False) rfl rfl ?xm ?xo ?xf HM.out.ra HM.out.below (below_size HM.out.below) ?xl ?_);(case xm=>exact k42_mkM _ _ _ ⟨(i : Int),sy,(j : Int) + 1⟩);(case xo=>exact fun k hk=>hk.elim);(case xf=>exact HM.out.new);(case xl=>(have h_:=HAL.out;omega));intro v1 w1' hr1 hb1 hg1 hat1;(obtain ⟨B1,d1',ev⟩:=Kd.R_slice hr1);(have HM3:=Aside0.mk (HM.out.push hg1 hb1 hr1 hat1));have hq3:=blk_grown HM.out.xn hg1 (HM.out.away (fun q=>q.2.2 rfl));generalize (arcs ++ [(⟨(i : Int),sy,(j : Int) + 1⟩ : S42)]).length = ln at ev;subst ev;have hq4:=blk_frozen hq3 2;have hq5:=(blk_cell hq3 2).trans rfl;clear hr1 hb1 hg1 hat1 hq3 n2)
       rw [← HAR.out,List.append_assoc,← HROW.out] at HM3
       go_roundg (sym.length - (j + 1))
       case measure=>omega
       case rel=>exact ⟨j + 1,_,rfl,by omega,by omega,HM3⟩
     ·obtain rfl : j = sym.length:=by omega
      have cjt : ((sym.length : Int) < (sym.length : Int)) = False:=eq_false (by omega)
      have hsucc:=sN.all_succ (f1 :: beh) sym i
      rw [HTW.out] at hsucc
      have HM2:=HM
      rw [← hsucc] at HM2
      clear hsucc HM HL0 HL y g1
      go_wp2
      go_roundg (beh.length + 1 - (i + 1))
      case measure=>omega
      case rel=>exact ⟨i + 1,_,rfl,by omega,by omega,HM2⟩
   ·obtain rfl : i = beh.length + 1:=by omega
    have cit : (((beh.length + 1 : Nat) : Int) < (beh.length : Int) + 1) = False:=eq_false (by omega)
    obtain ⟨Aa,ca,hva⟩:=Kd.R_slice HL.out.ra
    subst hva
    have a0_:=(blk_cell HL.out.xn 0).trans rfl
    have a1_:=(blk_cell HL.out.xn 1).trans rfl
    have a2_:=(blk_cell HL.out.xn 2).trans rfl
    have a3_:=(blk_cell HL.out.xn 3).trans rfl
    have a4_:=(blk_cell HL.out.xn 4).trans rfl
    have b0_:=(blk_cell HL.out.x4 0).trans rfl
    have b1_:=(blk_cell HL.out.x4 1).trans rfl
    have b2_:=(blk_cell HL.out.x4 2).trans rfl
    have b3_:=(blk_cell HL.out.x4 3).trans rfl
    have b4_:=(blk_cell HL.out.x4 4).trans rfl
    have z0_:=blk_frozen HL.out.x4 0
    have z1_:=blk_frozen (blk_set HL.out.x4 0 (.int .i64 ((sym.length : Int) + 1))) 1
    have z2_:=blk_frozen (blk_set (blk_set HL.out.x4 0 (.int .i64 ((sym.length : Int) + 1))) 1 (.int .i64 r2)) 2
    have z3_:=blk_frozen (blk_set (blk_set (blk_set HL.out.x4 0 (.int .i64 ((sym.length : Int) + 1))) 1 (.int .i64 r2)) 2 (.slice Aa (sN.all (f1 :: beh) sym (beh.length + 1)).length ca)) 3
    have z4_:=blk_frozen (blk_set (blk_set (blk_set (blk_set HL.out.x4 0 (.int .i64 ((sym.length : Int) + 1))) 1 (.int .i64 r2)) 2 (.slice Aa (sN.all (f1 :: beh) sym (beh.length + 1)).length ca)) 3 (.int .u32 1)) 4
    have hR5:=Aside0.mk (Kd.R_mono (Kd.R_far (p:=⟨w.heap.size,4,none⟩) (Kd.R_far (p:=⟨w.heap.size,3,none⟩) (Kd.R_far (p:=⟨w.heap.size,2,none⟩) (Kd.R_far (p:=⟨w.heap.size,1,none⟩) (Kd.R_far (p:=⟨w.heap.size,0,none⟩) HL.out.ra (fun _ hk=>hk.2.1) (.int .i64 ((sym.length : Int) + 1))) (fun _ hk=>hk.2.1) (.int .i64 r2)) (fun _ hk=>hk.2.1) (.slice Aa (sN.all (f1 :: beh) sym (beh.length + 1)).length ca)) (fun _ hk=>hk.2.1) (.int .u32 1)) (fun _ hk=>hk.2.1) (.int .u32 fi0)) (ok':=fun _=>True) (fun _ _=>trivial))
    have hB5:=Aside0.mk (Below.setCell (p:=⟨w.heap.size,4,none⟩) (Below.setCell (p:=⟨w.heap.size,3,none⟩) (Below.setCell (p:=⟨w.heap.size,2,none⟩) (Below.setCell (p:=⟨w.heap.size,1,none⟩) (Below.setCell (p:=⟨w.heap.size,0,none⟩) HL.out.below (Nat.le_refl _) (.int .i64 ((sym.length : Int) + 1))) (Nat.le_refl _) (.int .i64 r2)) (Nat.le_refl _) (.slice Aa (sN.all (f1 :: beh) sym (beh.length + 1)).length ca)) (Nat.le_refl _) (.int .u32 1)) (Nat.le_refl _) (.int .u32 fi0))
    have hX5:=Aside0.mk (blk_set (blk_set (blk_set (blk_set (blk_set HL.out.x4 0 (.int .i64 ((sym.length : Int) + 1))) 1 (.int .i64 r2)) 2 (.slice Aa (sN.all (f1 :: beh) sym (beh.length + 1)).length ca)) 3 (.int .u32 1)) 4 (.int .u32 fi0))
    go_wp2
    exact bodyPost_ret (results_ct rfl _ _ w.heap.size 35 #[.int .i64 ((sym.length : Int) + 1),.int .i64 r2,.slice Aa (sN.all (f1 :: beh) sym (beh.length + 1)).length ca,.int .u32 1,.int .u32 fi0] (0,0) _ rfl hX5.out hu4 rfl rfl) rfl ⟨_,(by first|(rw [EF.out];done)|(rw [EF.out];rfl)),hR5.out,hB5.out⟩
 ·have EF:=Aside0.mk (show sN.fin f2 true = (Go.bits .or .u32 fi0 1) from by unfold sN.fin;rw [if_pos rfl,HFI.out])
  have n4:=(blk_cell NB.out 4).trans rfl
  have n4f:=blk_frozen NB.out 4
  go_wp2
  have SC:=Aside0.mk (SB.out.far GN.out AN.out (j:=4) (.int .u32 (Go.bits .or .u32 fi0 1)))
  have KC:=Aside0.mk (blk_far (p:=⟨bn,4,none⟩) KB.out (Ne.symm NN4.out) (.int .u32 (Go.bits .or .u32 fi0 1)))
  have PC:=Aside0.mk (blk_far (p:=⟨bn,4,none⟩) PB.out (Ne.symm NNP.out) (.int .u32 (Go.bits .or .u32 fi0 1)))
  have NC:=Aside0.mk (blk_set NB.out 4 (.int .u32 (Go.bits .or .u32 fi0 1)))
  generalize wB.setCell ⟨bn,4,none⟩ (.int .u32 (Go.bits .or .u32 fi0 1)) = wC at SC KC PC NC ⊢
  clear SB KB PB NB n4 n4f p2
  have q1:=(blk_cell PC.out 0).trans rfl
  have q2:=(blk_cell SC.out.b 2).trans rfl
  refine start_ (n:=10) (S:=(fun w'=>w'.cell? ⟨bp,0,none⟩ = some (.int .u64 f1) ∧ w'.cell? ⟨g,2,none⟩ = some (.slice Ab beh.length cb))) (ds:=[]) #[false,false,false,false,false,false,false,false,false,false] (by kernel_rfl) rfl rfl (⟨q1,q2⟩) (fun hHeld=>?_)
  refine take_ (i:=0) (N:=some 51) (v:=?_) (a':=?_) #[true,false,false,false,false,false,false,false,false,false] rfl rfl (by kernel_rfl) (fun _ _ _ h_=>h_) (Or.inl ⟨by rfl,?_⟩) hHeld ?_ ?_
  rotate_left
  ·intro w_ hSw
   (obtain ⟨hz1,hz2⟩:=hSw)
   go_simp
   first|done|with_reducible rfl
  rotate_left
  ·simp only [putAll,Act.put,List.setIfInBounds_toArray,List.set_cons_zero,List.set_cons_succ]
   rfl
  refine take_ (i:=1) (N:=some 52) (v:=?_) (a':=?_) #[true,true,false,false,false,false,false,false,false,false] rfl rfl (by kernel_rfl) (fun _ _ _ h_=>h_) (Or.inl ⟨by rfl,?_⟩) hHeld ?_ ?_
  rotate_left
  ·intro w_ hSw
   (obtain ⟨hz1,hz2⟩:=hSw)
   go_simp
   first|done|with_reducible rfl
  rotate_left
  ·simp only [putAll,Act.put,List.setIfInBounds_toArray,List.set_cons_zero,List.set_cons_succ]
   rfl
  refine take_ (i:=3) (N:=some 54) (v:=?_) (a':=?_) #[true,true,false,true,false,false,false,false,false,false] rfl rfl (by kernel_rfl) (fun _ _ _ h_=>h_) (Or.inl ⟨by rfl,?_⟩) hHeld ?_ ?_
  rotate_left
  ·intro w_ hSw
   (obtain ⟨hz1,hz2⟩:=hSw)
   go_simp
   first|done|with_reducible rfl
  rotate_left
  ·simp only [putAll,Act.put,List.setIfInBounds_toArray,List.set_cons_zero,List.set_cons_succ]
   rfl
  refine take_ (i:=4) (N:=some 55) (v:=?_) (a':=?_) #[true,true,false,true,true,false,false,false,false,false] rfl rfl (by kernel_rfl) (fun _ _ _ h_=>h_) (Or.inl ⟨by rfl,?_⟩) hHeld ?_ ?_
  rotate_left
  ·intro w_ hSw
   (obtain ⟨hz1,hz2⟩:=hSw)
   go_simp
   first|done|with_reducible rfl
  rotate_left
  ·simp only [putAll,Act.put,List.setIfInBounds_toArray,List.set_cons_zero,List.set_cons_succ]
   rfl
  refine take_ (i:=5) (N:=some 56) (v:=?_) (a':=?_) #[true,true,false,true,true,true,false,false,false,false] rfl rfl (by kernel_rfl) (fun _ _ _ h_=>h_) (Or.inl ⟨by rfl,?_⟩) hHeld ?_ ?_
  rotate_left
  ·intro w_ hSw
   (obtain ⟨hz1,hz2⟩:=hSw)
   go_simp
   first|done|with_reducible rfl
  rotate_left
  ·simp only [putAll,Act.put,List.setIfInBounds_toArray,List.set_cons_zero,List.set_cons_succ]
   rfl
  refine take_ (i:=6) (N:=some 57) (v:=?_) (a':=?_) #[true,true,false,true,true,true,true,false,false,false] rfl rfl (by kernel_rfl) (fun _ _ _ h_=>h_) (Or.inl ⟨by rfl,?_⟩) hHeld ?_ ?_
  rotate_left
  ·intro w_ hSw
   (obtain ⟨hz1,hz2⟩:=hSw)
   go_simp
   first|done|with_reducible rfl
  rotate_left
  ·simp only [putAll,Act.put,List.setIfInBounds_toArray,List.set_cons_zero,List.set_cons_succ]
   rfl
  refine take_ (i:=9) (N:=some 60) (v:=?_) (a':=?_) #[true,true,false,true,true,true,true,false,false,true] rfl rfl (by kernel_rfl) (fun _ _ _ h_=>h_) (Or.inl ⟨by rfl,?_⟩) hHeld ?_ ?_
  rotate_left
  ·intro w_ hSw
   (obtain ⟨hz1,hz2⟩:=hSw)
   go_simp
   first|done|with_reducible rfl
  rotate_left
  ·simp only [putAll,Act.put,List.setIfInBounds_toArray,List.set_cons_zero,List.set_cons_succ]
   rfl
  refine one_ (i:=2) (N:=some 53) #[true,true,true,true,true,true,true,false,false,true] rfl rfl (by kernel_rfl) (by decide) (fun K_ hK_=>?_)
  go_simp
  have bR:=below_drew (below_alloc (Below.refl wC.heap.size wC) (.cells #[.int .u64 f1] 87))
  have SD:=SC.out.kept bR
  have PD:=blk_below PC.out bR
  have KD:=blk_below KC.out bR
  have ND:=blk_below NC.out bR
  have RD:=Kd.R_drew (sN.one_R wC f1 (base:=w.heap.size) rfl (below_size SC.out.below))
  have FR:=SC.out.new (Nat.le_refl wC.heap.size)
  have FRP : wC.heap.size ≠ bp:=by have h_:=blk_lt PC.out;omega
  have F4 : wC.heap.size ≠ w.heap.size:=by have h_:=blk_lt KC.out;omega
  have FN : wC.heap.size ≠ bn:=by have h_:=blk_lt NC.out;omega
  refine hK_.out _ _ (⟨(blk_cell PD 0).trans rfl,(blk_cell SD.b 2).trans rfl⟩) (fun hHeld=>?_)
  clear hK_ K_
  try (refine norm_ (by simp only [putAll,Act.put,List.setIfInBounds_toArray,List.set_cons_zero,List.set_cons_succ];rfl) ?_)
  generalize (wC.alloc (.cells #[.int .u64 f1] 87)).drew = wD at SD PD KD ND RD hHeld ⊢
  generalize wC.heap.size = br at RD FR F4 FN FRP ⊢
  refine one_ (i:=7) (N:=some 58) #[true,true,true,true,true,true,true,true,false,true] rfl rfl (by kernel_rfl) (by decide) (fun K_ hK_=>?_)
  refine Kd.R_append_rows_step (Kd.int .u64) (Rr:=fun (x_ : Int) (cs_ : List Value)=>cs_ = [Value.int .u64 x_]) (w0:=w) w.heap.size (by rfl) (.tmp 53) (.tmp 57) 84 87 (.int .u64 0) 8 rfl Try.underlying84 sR.infoU rfl (by decide) (by decide) (.slice (some ⟨br,0,none⟩) 1 1) [f1] beh Ab beh.length cb (fun q=>sN.ok g w.heap.size bn q ∧ q ≠ bp) (fun _=>False) rfl rfl ?xh (Kd.R_reads' SD.rb).2.2 ?xm ?xo ?xf SD.below (below_size SD.below) ?xl ?_
  case xh=>exact Kd.R_mono RD (fun q hq=>(by subst hq;exact ⟨⟨FR.1,F4,FN⟩,FRP⟩))
  case xm=>intro x_ cs_ e_;exact e_
  case xo=>exact fun q hq=>hq.elim
  case xf=>exact fun q hq=>⟨⟨by have h_:=blk_lt SD.b;omega,by have h_:=blk_lt KD;omega,by have h_:=blk_lt ND;omega⟩,by have h_:=blk_lt PD;omega⟩
  case xl=>(have h_:=CB.out;simp only [List.length_cons,List.length_nil];omega)
  intro vt wE hr1 hb1 hg1 hat1
  have hq1:=blk_grown PD hg1 (fun e_=>FRP (Option.some.inj e_).symm)
  have hrS:=(show Kd.R (Kd.int .i64) 3 wE w.heap.size (fun q=>sN.ok g w.heap.size bn q ∧ some q ≠ (Value.slice none 0 0).ownBlock) (.slice As sym.length cs) sym from Kd.R_reok rfl (Kd.R_grown2 SD.rs rfl hg1 (fun q hq e_=>FR.2.1 (by rw [← e_,← hq];rfl))) (fun q hq=>⟨⟨SD.rs.1 q hq,fun e_=>K4A.out.2.1 (by rw [hq,e_]),fun e_=>AN.out.2.1 (by rw [hq,e_])⟩,fun e_=>by cases e_⟩))
  have LL:=Aside0.mk (show sN.L w g w.heap.size bn A1 l1.length c1 (.slice As sym.length cs) (.slice Ab beh.length cb) vt (.slice none 0 0) sym (f1 :: beh) [] ((sym.length : Int) + 1) r2 (Go.bits .or .u32 fi0 1) wE from ⟨hb1,SD.gp,Nat.le_refl _,GN.out,K4A.out.1.symm,AN.out.1.symm,NN4.out.symm,blk_grown SD.b hg1 (fun e_=>FR.1 (Option.some.inj e_).symm),blk_grown KD hg1 (fun e_=>F4 (Option.some.inj e_).symm),blk_grown ND hg1 (fun e_=>FN (Option.some.inj e_).symm),hrS,Kd.R_mono hr1 (fun q hq=>⟨hq.1,fun e_=>by cases e_⟩),Kd.R_nil _ _ _ _ _⟩)
  clear hrS hr1 hb1 hg1 hat1 SD PD KD ND RD FR F4 FN FRP
  obtain ⟨At,ct,hvt⟩:=Kd.R_slice LL.out.rt
  subst hvt
  refine hK_.out _ _ (⟨(blk_cell hq1 0).trans rfl,(blk_cell LL.out.xg 2).trans rfl⟩) (fun hHeld=>?_)
  clear hK_ K_
  refine norm_ (show _ = Act.put _ (some 58) _ from rfl) ?_
  refine norm_ (by simp only [putAll,Act.put,List.setIfInBounds_toArray,List.set_cons_zero,List.set_cons_succ];rfl) ?_
  refine take_ (i:=8) (N:=some 59) (v:=?_) (a':=?_) #[true,true,true,true,true,true,true,true,true,true] rfl rfl (by kernel_rfl) (fun _ _ _ h_=>h_) (Or.inl ⟨by rfl,?_⟩) hHeld ?_ ?_
  rotate_left
  ·intro w_ hSw
   (obtain ⟨hz1,hz2⟩:=hSw)
   go_simp
   first|done|with_reducible rfl
  rotate_left
  ·simp only [putAll,Act.put,List.setIfInBounds_toArray,List.set_cons_zero,List.set_cons_succ]
   rfl
  refine done_ (by kernel_rfl) ?_
  clear hHeld hq1 q1 q2 SC PC KC NC AN K4A NN4 NNP GN P6 AP NP
  have hbl : beh.length ≤ 50:=CB.out
  have hsl : sym.length ≤ 50:=CS.out
  go_wp2
  go_loopg [60] (beh.length + 1) (fun gg s60 wr=>∃ (i : Nat) (va : Value),s60 = .int .i64 (i : Int) ∧ i ≤ beh.length + 1 ∧ beh.length + 1 - i ≤ gg ∧ Aside0 (sN.L w g w.heap.size bn A1 l1.length c1 (.slice As sym.length cs) (.slice Ab beh.length cb) (.slice At (f1 :: beh).length ct) va sym (f1 :: beh) (sN.all (f1 :: beh) sym i) ((sym.length : Int) + 1) r2 (Go.bits .or .u32 fi0 1) wr))
  case atStart=>exact ⟨0,_,rfl,by omega,by omega,LL⟩
  case round =>
   obtain ⟨i,va,rfl,i1,i2,HL⟩:=hrel
   by_cases ci : i < beh.length + 1
   ·have cit : ((i : Int) < (beh.length : Int) + 1) = True:=eq_true (by omega)
    have cit2 : (i < beh.length + 1) = True:=eq_true ci
    obtain ⟨ad,hAt,y⟩:=Kd.at_int (Kd.R_reads' HL.out.rt).2.2 (i : Int) (by omega) (by rw [List.length_cons];omega)
    rw [Int.toNat_natCast,show rd (f1 :: beh) (i : Int) = (f1 :: beh).getD i 0 by simp [rd]] at y
    obtain ⟨tw,htw⟩ : ∃ tw,(f1 :: beh).getD i 0 = tw:=⟨_,rfl⟩
    rw [htw] at y
    have hall:=sN.all_len (f1 :: beh) sym i
    have hmul : i * sym.length ≤ 51 * 50:=Nat.mul_le_mul (by omega) (by omega)
    have HLEN:=Aside0.mk (show (sN.all (f1 :: beh) sym i).length ≤ 2550 from by omega)
    have HTW:=Aside0.mk htw
    clear hall hmul htw
    have g1:=(blk_cell HL.out.xg 1).trans rfl
    have HL0:=Aside0.mk (show sN.L w g w.heap.size bn A1 l1.length c1 (.slice As sym.length cs) (.slice Ab beh.length cb) (.slice At (f1 :: beh).length ct) va sym (f1 :: beh) (sN.all (f1 :: beh) sym i ++ sN.row sym i tw 0) ((sym.length : Int) + 1) r2 (Go.bits .or .u32 fi0 1) wr from by rw [show sN.row sym i tw 0 = [] from rfl,List.append_nil];exact HL.out)
    have einc : IntKind.i64.wrap ((i : Int) + 1) = (i : Int) + 1:=by rw [i64_w,wrap64];omega
    subst hAt
    go_wp2
    go_loopg [70] sym.length (fun g2 s70 wr=>∃ (j : Nat) (va : Value),s70 = .int .i64 (j : Int) ∧ j ≤ sym.length ∧ sym.length - j ≤ g2 ∧ Aside0 (sN.L w g w.heap.size bn A1 l1.length c1 (.slice As sym.length cs) (.slice Ab beh.length cb) (.slice (some ad) (f1 :: beh).length ct) va sym (f1 :: beh) (sN.all (f1 :: beh) sym i ++ sN.row sym i tw j) ((sym.length : Int) + 1) r2 (Go.bits .or .u32 fi0 1) wr))
    case atStart=>exact ⟨0,_,rfl,by omega,by omega,HL0⟩
    case round =>
     obtain ⟨j,va,rfl,j1,j2,HM⟩:=hrel
     by_cases cj : j < sym.length
     ·have cjt : ((j : Int) < (sym.length : Int)) = True:=eq_true (by omega)
      have cjt2 : (j < sym.length) = True:=eq_true cj
      obtain ⟨ay,hAs,ys⟩:=Kd.at_int (Kd.R_reads' HM.out.rs).2.2 (j : Int) (by omega) (by omega)
      rw [Int.toNat_natCast,show rd sym (j : Int) = sym.getD j 0 by simp [rd]] at ys
      subst hAs
      obtain ⟨sy,hsy⟩ : ∃ sy,sym.getD j 0 = sy:=⟨_,rfl⟩
      have ejnc : IntKind.i64.wrap ((j : Int) + 1) = (j : Int) + 1:=by rw [i64_w,wrap64];omega
      have hrow:=sN.row_succ sym i tw j
      rw [hsy] at ys hrow
      have HRL:=Aside0.mk (sN.row_len sym i tw j)
      clear hsy
      cases hb : sR.bit tw j with
      | false =>
       have hbt:=hb
       unfold sR.bit at hbt
       have hbt2:=hbt
       rw [show min j 64 = j by omega] at hbt2
       rw [hb,if_neg (by decide),List.append_nil] at hrow
       have HM2:=Aside0.mk (show sN.L w g w.heap.size bn A1 l1.length c1 (.slice (some ay) sym.length cs) (.slice Ab beh.length cb) (.slice (some ad) (f1 :: beh).length ct) va sym (f1 :: beh) (sN.all (f1 :: beh) sym i ++ sN.row sym i tw (j + 1)) ((sym.length : Int) + 1) r2 (Go.bits .or .u32 fi0 1) wr from by rw [hrow];exact HM.out)
       clear hrow
       go_wp2
       go_roundg (sym.length - (j + 1))
       case measure=>omega
       case rel=>exact ⟨j + 1,va,rfl,by omega,by omega,HM2⟩
      | true =>
       have hbt:=hb
       unfold sR.bit at hbt
       have hbt2:=hbt
       rw [show min j 64 = j by omega] at hbt2
       rw [hb,if_pos rfl] at hrow
       have HROW:=Aside0.mk hrow
       clear hrow
       obtain ⟨Aa,ca,hva⟩:=Kd.R_slice HM.out.ra
       subst hva
       have n2:=(blk_cell HM.out.xn 2).trans rfl
       obtain ⟨arcs,harcs⟩ : ∃ arcs,sN.all (f1 :: beh) sym i ++ sN.row sym i tw j = arcs:=⟨_,rfl⟩
       have HAL:=Aside0.mk (show arcs.length ≤ 2600 from by have h1_:=HLEN.out;have h2_:=HRL.out;rw [← harcs,List.length_append];omega)
       have HAR:=Aside0.mk harcs
       rw [harcs] at HM n2
       clear harcs
       go_wp2_with ((with_reducible refine gate_builtin (b:=.append) (xs:=#[.tmp 81,.tmp 87]) rfl ?_);at_builtin;go_loud (refine Kd.R_append k42 (w0:=w) w.heap.size rfl (.tmp 81) (.tmp 87) 32 42 (.agg #[.int .i64 0,.int .i64 0,.int .i64 0]) 24 rfl Try.underlying32 sN.info42 rfl (by decide) (by omega) (.slice Aa arcs.length ca) arcs ⟨(i : Int),sy,(j : Int) + 1⟩ _ (sN.ok g w.heap.size bn) (fun _=>False) rfl rfl ?xm ?xo ?xf HM.out.ra HM.out.below (below_size HM.out.below) ?xl ?_);(case xm=>exact k42_mkM _ _ _ ⟨(i : Int),sy,(j : Int) + 1⟩);(case xo=>exact fun k hk=>hk.elim);(case xf=>exact HM.out.new);(case xl=>(have h_:=HAL.out;omega));intro v1 w1' hr1 hb1 hg1 hat1;(obtain ⟨B1,d1',ev⟩:=Kd.R_slice hr1);(have HM3:=Aside0.mk (HM.out.push hg1 hb1 hr1 hat1));have hq3:=blk_grown HM.out.xn hg1 (HM.out.away (fun q=>q.2.2 rfl));generalize (arcs ++ [(⟨(i : Int),sy,(j : Int) + 1⟩ : S42)]).length = ln at ev;subst ev;have hq4:=blk_frozen hq3 2;have hq5:=(blk_cell hq3 2).trans rfl;clear hr1 hb1 hg1 hat1 hq3 n2)
       rw [← HAR.out,List.append_assoc,← HROW.out] at HM3
       go_roundg (sym.length - (j + 1))
       case measure=>omega
       case rel=>exact ⟨j + 1,_,rfl,by omega,by omega,HM3⟩
     ·obtain rfl : j = sym.length:=by omega
      have cjt : ((sym.length : Int) < (sym.length : Int)) = False:=eq_false (by omega)
      have hsucc:=sN.all_succ (f1 :: beh) sym i
      rw [HTW.out] at hsucc
      have HM2:=HM
      rw [← hsucc] at HM2
      clear hsucc HM HL0 HL y g1
      go_wp2
      go_roundg (beh.length + 1 - (i + 1))
      case measure=>omega
      case rel=>exact ⟨i + 1,_,rfl,by omega,by omega,HM2⟩
   ·obtain rfl : i = beh.length + 1:=by omega
    have cit : (((beh.length + 1 : Nat) : Int) < (beh.length : Int) + 1) = False:=eq_false (by omega)
    obtain ⟨Aa,ca,hva⟩:=Kd.R_slice HL.out.ra
    subst hva
    have a0_:=(blk_cell HL.out.xn 0).trans rfl
    have a1_:=(blk_cell HL.out.xn 1).trans rfl
    have a2_:=(blk_cell HL.out.xn 2).trans rfl
    have a3_:=(blk_cell HL.out.xn 3).trans rfl
    have a4_:=(blk_cell HL.out.xn 4).trans rfl
    have b0_:=(blk_cell HL.out.x4 0).trans rfl
    have b1_:=(blk_cell HL.out.x4 1).trans rfl
    have b2_:=(blk_cell HL.out.x4 2).trans rfl
    have b3_:=(blk_cell HL.out.x4 3).trans rfl
    have b4_:=(blk_cell HL.out.x4 4).trans rfl
    have z0_:=blk_frozen HL.out.x4 0
    have z1_:=blk_frozen (blk_set HL.out.x4 0 (.int .i64 ((sym.length : Int) + 1))) 1
    have z2_:=blk_frozen (blk_set (blk_set HL.out.x4 0 (.int .i64 ((sym.length : Int) + 1))) 1 (.int .i64 r2)) 2
    have z3_:=blk_frozen (blk_set (blk_set (blk_set HL.out.x4 0 (.int .i64 ((sym.length : Int) + 1))) 1 (.int .i64 r2)) 2 (.slice Aa (sN.all (f1 :: beh) sym (beh.length + 1)).length ca)) 3
    have z4_:=blk_frozen (blk_set (blk_set (blk_set (blk_set HL.out.x4 0 (.int .i64 ((sym.length : Int) + 1))) 1 (.int .i64 r2)) 2 (.slice Aa (sN.all (f1 :: beh) sym (beh.length + 1)).length ca)) 3 (.int .u32 1)) 4
    have hR5:=Aside0.mk (Kd.R_mono (Kd.R_far (p:=⟨w.heap.size,4,none⟩) (Kd.R_far (p:=⟨w.heap.size,3,none⟩) (Kd.R_far (p:=⟨w.heap.size,2,none⟩) (Kd.R_far (p:=⟨w.heap.size,1,none⟩) (Kd.R_far (p:=⟨w.heap.size,0,none⟩) HL.out.ra (fun _ hk=>hk.2.1) (.int .i64 ((sym.length : Int) + 1))) (fun _ hk=>hk.2.1) (.int .i64 r2)) (fun _ hk=>hk.2.1) (.slice Aa (sN.all (f1 :: beh) sym (beh.length + 1)).length ca)) (fun _ hk=>hk.2.1) (.int .u32 1)) (fun _ hk=>hk.2.1) (.int .u32 (Go.bits .or .u32 fi0 1))) (ok':=fun _=>True) (fun _ _=>trivial))
    have hB5:=Aside0.mk (Below.setCell (p:=⟨w.heap.size,4,none⟩) (Below.setCell (p:=⟨w.heap.size,3,none⟩) (Below.setCell (p:=⟨w.heap.size,2,none⟩) (Below.setCell (p:=⟨w.heap.size,1,none⟩) (Below.setCell (p:=⟨w.heap.size,0,none⟩) HL.out.below (Nat.le_refl _) (.int .i64 ((sym.length : Int) + 1))) (Nat.le_refl _) (.int .i64 r2)) (Nat.le_refl _) (.slice Aa (sN.all (f1 :: beh) sym (beh.length + 1)).length ca)) (Nat.le_refl _) (.int .u32 1)) (Nat.le_refl _) (.int .u32 (Go.bits .or .u32 fi0 1)))
    have hX5:=Aside0.mk (blk_set (blk_set (blk_set (blk_set (blk_set HL.out.x4 0 (.int .i64 ((sym.length : Int) + 1))) 1 (.int .i64 r2)) 2 (.slice Aa (sN.all (f1 :: beh) sym (beh.length + 1)).length ca)) 3 (.int .u32 1)) 4 (.int .u32 (Go.bits .or .u32 fi0 1)))
    go_wp2
    exact bodyPost_ret (results_ct rfl _ _ w.heap.size 35 #[.int .i64 ((sym.length : Int) + 1),.int .i64 r2,.slice Aa (sN.all (f1 :: beh) sym (beh.length + 1)).length ca,.int .u32 1,.int .u32 (Go.bits .or .u32 fi0 1)] (0,0) _ rfl hX5.out hu4 rfl rfl) rfl ⟨_,(by first|(rw [EF.out];done)|(rw [EF.out];rfl)),hR5.out,hB5.out⟩
end Go.Proofs.Ytkalcljgcigdgaa.GS
