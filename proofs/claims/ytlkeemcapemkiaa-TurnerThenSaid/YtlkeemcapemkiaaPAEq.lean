/- Words on rows of numbers in plain Lean: the reference's Ints. -/
import Derived.Test.YtlkeemcapemkiaaEv
import Derived.Laws.BitsAllLaws
import Derived.Test.YtlkeemcapemkiaaGA5
import Derived.Test.YtlkeemcapemkiaaGA2
import Derived.Test.YtlkeemcapemkiaaGA4E
import Derived.Test.YtlkeemcapemkiaaGA6
import Derived.Test.YtlkeemcapemkiaaGA7
namespace Go.Proofs.Ytlkeemcapemkiaa.PAM
set_option linter.unusedVariables false
set_option linter.unusedSimpArgs false
open Go.RowKit Go.Proofs.Ytlkeemcapemkiaa.GA Go.Proofs.YtlkeemcapemkiaaW.PrintWords Go.Proofs.YtlkeemcapemkiaaW.PrintLast Go.Proofs.YtlkeemcapemkiaaW.PrintMore
/-- A bit of a number. -/
def bit (x : Int) (i : Int) : Bool:=x.toNat.testBit i.toNat
theorem shr_nat (X n : Nat) : shr .u32 (X : Int) (n : Int) = ((X / 2 ^ min n 32 : Nat) : Int):=by
 unfold shr
 rw [Int.toNat_natCast]
 simp [IntKind.bits]
theorem div_big {X n : Nat} (hX : X < 4294967296) (h : 32 ≤ n) : X / 2 ^ n = 0:=by
 apply Nat.div_eq_of_lt
 calc X < 2 ^ 32:=hX
  _ ≤ 2 ^ n:=Nat.pow_le_pow_right (by omega) h
theorem div_min {X : Nat} (hX : X < 4294967296) (n : Nat) : X / 2 ^ min n 32 = X / 2 ^ n:=by
 rcases Nat.le_total n 32 with h|h
 ·rw [Nat.min_eq_left h]
 ·rw [Nat.min_eq_right h,div_big hX h,div_big hX (Nat.le_refl 32)]
theorem shr_bit {x : Int} (h0 : 0 ≤ x) (h1 : x < 4294967296) {n : Int} (hn : 0 ≤ n) : Go.bits .and .u32 (shr .u32 x n) 1 = if bit x n then 1 else 0:=by
 obtain ⟨X,rfl⟩:=Int.eq_ofNat_of_zero_le h0
 obtain ⟨m,rfl⟩:=Int.eq_ofNat_of_zero_le hn
 have hX : X < 4294967296:=by omega
 have hd : X / 2 ^ m < 4294967296:=Nat.lt_of_le_of_lt (Nat.div_le_self _ _) hX
 show Go.bits .and .u32 (shr .u32 (X : Int) (m : Int)) ((1 : Nat) : Int) = _
 rw [shr_nat,div_min hX,u32_and_nat _ _ hd (by omega),Nat.and_one_is_mod]
 show _ = if (X.testBit m) = true then 1 else 0
 rw [Nat.testBit_eq_decide_div_mod_eq]
 by_cases e : X / 2 ^ m % 2 = 1
 ·rw [e];simp
 ·rw [if_neg (by simpa using e),show X / 2 ^ m % 2 = 0 by omega];rfl
theorem shr_zero {x : Int} (h0 : 0 ≤ x) (h1 : x < 4294967296) {n : Int} (hn : 0 ≤ n) : shr .u32 x n = 0 ↔ x < 2 ^ n.toNat:=by
 obtain ⟨X,rfl⟩:=Int.eq_ofNat_of_zero_le h0
 obtain ⟨m,rfl⟩:=Int.eq_ofNat_of_zero_le hn
 have hX : X < 4294967296:=by omega
 show shr .u32 (X : Int) (m : Int) = 0 ↔ _
 rw [shr_nat,div_min hX,Int.toNat_natCast]
 have e : ((2 : Int) ^ m) = ((2 ^ m : Nat) : Int):=by simp
 have hp : 0 < 2 ^ m:=Nat.pow_pos (by omega)
 have hd : X / 2 ^ m = 0 ↔ X < 2 ^ m:=by rw [Nat.div_eq_zero_iff];omega
 show ((X / 2 ^ m : Nat) : Int) = 0 ↔ (X : Int) < 2 ^ m
 rw [e]
 omega
theorem shl_one {n : Int} (hn : 0 ≤ n) (h : n < 32) : shl .u32 1 n = 2 ^ n.toNat:=by
 obtain ⟨m,rfl⟩:=Int.eq_ofNat_of_zero_le hn
 unfold shl
 rw [Int.toNat_natCast,Nat.min_eq_left (by simp [IntKind.bits];omega),IntKind.wrap_u32']
 have hp : (2 : Nat) ^ m < 2 ^ 32:=Nat.pow_lt_pow_right (by omega) (by omega)
 have e : ((2 : Int) ^ m) = ((2 ^ m : Nat) : Int):=by simp
 rw [e,Int.one_mul]
 exact Int.emod_eq_of_lt (Int.natCast_nonneg _) (by have:=Int.ofNat_lt.2 hp;simpa using this)
theorem u64_small {n : Int} (h0 : 0 ≤ n) (h1 : n < 18446744073709551616) : IntKind.u64.wrap n = n:=by
 rw [IntKind.wrap_u64];exact Int.emod_eq_of_lt h0 h1
/-- A word that fits its symbols. -/
def GoodW (k : Int) (w : List Int) : Prop:=w.length ≤ 12 ∧ ∀ s ∈ w,0 ≤ s ∧ s < k
theorem words_spec (k : Int) (w : List Int) : ∃ e,machine_Words.f k w = some e ∧ (e = 0 ↔ GoodW k w):=by
 refine ⟨_,rfl,?_⟩
 unfold GoodW
 by_cases h : w.length > 12
 ·rw [if_pos h]
  exact ⟨fun h'=>absurd h' (by decide),fun h'=>by omega⟩
 ·rw [if_neg h]
  by_cases h2 : w.any (fun s=>decide (s < 0) || decide (s ≥ k)) = true
  ·rw [if_pos h2]
   refine ⟨fun h'=>absurd h' (by decide),fun h'=>?_⟩
   rw [List.any_eq_true] at h2
   obtain ⟨s,hs,hb⟩:=h2
   have:=h'.2 s hs
   simp at hb
   omega
  ·rw [if_neg h2]
   refine ⟨fun _=>⟨by omega,fun s hs=>?_⟩,fun _=>rfl⟩
   have:=fun h3=>h2 (List.any_eq_true.2 ⟨s,hs,h3⟩)
   simp at this
   omega
theorem drop_cons {α : Type} {l : List α} {i : Nat} (h : i < l.length) (d : α) : l.drop i = l.getD i d :: l.drop (i + 1):=by
 rw [List.drop_eq_getElem_cons h,List.getD_eq_getElem?_getD,List.getElem?_eq_getElem h,Option.getD_some]
def okN (n : Int) (x : Int) : Bool:=decide (0 ≤ x) && decide (x < n)
theorem okN_iff {n x : Int} : okN n x = true ↔ 0 ≤ x ∧ x < n:=by simp [okN]
end Go.Proofs.Ytlkeemcapemkiaa.PAM

namespace Go.Proofs.Ytlkeemcapemkiaa.PAM
set_option linter.unusedVariables false
set_option linter.unusedSimpArgs false
open Go.RowKit Go.Proofs.Ytlkeemcapemkiaa.GA Go.Proofs.YtlkeemcapemkiaaW.PrintWords Go.Proofs.YtlkeemcapemkiaaW.PrintLast Go.Proofs.YtlkeemcapemkiaaW.PrintMore
theorem rdA_nat (xs : List (List Int)) (i : Nat) : rd_L1 xs (i : Int) = xs.getD i []:=by simp [rd_L1]
theorem rdB_nat (xs : List (List (List Int))) (i : Nat) : rd_L2 xs (i : Int) = xs.getD i []:=by simp [rd_L2]
/-- A turner as the document has it. -/
structure GoodT (n k l : Int) (nx : List (List Int)) (ou : List (List (List Int))) (s : Int) : Prop where
 n1 : 1 ≤ n
 n7 : n ≤ 7
 k1 : 1 ≤ k
 k3 : k ≤ 3
 l1 : 1 ≤ l
 l3 : l ≤ 3
 ln : (nx.length : Int) = n
 lo : (ou.length : Int) = n
 row : ∀ i : Nat,i < n.toNat → ((nx.getD i []).length : Int) = k ∧ ((ou.getD i []).length : Int) = k
 small : ∀ r ∈ ou,∀ w ∈ r,w.length ≤ 4
 en : ∀ r ∈ nx,∀ x ∈ r,0 ≤ x ∧ x < n
 s0 : 0 ≤ s
 s1 : s < n
 eo : ∀ r ∈ ou,∀ w ∈ r,∀ x ∈ w,0 ≤ x ∧ x < l
theorem flat_le {α : Type} : ∀ {rs : List (List α)} {k : Nat},(∀ r ∈ rs,r.length ≤ k) → rs.flatten.length ≤ rs.length * k
 | [],k,_=>by simp
 | r :: rs,k,h=>by
  have h1:=h r List.mem_cons_self
  have h2:=flat_le (rs:=rs) (k:=k) (fun x hx=>h x (List.mem_cons_of_mem _ hx))
  rw [List.flatten_cons,List.length_append,List.length_cons,Nat.add_mul,Nat.one_mul]
  omega
theorem tcheck_l2 {n k l s : Int} {nx : List (List Int)} {ou : List (List (List Int))} (xs : List Int) (hx : xs.length ≤ 1000) : ∀ (d i : Nat),i + d = xs.length → ∃ e,Ev (fun q=>turner_Check.l2 q xs (xs.length : Int) (i : Int) n k l nx ou s) e ∧ (e = 0 ↔ ∀ x ∈ xs.drop i,0 ≤ x ∧ x < l):=by
 intro d
 induction d with
 | zero =>
  intro i hi
  rw [List.drop_eq_nil_of_le (by omega)]
  exact ⟨0,Ev.step (fun q=>by rw [turner_Check.l2]) (Ev.neg (by omega) (Ev.now _)),fun _ x hx=>absurd hx (by simp),fun _=>rfl⟩
 | succ d ih =>
  intro i hi
  have hlt : i < xs.length:=by omega
  obtain ⟨e,he,hie⟩:=ih (i + 1) (by omega)
  rw [drop_cons hlt 0]
  have pre : ∀ {r : Int},Ev (fun q=>if xs.getD i 0 < 0 then some 2 else if xs.getD i 0 ≥ l then some 2 else turner_Check.l2 q xs (xs.length : Int) ((i + 1 : Nat) : Int) n k l nx ou s) r → Ev (fun q=>turner_Check.l2 q xs (xs.length : Int) (i : Int) n k l nx ou s) r:=by
   intro r h
   refine Ev.step (fun q=>by rw [turner_Check.l2]) ?_
   refine Ev.pos (by omega) (Ev.pos (by omega) (Ev.pos (by omega) ?_))
   rw [rd_nat,w64 (n:=(i : Int) + 1) (by omega) (by omega)]
   exact h
  by_cases c1 : xs.getD i 0 < 0
  ·exact ⟨2,pre (Ev.pos c1 (Ev.now _)),fun h=>absurd h (by decide),fun h=>by have:=h _ List.mem_cons_self;omega⟩
  by_cases c2 : xs.getD i 0 ≥ l
  ·exact ⟨2,pre (Ev.neg c1 (Ev.pos c2 (Ev.now _))),fun h=>absurd h (by decide),fun h=>by have:=h _ List.mem_cons_self;omega⟩
  refine ⟨e,pre (Ev.neg c1 (Ev.neg c2 he)),?_⟩
  rw [hie]
  exact ⟨fun h x hx=>by rcases List.mem_cons.1 hx with rfl|hx;exact ⟨by omega,by omega⟩;exact h x hx,fun h x hx=>h x (List.mem_cons_of_mem _ hx)⟩
theorem tcheck_l1 {n k l s : Int} {nx : List (List Int)} {ou : List (List (List Int))} {W : List (List Int)} (hW : W.length ≤ 1000) (hw : ∀ w ∈ W,w.length ≤ 4) (hF : W.flatten.length ≤ 1000) (xs : List Int) (hx : xs.length ≤ 1000) : ∀ (d i : Nat),i + d = xs.length → ∃ e,Ev (fun q=>turner_Check.l1 q W xs (xs.length : Int) (i : Int) n k l nx ou s) e ∧ (e = 0 ↔ (∀ x ∈ xs.drop i,0 ≤ x ∧ x < n) ∧ ∀ x ∈ W.flatten,0 ≤ x ∧ x < l):=by
 intro d
 induction d with
 | zero =>
  intro i hi
  rw [List.drop_eq_nil_of_le (by omega)]
  obtain ⟨e,he,hie⟩:=tcheck_l2 (n:=n) (k:=k) (l:=l) (nx:=nx) (ou:=ou) (s:=s) W.flatten hF W.flatten.length 0 (by omega)
  rw [List.drop_zero] at hie
  refine ⟨e,Ev.step (fun q=>by rw [turner_Check.l1]) (Ev.neg (by omega) (Ev.bindc (a:=W.flatten) (by unfold slices_Concat_int_int_16.f;rw [if_pos ⟨by omega,by omega⟩]) he)),?_⟩
  rw [hie]
  exact ⟨fun h=>⟨fun x hx=>absurd hx (by simp),h⟩,fun h=>h.2⟩
 | succ d ih =>
  intro i hi
  have hlt : i < xs.length:=by omega
  obtain ⟨e,he,hie⟩:=ih (i + 1) (by omega)
  rw [drop_cons hlt 0]
  have pre : ∀ {r : Int},Ev (fun q=>if xs.getD i 0 < 0 then some 2 else if xs.getD i 0 ≥ n then some 2 else turner_Check.l1 q W xs (xs.length : Int) ((i + 1 : Nat) : Int) n k l nx ou s) r → Ev (fun q=>turner_Check.l1 q W xs (xs.length : Int) (i : Int) n k l nx ou s) r:=by
   intro r h
   refine Ev.step (fun q=>by rw [turner_Check.l1]) ?_
   refine Ev.pos (by omega) (Ev.pos (by omega) (Ev.pos (by omega) ?_))
   rw [rd_nat,w64 (n:=(i : Int) + 1) (by omega) (by omega)]
   exact h
  by_cases c1 : xs.getD i 0 < 0
  ·exact ⟨2,pre (Ev.pos c1 (Ev.now _)),fun h=>absurd h (by decide),fun h=>by have:=h.1 _ List.mem_cons_self;omega⟩
  by_cases c2 : xs.getD i 0 ≥ n
  ·exact ⟨2,pre (Ev.neg c1 (Ev.pos c2 (Ev.now _))),fun h=>absurd h (by decide),fun h=>by have:=h.1 _ List.mem_cons_self;omega⟩
  refine ⟨e,pre (Ev.neg c1 (Ev.neg c2 he)),?_⟩
  rw [hie]
  exact ⟨fun h=>⟨fun x hx=>by rcases List.mem_cons.1 hx with rfl|hx;exact ⟨by omega,by omega⟩;exact h.1 x hx,h.2⟩,fun h=>⟨fun x hx=>h.1 x (List.mem_cons_of_mem _ hx),h.2⟩⟩
theorem all_rows {α : Type} {rs : List (List α)} {n k : Int} (hl : (rs.length : Int) = n) (h : ∀ i : Nat,i < n.toNat → ((rs.getD i []).length : Int) = k) : ∀ r ∈ rs,(r.length : Int) = k:=by
 intro r hr
 obtain ⟨i,hi,rfl⟩:=List.getElem_of_mem hr
 have:=h i (by omega)
 rwa [List.getD_eq_getElem?_getD,List.getElem?_eq_getElem hi,Option.getD_some] at this
theorem tcheck_l0 {n k l s : Int} {nx : List (List Int)} {ou : List (List (List Int))} (n1 : 1 ≤ n) (n7 : n ≤ 7) (k1 : 1 ≤ k) (k3 : k ≤ 3) (hn : (nx.length : Int) = n) (ho : (ou.length : Int) = n) : ∀ (d i : Nat),i + d = n.toNat → (∀ j : Nat,j < i → ((nx.getD j []).length : Int) = k ∧ ((ou.getD j []).length : Int) = k) →
  ∃ e,Ev (fun q=>turner_Check.l0 q n (i : Int) n k l nx ou s) e ∧ (e = 0 ↔ (∀ j : Nat,j < n.toNat → ((nx.getD j []).length : Int) = k ∧ ((ou.getD j []).length : Int) = k) ∧ (∀ w ∈ ou.flatten,w.length ≤ 4) ∧ (∀ x ∈ nx.flatten ++ [s],0 ≤ x ∧ x < n) ∧ ∀ x ∈ ou.flatten.flatten,0 ≤ x ∧ x < l):=by
 intro d
 induction d with
 | zero =>
  intro i hi hg
  have hg2 : ∀ j : Nat,j < n.toNat → ((nx.getD j []).length : Int) = k ∧ ((ou.getD j []).length : Int) = k:=fun j hj=>hg j (by omega)
  have hf1:=flat_le (rs:=nx) (k:=3) (fun r hr=>by have:=all_rows hn (fun i hi=>(hg2 i hi).1) r hr;omega)
  have hf2:=flat_le (rs:=ou) (k:=3) (fun r hr=>by have:=all_rows ho (fun i hi=>(hg2 i hi).2) r hr;omega)
  have e1 : slices_Concat_int_int_13.f ou = some ou.flatten:=by unfold slices_Concat_int_int_13.f;rw [if_pos ⟨by omega,by omega⟩]
  have e2 : slices_Concat_int_int_16.f nx = some nx.flatten:=by unfold slices_Concat_int_int_16.f;rw [if_pos ⟨by omega,by omega⟩]
  by_cases c : ou.flatten.any (fun l=>decide ((l.length : Int) > 4)) = true
  ·refine ⟨1,Ev.step (fun q=>by rw [turner_Check.l0]) (Ev.neg (by omega) (Ev.bindc e1 (Ev.bindc rfl (Ev.pos c (Ev.now _))))),fun h=>absurd h (by decide),fun h=>?_⟩
   rw [List.any_eq_true] at c
   obtain ⟨w,hw,h2⟩:=c
   have:=h.2.1 w hw
   rw [decide_eq_true_iff] at h2
   omega
  ·have hsm : ∀ w ∈ ou.flatten,w.length ≤ 4:=fun w hw=>by
    rcases Nat.lt_or_ge 4 w.length with h3|h3
    ·exact absurd (List.any_eq_true.2 ⟨w,hw,decide_eq_true (show ((w.length : Int) > 4) by omega)⟩) c
    ·exact h3
   have hf3:=flat_le (rs:=ou.flatten) (k:=4) hsm
   obtain ⟨e,he,hie⟩:=tcheck_l1 (n:=n) (k:=k) (l:=l) (nx:=nx) (ou:=ou) (s:=s) (W:=ou.flatten) (by omega) hsm (by omega) (nx.flatten ++ [s]) (by rw [List.length_append,List.length_singleton];omega) (nx.flatten ++ [s]).length 0 (by omega)
   rw [List.drop_zero] at hie
   refine ⟨e,?_,?_⟩
   ·refine Ev.step (fun q=>by rw [turner_Check.l0]) ?_
    refine Ev.neg (by omega) ?_
    refine Ev.bindc e1 ?_
    refine Ev.bindc (a:=ou.flatten.any (fun l=>decide ((l.length : Int) > 4))) rfl ?_
    refine Ev.neg c ?_
    refine Ev.bindc e2 ?_
    refine Ev.let_ ?_
    refine Ev.pos (by rw [List.length_singleton];omega) ?_
    refine Ev.let_ ?_
    exact he
   rw [hie]
   exact ⟨fun h=>⟨hg2,hsm,h.1,h.2⟩,fun h=>⟨h.2.2.1,h.2.2.2⟩⟩
 | succ d ih =>
  intro i hi hg
  have pre : ∀ {r : Int},Ev (fun q=>if ((nx.getD i []).length : Int) = k then (if ((ou.getD i []).length : Int) = k then turner_Check.l0 q n ((i + 1 : Nat) : Int) n k l nx ou s else some 3) else some 3) r → Ev (fun q=>turner_Check.l0 q n (i : Int) n k l nx ou s) r:=by
   intro r h
   refine Ev.step (fun q=>by rw [turner_Check.l0]) ?_
   refine Ev.pos (by omega) (Ev.pos (by omega) (Ev.pos (by omega) ?_))
   rw [rdA_nat,rdB_nat,w64 (n:=(i : Int) + 1) (by omega) (by omega)]
   by_cases c : ((nx.getD i []).length : Int) = k
   ·refine Ev.pos c (Ev.pos (by omega) ?_)
    exact Ev.congr (fun _=>by rw [if_pos c];rfl) h
   ·refine Ev.neg c ?_
    exact Ev.congr (fun _=>by rw [if_neg c]) h
  by_cases c1 : ((nx.getD i []).length : Int) = k
  ·by_cases c2 : ((ou.getD i []).length : Int) = k
   ·obtain ⟨e,he,hie⟩:=ih (i + 1) (by omega) (fun j hj=>by
     by_cases c : j = i
     ·rw [c];exact ⟨c1,c2⟩
     ·exact hg j (by omega))
    exact ⟨e,pre (Ev.pos c1 (Ev.pos c2 he)),hie⟩
   ·exact ⟨3,pre (Ev.pos c1 (Ev.neg c2 (Ev.now _))),fun h=>absurd h (by decide),fun h=>absurd (h.1 i (by omega)).2 c2⟩
  ·exact ⟨3,pre (Ev.neg c1 (Ev.now _)),fun h=>absurd h (by decide),fun h=>absurd (h.1 i (by omega)).1 c1⟩
theorem good_of {n k l s : Int} {nx : List (List Int)} {ou : List (List (List Int))} (n1 : 1 ≤ n) (n7 : n ≤ 7) (k1 : 1 ≤ k) (k3 : k ≤ 3) (l1 : 1 ≤ l) (l3 : l ≤ 3) (hn : (nx.length : Int) = n) (ho : (ou.length : Int) = n) : ((∀ j : Nat,j < n.toNat → ((nx.getD j []).length : Int) = k ∧ ((ou.getD j []).length : Int) = k) ∧ (∀ w ∈ ou.flatten,w.length ≤ 4) ∧ (∀ x ∈ nx.flatten ++ [s],0 ≤ x ∧ x < n) ∧ ∀ x ∈ ou.flatten.flatten,0 ≤ x ∧ x < l) ↔ GoodT n k l nx ou s:=by
 constructor
 ·rintro ⟨h1,h2,h3,h4⟩
  have hs:=h3 s (by simp)
  exact ⟨n1,n7,k1,k3,l1,l3,hn,ho,h1,fun r hr w hw=>h2 w (List.mem_flatten.2 ⟨r,hr,hw⟩),fun r hr x hx=>h3 x (List.mem_append_left _ (List.mem_flatten.2 ⟨r,hr,hx⟩)),hs.1,hs.2,fun r hr w hw x hx=>h4 x (List.mem_flatten.2 ⟨w,List.mem_flatten.2 ⟨r,hr,hw⟩,hx⟩)⟩
 ·intro g
  refine ⟨g.row,fun w hw=>?_,fun x hx=>?_,fun x hx=>?_⟩
  ·obtain ⟨r,hr,hw⟩:=List.mem_flatten.1 hw
   exact g.small r hr w hw
  ·rcases List.mem_append.1 hx with hx|hx
   ·obtain ⟨r,hr,hx⟩:=List.mem_flatten.1 hx
    exact g.en r hr x hx
   ·rw [List.mem_singleton] at hx
    rw [hx]
    exact ⟨g.s0,g.s1⟩
  ·obtain ⟨w,hw,hx⟩:=List.mem_flatten.1 hx
   obtain ⟨r,hr,hw⟩:=List.mem_flatten.1 hw
   exact g.eo r hr w hw x hx
theorem tcheck_spec {n k l s : Int} {nx : List (List Int)} {ou : List (List (List Int))} : ∃ e,Ev (fun q=>turner_Check.f q n k l nx ou s) e ∧ (e = 0 ↔ GoodT n k l nx ou s):=by
 have one : Ev (fun q=>turner_Check.j0 q true n k l nx ou s) 1:=Ev.step (fun q=>by rw [turner_Check.j0]) (Ev.pos rfl (Ev.now _))
 have three : Ev (fun q=>turner_Check.j1 q true n k l nx ou s) 3:=Ev.step (fun q=>by rw [turner_Check.j1]) (Ev.pos rfl (Ev.now _))
 have emn : mn k l < 1 ↔ k < 1 ∨ l < 1:=by unfold mn;split <;> omega
 have emx : mx k l > 3 ↔ k > 3 ∨ l > 3:=by unfold mx;split <;> omega
 by_cases a1 : n < 1
 ·exact ⟨1,Ev.congr (fun q=>by rw [turner_Check.f]) (Ev.pos a1 one),fun h=>absurd h (by decide),fun h=>by have:=h.n1;omega⟩
 by_cases a2 : n > 7
 ·exact ⟨1,Ev.congr (fun q=>by rw [turner_Check.f]) (Ev.neg a1 (Ev.pos a2 one)),fun h=>absurd h (by decide),fun h=>by have:=h.n7;omega⟩
 by_cases a3 : mn k l < 1
 ·exact ⟨1,Ev.congr (fun q=>by rw [turner_Check.f]) (Ev.neg a1 (Ev.neg a2 (Ev.pos a3 one))),fun h=>absurd h (by decide),fun h=>by have:=h.k1;have:=h.l1;have:=emn.1 a3;omega⟩
 by_cases a4 : mx k l > 3
 ·refine ⟨1,Ev.congr (fun q=>by rw [turner_Check.f]) (Ev.neg a1 (Ev.neg a2 (Ev.neg a3 ?_))),fun h=>absurd h (by decide),fun h=>by have:=h.k3;have:=h.l3;have:=emx.1 a4;omega⟩
  rw [decide_eq_true a4]
  exact one
 have pre : ∀ {t : Bool} {r : Int},(nx.length : Int) = n ∧ t = ((ou.length : Int) != n) ∨ ¬ (nx.length : Int) = n ∧ t = true → Ev (fun q=>turner_Check.j1 q t n k l nx ou s) r → Ev (fun q=>turner_Check.f q n k l nx ou s) r:=by
  intro t r ht h
  refine Ev.congr (fun q=>by rw [turner_Check.f]) (Ev.neg a1 (Ev.neg a2 (Ev.neg a3 ?_)))
  rw [decide_eq_false a4]
  refine Ev.step (fun q=>by rw [turner_Check.j0]) (Ev.neg (by decide) ?_)
  rcases ht with ⟨h1,h2⟩|⟨h1,h2⟩
  ·refine Ev.pos h1 ?_
   rw [← h2]
   exact h
  ·refine Ev.neg h1 ?_
   rw [← h2]
   exact h
 by_cases a5 : (nx.length : Int) = n
 ·by_cases a6 : (ou.length : Int) = n
  ·rw [emn] at a3
   rw [emx] at a4
   obtain ⟨e,he,hie⟩:=tcheck_l0 (n:=n) (k:=k) (l:=l) (s:=s) (nx:=nx) (ou:=ou) (by omega) (by omega) (by omega) (by omega) a5 a6 n.toNat 0 (by omega) (fun j hj=>absurd hj (Nat.not_lt_zero _))
   refine ⟨e,pre (t:=false) (.inl ⟨a5,by simp [a6]⟩) ?_,?_⟩
   ·refine Ev.step (fun q=>by rw [turner_Check.j1]) ?_
    refine Ev.neg (by decide) ?_
    exact he
   rw [hie]
   exact good_of (by omega) (by omega) (by omega) (by omega) (by omega) (by omega) a5 a6
  ·exact ⟨3,pre (t:=true) (.inl ⟨a5,by simp [a6]⟩) three,fun h=>absurd h (by decide),fun h=>absurd h.lo a6⟩
 ·exact ⟨3,pre (t:=true) (.inr ⟨a5,rfl⟩) three,fun h=>absurd h (by decide),fun h=>absurd h.ln a5⟩
end Go.Proofs.Ytlkeemcapemkiaa.PAM

namespace Go.Proofs.Ytlkeemcapemkiaa.PAM
set_option linter.unusedVariables false
set_option linter.unusedSimpArgs false
open Go.RowKit Go.Proofs.Ytlkeemcapemkiaa.GA Go.Proofs.YtlkeemcapemkiaaW.PrintWords Go.Proofs.YtlkeemcapemkiaaW.PrintLast Go.Proofs.YtlkeemcapemkiaaW.PrintMore
def stepT (nx : List (List Int)) (a s : Int) : Int:=(nx.getD a.toNat []).getD s.toNat 0
def outS (ou : List (List (List Int))) (a s : Int) : List Int:=(ou.getD a.toNat []).getD s.toNat []
/-- Where a word leads,and what is written. -/
def leadsT (nx : List (List Int)) (a : Int) (w : List Int) : Int:=w.foldl (stepT nx) a
def outT (nx : List (List Int)) (ou : List (List (List Int))) : Int → List Int → List Int
 | _,[]=>[]
 | a,s :: w=>outS ou a s ++ outT nx ou (stepT nx a s) w
theorem stepT_in {n k l st : Int} {nx : List (List Int)} {ou : List (List (List Int))} (g : GoodT n k l nx ou st) {a s : Int} (ha : 0 ≤ a ∧ a < n) (hs : 0 ≤ s ∧ s < k) : (0 ≤ stepT nx a s ∧ stepT nx a s < n) ∧ (outS ou a s).length ≤ 4:=by
 have hln:=g.ln
 have hlo:=g.lo
 have hr:=g.row a.toNat (by omega)
 have m1 : nx.getD a.toNat [] ∈ nx:=getD_mem (by omega)
 have m2 : ou.getD a.toNat [] ∈ ou:=getD_mem (by omega)
 exact ⟨g.en _ m1 _ (getD_mem (by omega)),g.small _ m2 _ (getD_mem (by omega))⟩
theorem outT_app {nx : List (List Int)} {ou : List (List (List Int))} : ∀ {u v : List Int} {a : Int},outT nx ou a (u ++ v) = outT nx ou a u ++ outT nx ou (leadsT nx a u) v
 | [],v,a=>by rfl
 | s :: u,v,a=>by
  show outS ou a s ++ outT nx ou (stepT nx a s) (u ++ v) = (outS ou a s ++ outT nx ou (stepT nx a s) u) ++ outT nx ou (leadsT nx (stepT nx a s) u) v
  rw [outT_app,List.append_assoc]
theorem outT_len {n k l st : Int} {nx : List (List Int)} {ou : List (List (List Int))} (g : GoodT n k l nx ou st) : ∀ {w : List Int} {a : Int},(∀ s ∈ w,0 ≤ s ∧ s < k) → 0 ≤ a ∧ a < n → (outT nx ou a w).length ≤ 4 * w.length
 | [],a,_,_=>by simp [outT]
 | s :: w,a,hw,ha=>by
  have h1:=stepT_in g ha (hw s List.mem_cons_self)
  have h2:=outT_len g (w:=w) (fun x hx=>hw x (List.mem_cons_of_mem _ hx)) h1.1
  rw [outT,List.length_append,List.length_cons]
  have:=h1.2
  omega
theorem twrite_l0 {n k l st : Int} {nx : List (List Int)} {ou : List (List (List Int))} (g : GoodT n k l nx ou st) (w : List Int) (hw : GoodW k w) : ∀ (d i : Nat) (a : Int) (acc : List Int),i + d = w.length → 0 ≤ a ∧ a < n → acc.length ≤ 4 * i → Ev (fun q=>turner_write.l0 q a acc w (w.length : Int) (i : Int) n k l nx ou st) (acc ++ outT nx ou a (w.drop i),leadsT nx a (w.drop i)):=by
 have hwl:=hw.1
 have hk3:=g.k3
 have hln:=g.ln
 have hlo:=g.lo
 have hn7:=g.n7
 intro d
 induction d with
 | zero =>
  intro i a acc hi ha hl
  rw [List.drop_eq_nil_of_le (by omega)]
  refine Ev.step (fun q=>by rw [turner_write.l0]) (Ev.neg (by omega) (Ev.val ?_))
  rw [outT,List.append_nil]
  rfl
 | succ d ih =>
  intro i a acc hi ha hl
  have hlt : i < w.length:=by omega
  have hs:=hw.2 _ (getD_mem (d:=(0 : Int)) hlt)
  obtain ⟨A,rfl⟩:=Int.eq_ofNat_of_zero_le ha.1
  have hr:=g.row A (by omega)
  obtain ⟨h1,h2⟩:=stepT_in g ha hs
  rw [drop_cons hlt 0]
  refine Ev.step (fun q=>by rw [turner_write.l0]) (Ev.pos (by omega) (Ev.pos (by omega) (Ev.pos (by omega) (Ev.pos (by omega) (Ev.pos (by omega) ?_)))))
  rw [rd_nat,w64 (n:=(i : Int) + 1) (by omega) (by omega),rdB_nat,rdA_nat]
  generalize w.getD i 0 = s at *
  obtain ⟨S,rfl⟩:=Int.eq_ofNat_of_zero_le hs.1
  rw [rdA_nat,rd_nat]
  refine Ev.pos (by omega) (Ev.pos (by omega) ?_)
  have e1 : outS ou (A : Int) (S : Int) = (ou.getD A []).getD S []:=by unfold outS;rw [Int.toNat_natCast,Int.toNat_natCast]
  have e2 : stepT nx (A : Int) (S : Int) = (nx.getD A []).getD S 0:=by unfold stepT;rw [Int.toNat_natCast,Int.toNat_natCast]
  rw [e1] at h2
  refine Ev.pos (by omega) (Ev.pos (by omega) (Ev.pos (by omega) ?_))
  have h3:=ih (i + 1) (stepT nx (A : Int) (S : Int)) (acc ++ outS ou (A : Int) (S : Int)) (by omega) h1 (by rw [List.length_append,e1];omega)
  rw [List.append_assoc,e2,e1] at h3
  rw [outT,e1,e2]
  exact h3
theorem twrite_good {n k l st : Int} {nx : List (List Int)} {ou : List (List (List Int))} (g : GoodT n k l nx ou st) (w : List Int) (hw : GoodW k w) {a : Int} (ha : 0 ≤ a ∧ a < n) : Ev (fun q=>turner_write.f q n k l nx ou st a w) (outT nx ou a w,leadsT nx a w):=by
 refine Ev.congr (fun q=>by rw [turner_write.f]) ?_
 have:=twrite_l0 g w hw w.length 0 a [] (by omega) ha (by simp)
 rw [List.drop_zero,List.nil_append] at this
 exact this
theorem trun_good {n k l st : Int} {nx : List (List Int)} {ou : List (List (List Int))} (g : GoodT n k l nx ou st) (w : List Int) (hw : GoodW k w) : Ev (fun q=>turner_Run.f q n k l nx ou st w) (outT nx ou st w,0):=by
 obtain ⟨e,he,hi⟩:=tcheck_spec (n:=n) (k:=k) (l:=l) (nx:=nx) (ou:=ou) (s:=st)
 obtain ⟨e2,he2,hi2⟩:=words_spec k w
 refine Ev.congr (fun q=>by rw [turner_Run.f]) ?_
 refine Ev.bind he ?_
 refine Ev.pos (hi.2 g) ?_
 refine Ev.bindc he2 ?_
 refine Ev.pos (hi2.2 hw) ?_
 refine Ev.bind (twrite_good g w hw ⟨g.s0,g.s1⟩) ?_
 exact Ev.now _
theorem trun_bad {n k l st : Int} {nx : List (List Int)} {ou : List (List (List Int))} (w : List Int) (hn : ¬ (GoodT n k l nx ou st ∧ GoodW k w)) : ∃ e,e ≠ 0 ∧ Ev (fun q=>turner_Run.f q n k l nx ou st w) ([],e):=by
 obtain ⟨e,he,hi⟩:=tcheck_spec (n:=n) (k:=k) (l:=l) (nx:=nx) (ou:=ou) (s:=st)
 obtain ⟨e2,he2,hi2⟩:=words_spec k w
 by_cases c : e = 0
 ·have c2 : ¬ e2 = 0:=fun h=>hn ⟨hi.1 c,hi2.1 h⟩
  exact ⟨e2,c2,Ev.congr (fun q=>by rw [turner_Run.f]) (Ev.bind he (Ev.pos c (Ev.bindc he2 (Ev.neg c2 (Ev.now _)))))⟩
 ·exact ⟨e,c,Ev.congr (fun q=>by rw [turner_Run.f]) (Ev.bind he (Ev.neg c (Ev.now _)))⟩
end Go.Proofs.Ytlkeemcapemkiaa.PAM

namespace Go.Proofs.Ytlkeemcapemkiaa.PAM
set_option linter.unusedVariables false
set_option linter.unusedSimpArgs false
open Go.RowKit Go.Proofs.Ytlkeemcapemkiaa.GA Go.Proofs.YtlkeemcapemkiaaW.PrintWords Go.Proofs.YtlkeemcapemkiaaW.PrintLast Go.Proofs.YtlkeemcapemkiaaW.PrintMore
abbrev R7:=Int × Int × Int × List (List Int) × List (List (List Int)) × Int × Int
/-- Too long an output. -/
def badT : R7:=(0,0,0,[],[],0,1)
def tabAt {α : Type} (f : Nat → Nat → α) (bn : Nat) : Nat → List α
 | 0=>[]
 | c + 1=>tabAt f bn c ++ [f (c / bn) (c % bn)]
theorem tab_inv {α : Type} (f : Nat → Nat → α) (bn : Nat) (z : α) : ∀ c,(tabAt f bn c).length = c ∧ ∀ p,p < c → (tabAt f bn c).getD p z = f (p / bn) (p % bn)
 | 0=>⟨rfl,fun p hp=>absurd hp (Nat.not_lt_zero _)⟩
 | c + 1=>by
  obtain ⟨h1,h2⟩:=tab_inv f bn z c
  refine ⟨by rw [tabAt,List.length_append,h1];rfl,fun p hp=>?_⟩
  rw [tabAt]
  rcases Nat.lt_or_ge p c with hc|hc
  ·rw [← h2 p hc,List.getD_eq_getElem?_getD,List.getElem?_append_left (by omega),List.getD_eq_getElem?_getD]
  ·obtain rfl : p = c:=by omega
   rw [List.getD_eq_getElem?_getD,List.getElem?_append_right (by omega),h1]
   simp
theorem leadsT_in {n k l st : Int} {nx : List (List Int)} {ou : List (List (List Int))} (g : GoodT n k l nx ou st) : ∀ {w : List Int} {a : Int},(∀ s ∈ w,0 ≤ s ∧ s < k) → 0 ≤ a ∧ a < n → 0 ≤ leadsT nx a w ∧ leadsT nx a w < n
 | [],a,_,ha=>ha
 | s :: w,a,hw,ha=>leadsT_in g (w:=w) (fun x hx=>hw x (List.mem_cons_of_mem _ hx)) (stepT_in g ha (hw s List.mem_cons_self)).1
theorem outS_in {n k l st : Int} {nx : List (List Int)} {ou : List (List (List Int))} (g : GoodT n k l nx ou st) {a s : Int} (ha : 0 ≤ a ∧ a < n) (hs : 0 ≤ s ∧ s < k) : ∀ x ∈ outS ou a s,0 ≤ x ∧ x < l:=by
 have hlo:=g.lo
 have hr:=(g.row a.toNat (by omega)).2
 have m1 : ou.getD a.toNat [] ∈ ou:=getD_mem (by omega)
 have m2 : (ou.getD a.toNat []).getD s.toNat [] ∈ ou.getD a.toNat []:=getD_mem (by omega)
 exact fun x hx=>g.eo _ m1 _ m2 x hx
theorem outT_in {n k l st : Int} {nx : List (List Int)} {ou : List (List (List Int))} (g : GoodT n k l nx ou st) : ∀ {w : List Int} {a : Int},(∀ s ∈ w,0 ≤ s ∧ s < k) → 0 ≤ a ∧ a < n → ∀ x ∈ outT nx ou a w,0 ≤ x ∧ x < l
 | [],a,_,_,x,hx=>absurd hx (by simp [outT])
 | s :: w,a,hw,ha,x,hx=>by
  have hs:=hw s List.mem_cons_self
  rw [outT] at hx
  rcases List.mem_append.1 hx with hx|hx
  ·exact outS_in g ha hs x hx
  ·exact outT_in g (w:=w) (fun x hx=>hw x (List.mem_cons_of_mem _ hx)) (stepT_in g ha hs).1 x hx
section
variable {an ak al as_ bn bk bl bs : Int} {ax bx : List (List Int)} {ao bo : List (List (List Int))}
def stepQ (ax bx : List (List Int)) (ao : List (List (List Int))) (bn : Int) (i j s : Nat) : Int:=stepT ax i s * bn + leadsT bx j (outS ao i s)
def outQ (bx : List (List Int)) (ao bo : List (List (List Int))) (i j s : Nat) : List Int:=outT bx bo j (outS ao i s)
def rowQ (ax bx : List (List Int)) (ao : List (List (List Int))) (bn : Int) (kn i j : Nat) : List Int:=(List.range' 0 kn).map fun s : Nat=>stepQ ax bx ao bn i j s
def rowO (bx : List (List Int)) (ao bo : List (List (List Int))) (kn i j : Nat) : List (List Int):=(List.range' 0 kn).map fun s : Nat=>outQ bx ao bo i j s
theorem then_l2 (ga : GoodT an ak al ax ao as_) (gb : GoodT bn bk bl bx bo bs) (hk : al = bk) (hn : an * bn ≤ 7) (i : Nat) (hi : (i : Int) < an) (j : Nat) (hj : (j : Int) < bn) (x60 x61 x65 tn tk tl ts : Int) (tx : List (List Int)) (tou : List (List (List Int))) : ∀ (d s : Nat) (acc : List Int) (aco : List (List Int)),(s : Int) + d = ak → acc.length = s → aco.length = s →
  Ev (fun q=>turner_Then.l2 q (i : Int) (j : Int) acc aco x60 x61 x65 (j : Int) ak (s : Int) an ak al ax ao as_ bn bk bl bx bo bs tn tk tl tx tou ts) badT ∨
  ((∀ t : Nat,s ≤ t → (t : Int) < ak → (outQ bx ao bo i j t).length ≤ 4) ∧ ∀ r : R7,Ev (fun q=>turner_Then.l2 q (i : Int) (j : Int) (acc ++ (List.range' s d).map fun t : Nat=>stepQ ax bx ao bn i j t) (aco ++ (List.range' s d).map fun t : Nat=>outQ bx ao bo i j t) x60 x61 x65 (j : Int) ak ak an ak al ax ao as_ bn bk bl bx bo bs tn tk tl tx tou ts) r →
   Ev (fun q=>turner_Then.l2 q (i : Int) (j : Int) acc aco x60 x61 x65 (j : Int) ak (s : Int) an ak al ax ao as_ bn bk bl bx bo bs tn tk tl tx tou ts) r):=by
 have q1:=ga.n1;have q2:=ga.n7;have q3:=ga.k3;have q4:=ga.lo;have q5:=ga.ln;have q6:=gb.n1;have q7:=gb.n7
 intro d
 induction d with
 | zero =>
  intro s acc aco hs h1 h2
  right
  refine ⟨fun t a b=>by omega,fun r h=>?_⟩
  rw [show ak = (s : Int) by omega] at h ⊢
  simpa using h
 | succ d ih =>
  intro s acc aco hs h1 h2
  have hi2 : 0 ≤ (i : Int) ∧ (i : Int) < an:=⟨by omega,hi⟩
  have hs2 : 0 ≤ (s : Int) ∧ (s : Int) < ak:=⟨by omega,by omega⟩
  have hj2 : 0 ≤ (j : Int) ∧ (j : Int) < bn:=⟨by omega,hj⟩
  have hr:=ga.row i (by omega)
  have hst:=stepT_in ga hi2 hs2
  have hos:=outS_in ga hi2 hs2
  have eO : outS ao (i : Int) (s : Int) = (ao.getD i []).getD s []:=by unfold outS;rw [Int.toNat_natCast,Int.toNat_natCast]
  have hwr:=twrite_good gb (outS ao i s) ⟨by have:=hst.2;omega,fun x hx=>by rw [← hk];exact hos x hx⟩ hj2
  have hld:=leadsT_in gb (w:=outS ao i s) (a:=(j : Int)) (fun x hx=>by rw [← hk];exact hos x hx) hj2
  have hm : 0 ≤ stepT ax i s * bn ∧ stepT ax i s * bn ≤ 49:=⟨Int.mul_nonneg hst.1.1 (by omega),by have : stepT ax i s * bn ≤ 7 * 7:=Int.mul_le_mul (by omega) (by omega) (by omega) (by omega);omega⟩
  have pre : ∀ {r : R7},Ev (fun q=>if ((outQ bx ao bo i j s).length : Int) > 4 then some badT else turner_Then.l2 q (i : Int) (j : Int) (acc ++ [stepQ ax bx ao bn i j s]) (aco ++ [outQ bx ao bo i j s]) x60 x61 x65 (j : Int) ak ((s + 1 : Nat) : Int) an ak al ax ao as_ bn bk bl bx bo bs tn tk tl tx tou ts) r →
    Ev (fun q=>turner_Then.l2 q (i : Int) (j : Int) acc aco x60 x61 x65 (j : Int) ak (s : Int) an ak al ax ao as_ bn bk bl bx bo bs tn tk tl tx tou ts) r:=by
   intro r h
   refine Ev.step (fun q=>by rw [turner_Then.l2]) (Ev.pos (by omega) (Ev.pos (by omega) (Ev.pos (by omega) (Ev.pos (by omega) ?_))))
   rw [rdB_nat,rdA_nat]
   refine Ev.pos (by omega) ?_
   rw [← eO]
   refine Ev.bind hwr ?_
   by_cases c : ((outQ bx ao bo i j s).length : Int) > 4
   ·have h3 : Ev (fun q=>some badT) r:=by
     refine Ev.congr (fun q=>?_) h
     rw [if_pos c]
    exact Ev.pos c h3
   ·refine Ev.neg c ?_
    refine Ev.pos (by omega) ?_
    rw [rdA_nat]
    refine Ev.pos (by omega) ?_
    rw [show rd (ax.getD i []) (s : Int) = stepT ax i s from rfl,w64 (n:=stepT ax i s * bn) (by omega) (by omega),w64 (n:=stepT ax i s * bn + leadsT bx j (outS ao i s)) (by omega) (by omega),w64 (n:=(s : Int) + 1) (by omega) (by omega)]
    refine Ev.bindc rfl (Ev.pos (by rw [List.length_singleton];omega) (Ev.bindc rfl (Ev.pos (by rw [List.length_singleton];omega) ?_)))
    refine Ev.congr (fun q=>?_) h
    rw [if_neg c]
    rfl
  by_cases c : ((outQ bx ao bo i j s).length : Int) > 4
  ·exact .inl (pre (Ev.pos c (Ev.now _)))
  ·rcases ih (s + 1) (acc ++ [stepQ ax bx ao bn i j s]) (aco ++ [outQ bx ao bo i j s]) (by omega) (by rw [List.length_append,h1];rfl) (by rw [List.length_append,h2];rfl) with h3|⟨h3,h4⟩
   ·exact .inl (pre (Ev.neg c h3))
   ·right
    refine ⟨fun t t0 t1=>?_,fun r h=>pre (Ev.neg c (h4 r ?_))⟩
    ·rcases Nat.eq_or_lt_of_le t0 with e|e
     ·subst e;omega
     ·exact h3 t e t1
    ·rw [List.range'_succ,List.map_cons,List.map_cons] at h
     rw [List.append_assoc,List.append_assoc]
     exact h
theorem then_l1 (ga : GoodT an ak al ax ao as_) (gb : GoodT bn bk bl bx bo bs) (hk : al = bk) (hn : an * bn ≤ 7) (tn tk tl ts : Int) (i : Nat) (hi : (i : Int) < an) : ∀ (d j : Nat),(j : Int) + d = bn →
  Ev (fun q=>turner_Then.l1 q (i : Int) an (i : Int) bn (j : Int) an ak al ax ao as_ bn bk bl bx bo bs tn tk tl (tabAt (rowQ ax bx ao bn ak.toNat) bn.toNat (i * bn.toNat + j)) (tabAt (rowO bx ao bo ak.toNat) bn.toNat (i * bn.toNat + j)) ts) badT ∨
  ((∀ j' t : Nat,j ≤ j' → (j' : Int) < bn → (t : Int) < ak → (outQ bx ao bo i j' t).length ≤ 4) ∧ ∀ r : R7,Ev (fun q=>turner_Then.l0 q an ((i + 1 : Nat) : Int) an ak al ax ao as_ bn bk bl bx bo bs tn tk tl (tabAt (rowQ ax bx ao bn ak.toNat) bn.toNat ((i + 1) * bn.toNat)) (tabAt (rowO bx ao bo ak.toNat) bn.toNat ((i + 1) * bn.toNat)) ts) r →
   Ev (fun q=>turner_Then.l1 q (i : Int) an (i : Int) bn (j : Int) an ak al ax ao as_ bn bk bl bx bo bs tn tk tl (tabAt (rowQ ax bx ao bn ak.toNat) bn.toNat (i * bn.toNat + j)) (tabAt (rowO bx ao bo ak.toNat) bn.toNat (i * bn.toNat + j)) ts) r):=by
 have q1:=ga.n1;have q2:=ga.n7;have q3:=ga.k3;have q4:=ga.k1;have q6:=gb.n1;have q7:=gb.n7
 intro d
 induction d with
 | zero =>
  intro j hj
  right
  refine ⟨fun j' t a b=>by omega,fun r h=>?_⟩
  refine Ev.step (fun q=>by rw [turner_Then.l1]) (Ev.neg (by omega) ?_)
  rw [Nat.succ_mul] at h
  rw [show j = bn.toNat by omega,w64 (n:=(i : Int) + 1) (by omega) (by omega)]
  exact h
 | succ d ih =>
  intro j hj
  have hjl : j < bn.toNat:=by omega
  have hc : i * bn.toNat + j < 7:=by
   have h1 : ((i : Int) + 1) * bn ≤ an * bn:=Int.mul_le_mul_of_nonneg_right (by omega) (by omega)
   have h2 : (((i + 1) * bn.toNat : Nat) : Int) ≤ 7:=by
    rw [Int.natCast_mul,show ((bn.toNat : Nat) : Int) = bn by omega]
    push_cast
    omega
   rw [Nat.succ_mul] at h2
   omega
  have hrl:=(tab_inv (rowQ ax bx ao bn ak.toNat) bn.toNat [] (i * bn.toNat + j)).1
  have hol:=(tab_inv (rowO bx ao bo ak.toNat) bn.toNat [] (i * bn.toNat + j)).1
  have e1 : (i * bn.toNat + j) / bn.toNat = i:=by rw [Nat.mul_comm,Nat.mul_add_div (by omega),Nat.div_eq_of_lt hjl,Nat.add_zero]
  have e2 : (i * bn.toNat + j) % bn.toNat = j:=by rw [Nat.mul_comm,Nat.mul_add_mod,Nat.mod_eq_of_lt hjl]
  have hnext:=ih (j + 1) (by omega)
  rw [show i * bn.toNat + (j + 1) = i * bn.toNat + j + 1 from rfl,tabAt,tabAt,e1,e2] at hnext
  generalize tabAt (rowQ ax bx ao bn ak.toNat) bn.toNat (i * bn.toNat + j) = rows at *
  generalize tabAt (rowO bx ao bo ak.toNat) bn.toNat (i * bn.toNat + j) = outs at *
  have pre : ∀ {r : R7},Ev (fun q=>turner_Then.l2 q (i : Int) (j : Int) [] [] an (i : Int) bn (j : Int) ak ((0 : Nat) : Int) an ak al ax ao as_ bn bk bl bx bo bs tn tk tl rows outs ts) r → Ev (fun q=>turner_Then.l1 q (i : Int) an (i : Int) bn (j : Int) an ak al ax ao as_ bn bk bl bx bo bs tn tk tl rows outs ts) r:=by
   intro r h
   refine Ev.step (fun q=>by rw [turner_Then.l1]) (Ev.pos (by omega) ?_)
   exact h
  rcases then_l2 ga gb hk hn i hi j (by omega) an i bn tn tk tl ts rows outs ak.toNat 0 [] [] (by omega) rfl rfl with h3|⟨h3,h4⟩
  ·exact .inl (pre h3)
  ·have post : ∀ {r : R7},Ev (fun q=>turner_Then.l1 q (i : Int) an (i : Int) bn ((j + 1 : Nat) : Int) an ak al ax ao as_ bn bk bl bx bo bs tn tk tl (rows ++ [rowQ ax bx ao bn ak.toNat i j]) (outs ++ [rowO bx ao bo ak.toNat i j]) ts) r → Ev (fun q=>turner_Then.l1 q (i : Int) an (i : Int) bn (j : Int) an ak al ax ao as_ bn bk bl bx bo bs tn tk tl rows outs ts) r:=by
    intro r h
    refine pre (h4 r ?_)
    refine Ev.step (fun q=>by rw [turner_Then.l2]) (Ev.neg (by omega) ?_)
    rw [List.nil_append,List.nil_append,w64 (n:=(j : Int) + 1) (by omega) (by omega)]
    refine Ev.bindc rfl (Ev.pos (by rw [List.length_singleton];omega) (Ev.bindc rfl (Ev.pos (by rw [List.length_singleton];omega) ?_)))
    exact h
   rcases hnext with h5|⟨h5,h6⟩
   ·exact .inl (post h5)
   ·right
    refine ⟨fun j' t a b c=>?_,fun r h=>post (h6 r h)⟩
    rcases Nat.eq_or_lt_of_le a with e|e
    ·subst e;exact h3 t (Nat.zero_le _) c
    ·exact h5 j' t e b c
theorem then_l0 (ga : GoodT an ak al ax ao as_) (gb : GoodT bn bk bl bx bo bs) (hk : al = bk) (hn : an * bn ≤ 7) (tn tk tl ts : Int) : ∀ (d i : Nat),(i : Int) + d = an →
  Ev (fun q=>turner_Then.l0 q an (i : Int) an ak al ax ao as_ bn bk bl bx bo bs tn tk tl (tabAt (rowQ ax bx ao bn ak.toNat) bn.toNat (i * bn.toNat)) (tabAt (rowO bx ao bo ak.toNat) bn.toNat (i * bn.toNat)) ts) badT ∨
  ((∀ i' j' t : Nat,i ≤ i' → (i' : Int) < an → (j' : Int) < bn → (t : Int) < ak → (outQ bx ao bo i' j' t).length ≤ 4) ∧
   Ev (fun q=>turner_Then.l0 q an (i : Int) an ak al ax ao as_ bn bk bl bx bo bs tn tk tl (tabAt (rowQ ax bx ao bn ak.toNat) bn.toNat (i * bn.toNat)) (tabAt (rowO bx ao bo ak.toNat) bn.toNat (i * bn.toNat)) ts)
    (tn,tk,tl,tabAt (rowQ ax bx ao bn ak.toNat) bn.toNat (an.toNat * bn.toNat),tabAt (rowO bx ao bo ak.toNat) bn.toNat (an.toNat * bn.toNat),ts,0)):=by
 have q1:=ga.n1;have q2:=ga.n7;have q6:=gb.n1
 intro d
 induction d with
 | zero =>
  intro i hi
  right
  rw [show an.toNat = i by omega]
  exact ⟨fun i' j' t a b=>by omega,Ev.step (fun q=>by rw [turner_Then.l0]) (Ev.neg (by omega) (Ev.now _))⟩
 | succ d ih =>
  intro i hi
  have pre : ∀ {r : R7},Ev (fun q=>turner_Then.l1 q (i : Int) an (i : Int) bn ((0 : Nat) : Int) an ak al ax ao as_ bn bk bl bx bo bs tn tk tl (tabAt (rowQ ax bx ao bn ak.toNat) bn.toNat (i * bn.toNat)) (tabAt (rowO bx ao bo ak.toNat) bn.toNat (i * bn.toNat)) ts) r → Ev (fun q=>turner_Then.l0 q an (i : Int) an ak al ax ao as_ bn bk bl bx bo bs tn tk tl (tabAt (rowQ ax bx ao bn ak.toNat) bn.toNat (i * bn.toNat)) (tabAt (rowO bx ao bo ak.toNat) bn.toNat (i * bn.toNat)) ts) r:=by
   intro r h
   refine Ev.step (fun q=>by rw [turner_Then.l0]) (Ev.pos (by omega) ?_)
   exact h
  rcases then_l1 ga gb hk hn tn tk tl ts i (by omega) bn.toNat 0 (by omega) with h3|⟨h3,h4⟩
  ·exact .inl (pre h3)
  ·rcases ih (i + 1) (by omega) with h5|⟨h5,h6⟩
   ·exact .inl (pre (h4 _ h5))
   ·right
    refine ⟨fun i' j' t a b c e=>?_,pre (h4 _ h6)⟩
    rcases Nat.eq_or_lt_of_le a with e2|e2
    ·subst e2;exact h3 j' t (Nat.zero_le _) c e
    ·exact h5 i' j' t e2 b c e
theorem then_pairs (ga : GoodT an ak al ax ao as_) (gb : GoodT bn bk bl bx bo bs) (hk : al = bk) (hn : an * bn ≤ 7) :
  Ev (fun q=>turner_Then.f q an ak al ax ao as_ bn bk bl bx bo bs) badT ∨
  ∃ (rows : List (List Int)) (outs : List (List (List Int))),Ev (fun q=>turner_Then.f q an ak al ax ao as_ bn bk bl bx bo bs) (an * bn,ak,bl,rows,outs,as_ * bn + bs,0) ∧ GoodT (an * bn) ak bl rows outs (as_ * bn + bs) ∧
   (∀ i j s : Int,0 ≤ i → i < an → 0 ≤ j → j < bn → 0 ≤ s → s < ak → stepT rows (i * bn + j) s = stepT ax i s * bn + leadsT bx j (outS ao i s) ∧ outS outs (i * bn + j) s = outT bx bo j (outS ao i s)):=by
 have q1:=ga.n1;have q2:=ga.n7;have q3:=ga.k1;have q4:=ga.k3;have q5:=ga.ln;have q5b:=ga.lo;have q6:=gb.n1;have q7:=gb.n7;have q8:=gb.ln;have q9:=ga.s0;have q10:=ga.s1;have q11:=gb.s0;have q12:=gb.s1
 obtain ⟨e,he,hie⟩:=tcheck_spec (n:=an) (k:=ak) (l:=al) (nx:=ax) (ou:=ao) (s:=as_)
 obtain ⟨e2,he2,hie2⟩:=tcheck_spec (n:=bn) (k:=bk) (l:=bl) (nx:=bx) (ou:=bo) (s:=bs)
 have hin : ∀ i j : Int,0 ≤ i → i < an → 0 ≤ j → j < bn → 0 ≤ i * bn ∧ i * bn + j < an * bn:=fun i j i0 i1 j0 j1=>by
  have h1 : (i + 1) * bn ≤ an * bn:=Int.mul_le_mul_of_nonneg_right (by omega) (by omega)
  rw [Int.add_mul] at h1
  exact ⟨Int.mul_nonneg i0 (by omega),by omega⟩
 have hs:=hin as_ bs q9 q10 q11 q12
 have pre : ∀ {r : R7},Ev (fun q=>turner_Then.l0 q an ((0 : Nat) : Int) an ak al ax ao as_ bn bk bl bx bo bs (an * bn) ak bl (tabAt (rowQ ax bx ao bn ak.toNat) bn.toNat (0 * bn.toNat)) (tabAt (rowO bx ao bo ak.toNat) bn.toNat (0 * bn.toNat)) (as_ * bn + bs)) r → Ev (fun q=>turner_Then.f q an ak al ax ao as_ bn bk bl bx bo bs) r:=by
  intro r h
  rw [Nat.zero_mul] at h
  refine Ev.congr (fun q=>by rw [turner_Then.f]) ?_
  refine Ev.bind he ?_
  refine Ev.pos (hie.2 ga) ?_
  refine Ev.bind he2 ?_
  refine Ev.pos (hie2.2 gb) ?_
  refine Ev.pos hk ?_
  rw [w64 (n:=an * bn) (by omega) (by omega),w64 (n:=as_ * bn) (by omega) (by omega),w64 (n:=as_ * bn + bs) (by omega) (by omega)]
  refine Ev.neg (by omega) ?_
  exact h
 rcases then_l0 ga gb hk hn (an * bn) ak bl (as_ * bn + bs) an.toNat 0 (by omega) with h|⟨hsm,h⟩
 ·exact .inl (pre h)
 right
 obtain ⟨i1,i2⟩:=tab_inv (rowQ ax bx ao bn ak.toNat) bn.toNat [] (an.toNat * bn.toNat)
 obtain ⟨i3,i4⟩:=tab_inv (rowO bx ao bo ak.toNat) bn.toNat [] (an.toNat * bn.toNat)
 refine ⟨_,_,pre h,?_⟩
 obtain ⟨AN,rfl⟩:=Int.eq_ofNat_of_zero_le (show 0 ≤ an by omega)
 obtain ⟨BN,rfl⟩:=Int.eq_ofNat_of_zero_le (show 0 ≤ bn by omega)
 obtain ⟨KN,rfl⟩:=Int.eq_ofNat_of_zero_le (show 0 ≤ ak by omega)
 simp only [Int.toNat_natCast] at i1 i2 i3 i4 ⊢
 clear pre h
 have hn' : AN * BN ≤ 7:=by exact_mod_cast hn
 generalize tabAt (rowQ ax bx ao (BN : Int) KN) BN (AN * BN) = rows at *
 generalize tabAt (rowO bx ao bo KN) BN (AN * BN) = outs at *
 have hrow : ∀ p,p < AN * BN → p / BN < AN ∧ p % BN < BN:=fun p hp=>⟨Nat.div_lt_of_lt_mul (by rw [Nat.mul_comm];exact hp),Nat.mod_lt _ (by omega)⟩
 have key : ∀ i j : Int,0 ≤ i → i < (AN : Int) → 0 ≤ j → j < (BN : Int) → ∃ I J : Nat,i = I ∧ j = J ∧ (i * (BN : Int) + j).toNat = I * BN + J ∧ I * BN + J < AN * BN ∧ (I * BN + J) / BN = I ∧ (I * BN + J) % BN = J:=fun i j i0 ih j0 jh=>by
  obtain ⟨I,rfl⟩:=Int.eq_ofNat_of_zero_le i0
  obtain ⟨J,rfl⟩:=Int.eq_ofNat_of_zero_le j0
  have hJ : J < BN:=by omega
  refine ⟨I,J,rfl,rfl,?_,?_,?_,?_⟩
  ·rw [← Int.natCast_mul,← Int.natCast_add,Int.toNat_natCast]
  ·have:=(hin I J i0 ih j0 jh).2
   rw [← Int.natCast_mul,← Int.natCast_add,← Int.natCast_mul] at this
   exact_mod_cast this
  ·rw [Nat.mul_comm,Nat.mul_add_div (by omega),Nat.div_eq_of_lt hJ,Nat.add_zero]
  ·rw [Nat.mul_comm,Nat.mul_add_mod,Nat.mod_eq_of_lt hJ]
 have hstep : ∀ i j s : Int,0 ≤ i → i < (AN : Int) → 0 ≤ j → j < (BN : Int) → 0 ≤ s → s < (KN : Int) → stepT rows (i * BN + j) s = stepT ax i s * BN + leadsT bx j (outS ao i s) ∧ outS outs (i * BN + j) s = outT bx bo j (outS ao i s):=fun i j s i0 ih j0 jh s0 sh=>by
  obtain ⟨I,J,rfl,rfl,e1,e2,e3,e4⟩:=key i j i0 ih j0 jh
  obtain ⟨s',rfl⟩:=Int.eq_ofNat_of_zero_le s0
  refine ⟨?_,?_⟩
  ·rw [stepT,e1,i2 _ e2,e3,e4,rowQ,Int.toNat_natCast,List.getD_eq_getElem?_getD,List.getElem?_map,List.getElem?_range' (by omega)]
   simp [stepQ]
  ·rw [outS,e1,i4 _ e2,e3,e4,rowO,Int.toNat_natCast,List.getD_eq_getElem?_getD,List.getElem?_map,List.getElem?_range' (by omega)]
   simp [outQ]
 have hmem : ∀ l ∈ rows,∃ p,p < AN * BN ∧ l = rowQ ax bx ao BN KN (p / BN) (p % BN):=fun l hl=>by
  obtain ⟨p,hp,rfl⟩:=List.getElem_of_mem hl
  refine ⟨p,by omega,?_⟩
  rw [← i2 p (by omega),List.getD_eq_getElem?_getD,List.getElem?_eq_getElem hp,Option.getD_some]
 have hmemO : ∀ l ∈ outs,∃ p,p < AN * BN ∧ l = rowO bx ao bo KN (p / BN) (p % BN):=fun l hl=>by
  obtain ⟨p,hp,rfl⟩:=List.getElem_of_mem hl
  refine ⟨p,by omega,?_⟩
  rw [← i4 p (by omega),List.getD_eq_getElem?_getD,List.getElem?_eq_getElem hp,Option.getD_some]
 refine ⟨⟨?_,hn,q3,q4,gb.l1,gb.l3,?_,?_,fun p hp=>?_,?_,?_,?_,hs.2,?_⟩,hstep⟩
 ·rw [← Int.natCast_mul]
  have : 1 * 1 ≤ AN * BN:=Nat.mul_le_mul (by omega) (by omega)
  omega
 ·rw [i1,Int.natCast_mul]
 ·rw [i3,Int.natCast_mul]
 ·rw [← Int.natCast_mul,Int.toNat_natCast] at hp
  rw [i2 p hp,i4 p hp]
  simp [rowQ,rowO]
 ·intro l hl w hw
  obtain ⟨p,hp,rfl⟩:=hmemO l hl
  obtain ⟨h1,h2⟩:=hrow p hp
  rw [rowO,List.mem_map] at hw
  obtain ⟨s,hs',rfl⟩:=hw
  rw [List.mem_range'_1] at hs'
  exact hsm _ _ s (Nat.zero_le _) (Int.ofNat_lt.2 h1) (Int.ofNat_lt.2 h2) (by omega)
 ·intro l hl x hx
  obtain ⟨p,hp,rfl⟩:=hmem l hl
  obtain ⟨h1,h2⟩:=hrow p hp
  rw [rowQ,List.mem_map] at hx
  obtain ⟨s,hs',rfl⟩:=hx
  rw [List.mem_range'_1] at hs'
  have pi : 0 ≤ ((p / BN : Nat) : Int) ∧ ((p / BN : Nat) : Int) < (AN : Int):=⟨Int.natCast_nonneg _,Int.ofNat_lt.2 h1⟩
  have ps : 0 ≤ (s : Int) ∧ (s : Int) < (KN : Int):=⟨by omega,by omega⟩
  have a:=(stepT_in ga pi ps).1
  have b:=leadsT_in gb (w:=outS ao (p / BN : Nat) s) (a:=(p % BN : Nat)) (fun x hx=>by rw [← hk];exact outS_in ga pi ps x hx) ⟨Int.natCast_nonneg _,Int.ofNat_lt.2 h2⟩
  obtain ⟨u0,u1⟩:=hin _ _ a.1 a.2 b.1 b.2
  exact ⟨Int.add_nonneg u0 b.1,u1⟩
 ·have:=Int.mul_nonneg q9 (show (0 : Int) ≤ BN by omega);omega
 ·intro l hl w hw x hx
  obtain ⟨p,hp,rfl⟩:=hmemO l hl
  obtain ⟨h1,h2⟩:=hrow p hp
  rw [rowO,List.mem_map] at hw
  obtain ⟨s,hs',rfl⟩:=hw
  rw [List.mem_range'_1] at hs'
  have pi : 0 ≤ ((p / BN : Nat) : Int) ∧ ((p / BN : Nat) : Int) < (AN : Int):=⟨Int.natCast_nonneg _,Int.ofNat_lt.2 h1⟩
  have ps : 0 ≤ (s : Int) ∧ (s : Int) < (KN : Int):=⟨by omega,by omega⟩
  exact outT_in gb (w:=outS ao (p / BN : Nat) s) (a:=(p % BN : Nat)) (fun x hx=>by rw [← hk];exact outS_in ga pi ps x hx) ⟨Int.natCast_nonneg _,Int.ofNat_lt.2 h2⟩ x hx
theorem then_out {rows : List (List Int)} {outs : List (List (List Int))} (ga : GoodT an ak al ax ao as_) (gb : GoodT bn bk bl bx bo bs) (hk : al = bk)
  (h : ∀ i j s : Int,0 ≤ i → i < an → 0 ≤ j → j < bn → 0 ≤ s → s < ak → stepT rows (i * bn + j) s = stepT ax i s * bn + leadsT bx j (outS ao i s) ∧ outS outs (i * bn + j) s = outT bx bo j (outS ao i s)) : ∀ (w : List Int) (i j : Int),(∀ s ∈ w,0 ≤ s ∧ s < ak) → 0 ≤ i ∧ i < an → 0 ≤ j ∧ j < bn → outT rows outs (i * bn + j) w = outT bx bo j (outT ax ao i w)
 | [],i,j,_,_,_=>rfl
 | s :: w,i,j,hw,hi,hj=>by
  have hs:=hw s List.mem_cons_self
  have h1:=(stepT_in ga hi hs).1
  have h2:=leadsT_in gb (w:=outS ao i s) (fun x hx=>by rw [← hk];exact outS_in ga hi hs x hx) hj
  obtain ⟨e1,e2⟩:=h i j s hi.1 hi.2 hj.1 hj.2 hs.1 hs.2
  rw [outT,outT,e1,e2,then_out ga gb hk h w _ _ (fun x hx=>hw x (List.mem_cons_of_mem _ hx)) h1 h2,outT_app]
end
end Go.Proofs.Ytlkeemcapemkiaa.PAM

namespace Go.Proofs.Ytlkeemcapemkiaa.PAM
set_option linter.unusedVariables false
set_option linter.unusedSimpArgs false
open Go.RowKit Go.Proofs.Ytlkeemcapemkiaa.GA Go.Proofs.YtlkeemcapemkiaaW.PrintWords Go.Proofs.YtlkeemcapemkiaaW.PrintLast Go.Proofs.YtlkeemcapemkiaaW.PrintMore
def offB (m : Int) (x : Int) : Bool:=decide (x < 0) || decide (x ≥ m)
theorem offB_iff {m x : Int} : offB m x = false ↔ 0 ≤ x ∧ x < m:=by
 unfold offB
 rw [Bool.or_eq_false_iff,decide_eq_false_iff_not,decide_eq_false_iff_not]
 omega
def rowOff (n l : Int) (nx : List (List Int)) (ou : List (List (List Int))) (i s : Nat) : Bool:=offB n ((nx.getD i []).getD s 0) || ((ou.getD i []).getD s []).any (offB l)
theorem or_true' {a b c : Bool} (h : a = true) : ((a || b) || c) = true:=by rw [h];rfl
theorem rt_l5 {n k l st : Int} {nx : List (List Int)} {ou : List (List (List Int))} (x8 x9 : Int) (xs : List Int) (hx : xs.length ≤ 1000) {r : Int} : ∀ (d i : Nat) (b : Bool),i + d = xs.length → Ev (fun q=>coppicerref_TurnerCheck.l4 q (b || (xs.drop i).any (offB l)) x8 (wrap64 (x9 + 1)) n k l nx ou st) r → Ev (fun q=>coppicerref_TurnerCheck.l5 q b x8 x9 xs (xs.length : Int) (i : Int) n k l nx ou st) r:=by
 intro d
 induction d with
 | zero =>
  intro i b hi hr
  rw [List.drop_eq_nil_of_le (by omega),List.any_nil,Bool.or_false] at hr
  exact Ev.step (fun q=>by rw [coppicerref_TurnerCheck.l5]) (Ev.neg (by omega) hr)
 | succ d ih =>
  intro i b hi hr
  have hlt : i < xs.length:=by omega
  rw [drop_cons hlt 0,List.any_cons,← Bool.or_assoc] at hr
  have h2:=ih (i + 1) _ (by omega) hr
  refine Ev.step (fun q=>by rw [coppicerref_TurnerCheck.l5]) (Ev.pos (by omega) (Ev.pos (by omega) (Ev.pos (by omega) ?_)))
  rw [rd_nat,w64 (n:=(i : Int) + 1) (by omega) (by omega)]
  by_cases c : b = true
  ·refine Ev.pos c ?_
   rw [c,Bool.true_or] at h2
   exact h2
  ·refine Ev.neg c ?_
   rw [Bool.eq_false_iff.2 c,Bool.false_or] at h2
   unfold offB at h2
   by_cases c1 : xs.getD i 0 < 0
   ·refine Ev.pos c1 ?_
    rw [decide_eq_true c1,Bool.true_or] at h2
    exact h2
   ·refine Ev.neg c1 ?_
    rw [decide_eq_false c1,Bool.false_or] at h2
    exact h2
theorem rt_l4 {n k l st : Int} {nx : List (List Int)} {ou : List (List (List Int))} (k3 : k ≤ 3) (i : Nat) (hin : i < nx.length) (hio : i < ou.length) (hrn : ((nx.getD i []).length : Int) = k) (hro : ((ou.getD i []).length : Int) = k) (hsm : ∀ w ∈ ou.getD i [],w.length ≤ 4) {r : Int} : ∀ (d s : Nat) (b : Bool),(s : Int) + d = k → Ev (fun q=>coppicerref_TurnerCheck.l3 q (b || (List.range' s d).any (rowOff n l nx ou i)) (wrap64 ((i : Int) + 1)) n k l nx ou st) r → Ev (fun q=>coppicerref_TurnerCheck.l4 q b (i : Int) (s : Int) n k l nx ou st) r:=by
 intro d
 induction d with
 | zero =>
  intro s b hs hr
  rw [List.range'_zero,List.any_nil,Bool.or_false] at hr
  exact Ev.step (fun q=>by rw [coppicerref_TurnerCheck.l4]) (Ev.neg (by omega) hr)
 | succ d ih =>
  intro s b hs hr
  rw [List.range'_succ,List.any_cons,← Bool.or_assoc] at hr
  have h2:=ih (s + 1) _ (by omega) hr
  have hm : (ou.getD i []).getD s [] ∈ ou.getD i []:=getD_mem (by omega)
  have hl:=hsm _ hm
  have j8 : ∀ b' : Bool,(b' || ((ou.getD i []).getD s []).any (offB l)) = (b || rowOff n l nx ou i s) → Ev (fun q=>coppicerref_TurnerCheck.j8 q b' (i : Int) (s : Int) n k l nx ou st) r:=by
   intro b' hb
   refine Ev.step (fun q=>by rw [coppicerref_TurnerCheck.j8]) ?_
   refine Ev.pos (by omega) (Ev.pos (by omega) (Ev.pos (by omega) ?_))
   rw [rdB_nat,rdA_nat]
   refine Ev.pos (by omega) ?_
   refine rt_l5 (i : Int) (s : Int) _ (by omega) ((ou.getD i []).getD s []).length 0 b' (by omega) ?_
   rw [List.drop_zero,hb,w64 (n:=(s : Int) + 1) (by omega) (by omega)]
   exact h2
  refine Ev.step (fun q=>by rw [coppicerref_TurnerCheck.l4]) (Ev.pos (by omega) ?_)
  by_cases c : b = true
  ·refine Ev.pos c (j8 true ?_)
   rw [c]
   rfl
  ·have cf:=Bool.eq_false_iff.2 c
   refine Ev.neg c (Ev.pos (by omega) (Ev.pos (by omega) (Ev.pos (by omega) ?_)))
   rw [rdA_nat,rd_nat]
   refine Ev.pos (by omega) ?_
   by_cases c1 : (nx.getD i []).getD s 0 < 0
   ·refine Ev.pos c1 (j8 true ?_)
    rw [cf]
    unfold rowOff offB
    rw [decide_eq_true c1]
    rfl
   ·refine Ev.neg c1 (j8 _ ?_)
    rw [cf,Bool.false_or]
    unfold rowOff
    congr 1
    unfold offB
    rw [decide_eq_false c1,Bool.false_or]
theorem rt_l3 {n k l st : Int} {nx : List (List Int)} {ou : List (List (List Int))} (n1 : 1 ≤ n) (n7 : n ≤ 7) (k1 : 1 ≤ k) (k3 : k ≤ 3) (hn : (nx.length : Int) = n) (ho : (ou.length : Int) = n) (hrow : ∀ i : Nat,i < n.toNat → ((nx.getD i []).length : Int) = k ∧ ((ou.getD i []).length : Int) = k) (hsm : ∀ r ∈ ou,∀ w ∈ r,w.length ≤ 4) : ∀ (d i : Nat) (b : Bool),i + d = n.toNat → Ev (fun q=>coppicerref_TurnerCheck.l3 q b (i : Int) n k l nx ou st) (if (b || (List.range' i d).any (fun j=>(List.range' 0 k.toNat).any (rowOff n l nx ou j))) = true then 2 else 0):=by
 intro d
 induction d with
 | zero =>
  intro i b hi
  rw [List.range'_zero,List.any_nil,Bool.or_false]
  refine Ev.step (fun q=>by rw [coppicerref_TurnerCheck.l3]) (Ev.neg (by omega) ?_)
  by_cases c : b = true
  ·exact Ev.eq (Ev.pos c (Ev.now 2)) (if_pos c).symm
  ·exact Ev.eq (Ev.neg c (Ev.now 0)) (if_neg c).symm
 | succ d ih =>
  intro i b hi
  have h:=hrow i (by omega)
  rw [List.range'_succ,List.any_cons,← Bool.or_assoc]
  refine Ev.step (fun q=>by rw [coppicerref_TurnerCheck.l3]) (Ev.pos (by omega) ?_)
  refine rt_l4 k3 i (by omega) (by omega) h.1 h.2 (hsm _ (getD_mem (by omega))) k.toNat 0 b (by omega) ?_
  rw [w64 (n:=(i : Int) + 1) (by omega) (by omega)]
  exact ih (i + 1) _ (by omega)
theorem rt_l2 {n k l st : Int} {nx : List (List Int)} {ou : List (List (List Int))} (x4 : Int) (xs : List (List Int)) (hx : xs.length ≤ 1000) : ∀ (d i : Nat),i + d = xs.length → (∃ w ∈ xs.drop i,¬ w.length ≤ 4) ∧ Ev (fun q=>coppicerref_TurnerCheck.l2 q x4 xs (xs.length : Int) (i : Int) n k l nx ou st) 1 ∨ (∀ w ∈ xs.drop i,w.length ≤ 4) ∧ ∀ r,Ev (fun q=>coppicerref_TurnerCheck.l1 q (wrap64 (x4 + 1)) n k l nx ou st) r → Ev (fun q=>coppicerref_TurnerCheck.l2 q x4 xs (xs.length : Int) (i : Int) n k l nx ou st) r:=by
 intro d
 induction d with
 | zero =>
  intro i hi
  rw [List.drop_eq_nil_of_le (by omega)]
  exact .inr ⟨fun w hw=>absurd hw (by simp),fun r h=>Ev.step (fun q=>by rw [coppicerref_TurnerCheck.l2]) (Ev.neg (by omega) h)⟩
 | succ d ih =>
  intro i hi
  have hlt : i < xs.length:=by omega
  rw [drop_cons hlt []]
  have pre : ∀ {r : Int},Ev (fun q=>if ((xs.getD i []).length : Int) > 4 then some 1 else coppicerref_TurnerCheck.l2 q x4 xs (xs.length : Int) ((i + 1 : Nat) : Int) n k l nx ou st) r → Ev (fun q=>coppicerref_TurnerCheck.l2 q x4 xs (xs.length : Int) (i : Int) n k l nx ou st) r:=by
   intro r h
   refine Ev.step (fun q=>by rw [coppicerref_TurnerCheck.l2]) (Ev.pos (by omega) (Ev.pos (by omega) (Ev.pos (by omega) ?_)))
   rw [rdA_nat,w64 (n:=(i : Int) + 1) (by omega) (by omega)]
   exact h
  by_cases c : ((xs.getD i []).length : Int) > 4
  ·exact .inl ⟨⟨_,List.mem_cons_self,by omega⟩,pre (Ev.pos c (Ev.now _))⟩
  ·rcases ih (i + 1) (by omega) with ⟨⟨w,hw,h1⟩,h2⟩|⟨h1,h2⟩
   ·exact .inl ⟨⟨w,List.mem_cons_of_mem _ hw,h1⟩,pre (Ev.neg c h2)⟩
   ·refine .inr ⟨fun w hw=>?_,fun r h=>pre (Ev.neg c (h2 r h))⟩
    rcases List.mem_cons.1 hw with rfl|hw
    ·omega
    ·exact h1 w hw
theorem rt_l1 {n k l st : Int} {nx : List (List Int)} {ou : List (List (List Int))} (n1 : 1 ≤ n) (n7 : n ≤ 7) (k1 : 1 ≤ k) (k3 : k ≤ 3) (l1 : 1 ≤ l) (l3 : l ≤ 3) (hn : (nx.length : Int) = n) (ho : (ou.length : Int) = n) (hrow : ∀ i : Nat,i < n.toNat → ((nx.getD i []).length : Int) = k ∧ ((ou.getD i []).length : Int) = k) : ∀ (d i : Nat),i + d = n.toNat → (∀ j : Nat,j < i → ∀ w ∈ ou.getD j [],w.length ≤ 4) → ∃ e,Ev (fun q=>coppicerref_TurnerCheck.l1 q (i : Int) n k l nx ou st) e ∧ (e = 0 ↔ GoodT n k l nx ou st):=by
 intro d
 induction d with
 | zero =>
  intro i hi hsm
  have hsm2 : ∀ r ∈ ou,∀ w ∈ r,w.length ≤ 4:=by
   intro r hr
   obtain ⟨j,hj,rfl⟩:=List.getElem_of_mem hr
   have:=hsm j (by omega)
   rwa [List.getD_eq_getElem?_getD,List.getElem?_eq_getElem hj,Option.getD_some] at this
  have h5 : ∀ b : Bool,Ev (fun q=>coppicerref_TurnerCheck.j5 q b n k l nx ou st) (if (b || (List.range' 0 n.toNat).any (fun j=>(List.range' 0 k.toNat).any (rowOff n l nx ou j))) = true then 2 else 0):=fun b=>by
   refine Ev.step (fun q=>by rw [coppicerref_TurnerCheck.j5]) ?_
   exact rt_l3 n1 n7 k1 k3 hn ho hrow hsm2 n.toNat 0 b (by omega)
  have hE : Ev (fun q=>coppicerref_TurnerCheck.l1 q (i : Int) n k l nx ou st) (if (offB n st || (List.range' 0 n.toNat).any (fun j=>(List.range' 0 k.toNat).any (rowOff n l nx ou j))) = true then 2 else 0):=by
   refine Ev.step (fun q=>by rw [coppicerref_TurnerCheck.l1]) (Ev.neg (by omega) ?_)
   unfold offB
   by_cases c : st < 0
   ·rw [decide_eq_true c,Bool.true_or]
    exact Ev.pos c (h5 true)
   ·rw [decide_eq_false c,Bool.false_or]
    exact Ev.neg c (h5 _)
  refine ⟨_,hE,?_⟩
  by_cases c : (offB n st || (List.range' 0 n.toNat).any (fun j=>(List.range' 0 k.toNat).any (rowOff n l nx ou j))) = true
  ·rw [if_pos c]
   refine ⟨fun h=>absurd h (by decide),fun g=>?_⟩
   rw [Bool.or_eq_true] at c
   rcases c with c|c
   ·rw [offB_iff.2 ⟨g.s0,g.s1⟩] at c
    exact absurd c (by decide)
   ·rw [List.any_eq_true] at c
    obtain ⟨j,hj,c⟩:=c
    rw [List.any_eq_true] at c
    obtain ⟨s,hs,c⟩:=c
    rw [List.mem_range'_1] at hj hs
    have hr:=hrow j (by omega)
    have m1 : nx.getD j [] ∈ nx:=getD_mem (by omega)
    have m2 : ou.getD j [] ∈ ou:=getD_mem (by omega)
    have m3 : (nx.getD j []).getD s 0 ∈ nx.getD j []:=getD_mem (by omega)
    have m4 : (ou.getD j []).getD s [] ∈ ou.getD j []:=getD_mem (by omega)
    unfold rowOff at c
    rw [offB_iff.2 (g.en _ m1 _ m3),Bool.false_or,List.any_eq_true] at c
    obtain ⟨x,hx,c⟩:=c
    rw [offB_iff.2 (g.eo _ m2 _ m4 x hx)] at c
    exact absurd c (by decide)
  ·rw [if_neg c]
   refine ⟨fun _=>?_,fun _=>rfl⟩
   rw [Bool.not_eq_true,Bool.or_eq_false_iff] at c
   obtain ⟨c1,c2⟩:=c
   rw [List.any_eq_false] at c2
   have key : ∀ j s : Nat,j < n.toNat → s < k.toNat → rowOff n l nx ou j s = false:=by
    intro j s hj hs
    have:=c2 j (List.mem_range'_1.2 ⟨Nat.zero_le _,by omega⟩)
    rw [Bool.not_eq_true,List.any_eq_false] at this
    exact Bool.eq_false_iff.2 (this s (List.mem_range'_1.2 ⟨Nat.zero_le _,by omega⟩))
   have c3:=offB_iff.1 c1
   refine ⟨n1,n7,k1,k3,l1,l3,hn,ho,hrow,hsm2,fun r hr x hx=>?_,c3.1,c3.2,fun r hr w hw x hx=>?_⟩
   ·obtain ⟨j,hj,rfl⟩:=List.getElem_of_mem hr
    obtain ⟨s,hs,rfl⟩:=List.getElem_of_mem hx
    have hr2:=(hrow j (by omega)).1
    have e1 : nx.getD j [] = nx[j]:=by rw [List.getD_eq_getElem?_getD,List.getElem?_eq_getElem hj,Option.getD_some]
    rw [e1] at hr2
    have h2:=key j s (by omega) (by omega)
    unfold rowOff at h2
    rw [Bool.or_eq_false_iff,e1] at h2
    have e2 : nx[j].getD s 0 = nx[j][s]:=by rw [List.getD_eq_getElem?_getD,List.getElem?_eq_getElem hs,Option.getD_some]
    have h3:=h2.1
    rw [e2] at h3
    exact offB_iff.1 h3
   ·obtain ⟨j,hj,rfl⟩:=List.getElem_of_mem hr
    obtain ⟨s,hs,rfl⟩:=List.getElem_of_mem hw
    have hr2:=(hrow j (by omega)).2
    have e1 : ou.getD j [] = ou[j]:=by rw [List.getD_eq_getElem?_getD,List.getElem?_eq_getElem hj,Option.getD_some]
    rw [e1] at hr2
    have h2:=key j s (by omega) (by omega)
    unfold rowOff at h2
    rw [Bool.or_eq_false_iff,e1] at h2
    have e2 : ou[j].getD s [] = ou[j][s]:=by rw [List.getD_eq_getElem?_getD,List.getElem?_eq_getElem hs,Option.getD_some]
    have h3:=h2.2
    rw [e2,List.any_eq_false] at h3
    exact offB_iff.1 (Bool.eq_false_iff.2 (h3 x hx))
 | succ d ih =>
  intro i hi hsm
  have hr:=hrow i (by omega)
  have hm : ou.getD i [] ∈ ou:=getD_mem (by omega)
  rcases rt_l2 (n:=n) (k:=k) (l:=l) (st:=st) (nx:=nx) (ou:=ou) (i : Int) (ou.getD i []) (by omega) (ou.getD i []).length 0 (by omega) with ⟨⟨w,hw,h1⟩,h2⟩|⟨h1,h2⟩
  ·rw [List.drop_zero] at hw
   refine ⟨1,Ev.step (fun q=>by rw [coppicerref_TurnerCheck.l1]) (Ev.pos (by omega) (Ev.pos (by omega) (Ev.pos (by omega) ?_))),fun h=>absurd h (by decide),fun g=>absurd (g.small _ hm w hw) h1⟩
   rw [rdB_nat]
   exact h2
  ·rw [List.drop_zero] at h1
   obtain ⟨e,he,hie⟩:=ih (i + 1) (by omega) (fun j hj=>by
    by_cases c : j = i
    ·rw [c];exact h1
    ·exact hsm j (by omega))
   refine ⟨e,Ev.step (fun q=>by rw [coppicerref_TurnerCheck.l1]) (Ev.pos (by omega) (Ev.pos (by omega) (Ev.pos (by omega) ?_))),hie⟩
   rw [rdB_nat]
   refine h2 e ?_
   rw [w64 (n:=(i : Int) + 1) (by omega) (by omega)]
   exact he
theorem rt_l0 {n k l st : Int} {nx : List (List Int)} {ou : List (List (List Int))} (n1 : 1 ≤ n) (n7 : n ≤ 7) (k1 : 1 ≤ k) (k3 : k ≤ 3) (l1 : 1 ≤ l) (l3 : l ≤ 3) (hn : (nx.length : Int) = n) (ho : (ou.length : Int) = n) : ∀ (d i : Nat),i + d = n.toNat → (∀ j : Nat,j < i → ((nx.getD j []).length : Int) = k ∧ ((ou.getD j []).length : Int) = k) → ∃ e,Ev (fun q=>coppicerref_TurnerCheck.l0 q (i : Int) n k l nx ou st) e ∧ (e = 0 ↔ GoodT n k l nx ou st):=by
 intro d
 induction d with
 | zero =>
  intro i hi hg
  obtain ⟨e,he,hie⟩:=rt_l1 (l:=l) (st:=st) n1 n7 k1 k3 l1 l3 hn ho (fun j hj=>hg j (by omega)) n.toNat 0 (by omega) (fun j hj=>absurd hj (Nat.not_lt_zero _))
  refine ⟨e,?_,hie⟩
  refine Ev.step (fun q=>by rw [coppicerref_TurnerCheck.l0]) ?_
  refine Ev.neg (by omega) ?_
  exact he
 | succ d ih =>
  intro i hi hg
  have pre : ∀ {r : Int},Ev (fun q=>if ((nx.getD i []).length : Int) = k then (if ((ou.getD i []).length : Int) = k then coppicerref_TurnerCheck.l0 q ((i + 1 : Nat) : Int) n k l nx ou st else some 3) else some 3) r → Ev (fun q=>coppicerref_TurnerCheck.l0 q (i : Int) n k l nx ou st) r:=by
   intro r h
   refine Ev.step (fun q=>by rw [coppicerref_TurnerCheck.l0]) ?_
   refine Ev.pos (by omega) (Ev.pos (by omega) (Ev.pos (by omega) ?_))
   rw [rdA_nat,rdB_nat,w64 (n:=(i : Int) + 1) (by omega) (by omega)]
   by_cases c : ((nx.getD i []).length : Int) = k
   ·refine Ev.pos c (Ev.pos (by omega) ?_)
    exact Ev.congr (fun _=>by rw [if_pos c];rfl) h
   ·refine Ev.neg c ?_
    exact Ev.congr (fun _=>by rw [if_neg c]) h
  by_cases c1 : ((nx.getD i []).length : Int) = k
  ·by_cases c2 : ((ou.getD i []).length : Int) = k
   ·obtain ⟨e,he,hie⟩:=ih (i + 1) (by omega) (fun j hj=>by
     by_cases c : j = i
     ·rw [c];exact ⟨c1,c2⟩
     ·exact hg j (by omega))
    exact ⟨e,pre (Ev.pos c1 (Ev.pos c2 he)),hie⟩
   ·exact ⟨3,pre (Ev.pos c1 (Ev.neg c2 (Ev.now _))),fun h=>absurd h (by decide),fun h=>absurd (h.row i (by omega)).2 c2⟩
  ·exact ⟨3,pre (Ev.neg c1 (Ev.now _)),fun h=>absurd h (by decide),fun h=>absurd (h.row i (by omega)).1 c1⟩
theorem rturner_spec {n k l s : Int} {nx : List (List Int)} {ou : List (List (List Int))} : ∃ e,Ev (fun q=>coppicerref_TurnerCheck.f q n k l nx ou s) e ∧ (e = 0 ↔ GoodT n k l nx ou s):=by
 have one : Ev (fun q=>coppicerref_TurnerCheck.j0 q true n k l nx ou s) 1:=Ev.step (fun q=>by rw [coppicerref_TurnerCheck.j0]) (Ev.pos rfl (Ev.now _))
 have three : Ev (fun q=>coppicerref_TurnerCheck.j1 q true n k l nx ou s) 3:=Ev.step (fun q=>by rw [coppicerref_TurnerCheck.j1]) (Ev.pos rfl (Ev.now _))
 by_cases a1 : n < 1
 ·exact ⟨1,Ev.congr (fun q=>by rw [coppicerref_TurnerCheck.f]) (Ev.pos a1 one),fun h=>absurd h (by decide),fun h=>by have:=h.n1;omega⟩
 by_cases a2 : n > 7
 ·exact ⟨1,Ev.congr (fun q=>by rw [coppicerref_TurnerCheck.f]) (Ev.neg a1 (Ev.pos a2 one)),fun h=>absurd h (by decide),fun h=>by have:=h.n7;omega⟩
 by_cases a3 : k < 1
 ·exact ⟨1,Ev.congr (fun q=>by rw [coppicerref_TurnerCheck.f]) (Ev.neg a1 (Ev.neg a2 (Ev.pos a3 one))),fun h=>absurd h (by decide),fun h=>by have:=h.k1;omega⟩
 by_cases a4 : k > 3
 ·exact ⟨1,Ev.congr (fun q=>by rw [coppicerref_TurnerCheck.f]) (Ev.neg a1 (Ev.neg a2 (Ev.neg a3 (Ev.pos a4 one)))),fun h=>absurd h (by decide),fun h=>by have:=h.k3;omega⟩
 by_cases a5 : l < 1
 ·exact ⟨1,Ev.congr (fun q=>by rw [coppicerref_TurnerCheck.f]) (Ev.neg a1 (Ev.neg a2 (Ev.neg a3 (Ev.neg a4 (Ev.pos a5 one))))),fun h=>absurd h (by decide),fun h=>by have:=h.l1;omega⟩
 by_cases a6 : l > 3
 ·refine ⟨1,Ev.congr (fun q=>by rw [coppicerref_TurnerCheck.f]) (Ev.neg a1 (Ev.neg a2 (Ev.neg a3 (Ev.neg a4 (Ev.neg a5 ?_))))),fun h=>absurd h (by decide),fun h=>by have:=h.l3;omega⟩
  rw [decide_eq_true a6]
  exact one
 have pre : ∀ {t : Bool} {r : Int},(nx.length : Int) = n ∧ t = ((ou.length : Int) != n) ∨ ¬ (nx.length : Int) = n ∧ t = true → Ev (fun q=>coppicerref_TurnerCheck.j1 q t n k l nx ou s) r → Ev (fun q=>coppicerref_TurnerCheck.f q n k l nx ou s) r:=by
  intro t r ht h
  refine Ev.congr (fun q=>by rw [coppicerref_TurnerCheck.f]) (Ev.neg a1 (Ev.neg a2 (Ev.neg a3 (Ev.neg a4 (Ev.neg a5 ?_)))))
  rw [decide_eq_false a6]
  refine Ev.step (fun q=>by rw [coppicerref_TurnerCheck.j0]) (Ev.neg (by decide) ?_)
  rcases ht with ⟨h1,h2⟩|⟨h1,h2⟩
  ·refine Ev.pos h1 ?_
   rw [← h2]
   exact h
  ·refine Ev.neg h1 ?_
   rw [← h2]
   exact h
 by_cases a7 : (nx.length : Int) = n
 ·by_cases a8 : (ou.length : Int) = n
  ·obtain ⟨e,he,hie⟩:=rt_l0 (n:=n) (k:=k) (l:=l) (st:=s) (nx:=nx) (ou:=ou) (by omega) (by omega) (by omega) (by omega) (by omega) (by omega) a7 a8 n.toNat 0 (by omega) (fun j hj=>absurd hj (Nat.not_lt_zero _))
   refine ⟨e,pre (t:=false) (.inl ⟨a7,by simp [a8]⟩) ?_,hie⟩
   refine Ev.step (fun q=>by rw [coppicerref_TurnerCheck.j1]) ?_
   refine Ev.neg (by decide) ?_
   exact he
  ·exact ⟨3,pre (t:=true) (.inl ⟨a7,by simp [a8]⟩) three,fun h=>absurd h (by decide),fun h=>absurd h.lo a8⟩
 ·exact ⟨3,pre (t:=true) (.inr ⟨a7,rfl⟩) three,fun h=>absurd h (by decide),fun h=>absurd h.ln a7⟩
end Go.Proofs.Ytlkeemcapemkiaa.PAM

namespace Go.Proofs.Ytlkeemcapemkiaa.PAM
set_option linter.unusedVariables false
set_option linter.unusedSimpArgs false
open Go.RowKit Go.Proofs.Ytlkeemcapemkiaa.GA Go.Proofs.YtlkeemcapemkiaaW.PrintWords Go.Proofs.YtlkeemcapemkiaaW.PrintLast Go.Proofs.YtlkeemcapemkiaaW.PrintMore
theorem wordcheck_loop (k : Int) (w : List Int) (hw : w.length ≤ 12) : ∀ (d i : Nat),i + d = w.length → Ev (fun q=>coppicerref_WordCheck.l0 q k w (w.length : Int) (i : Int)) (if (w.drop i).all (okN k) = true then 0 else 2):=by
 intro d
 induction d with
 | zero =>
  intro i hi
  refine Ev.step (fun q=>by rw [coppicerref_WordCheck.l0]) (Ev.neg (by omega) ?_)
  rw [List.drop_eq_nil_of_le (by omega)]
  exact Ev.now _
 | succ d ih =>
  intro i hi
  have hlt : i < w.length:=by omega
  refine Ev.step (fun q=>by rw [coppicerref_WordCheck.l0]) (Ev.pos (by omega) (Ev.pos (by omega) (Ev.pos (by omega) ?_)))
  rw [rd_nat,drop_cons hlt 0,List.all_cons]
  generalize w.getD i 0 = x
  by_cases h1 : x < 0
  ·refine Ev.pos h1 ?_
   rw [show okN k x = false by simp [okN];omega]
   exact Ev.now _
  ·refine Ev.neg h1 ?_
   by_cases h2 : x ≥ k
   ·refine Ev.pos h2 ?_
    rw [show okN k x = false by simp [okN];omega]
    exact Ev.now _
   ·refine Ev.neg h2 ?_
    rw [show okN k x = true by simp [okN];omega,Bool.true_and,w64 (n:=(i : Int) + 1) (by omega) (by omega)]
    exact ih (i + 1) (by omega)
theorem wordcheck_spec (k : Int) (w : List Int) : ∃ e,Ev (fun q=>coppicerref_WordCheck.f q k w) e ∧ (e = 0 ↔ GoodW k w):=by
 unfold GoodW
 by_cases h : (w.length : Int) > 12
 ·exact ⟨1,Ev.congr (fun q=>by rw [coppicerref_WordCheck.f]) (Ev.pos h (Ev.now _)),fun h'=>absurd h' (by decide),fun h'=>by omega⟩
 ·refine ⟨_,Ev.congr (f:=fun q=>if (w.length : Int) > 12 then some 1 else coppicerref_WordCheck.l0 q k w (w.length : Int) ((0 : Nat) : Int)) (fun q=>by rw [coppicerref_WordCheck.f];rfl) (Ev.neg h (wordcheck_loop k w (by omega) w.length 0 (by omega))),?_⟩
  rw [List.drop_zero]
  by_cases h2 : w.all (okN k) = true
  ·rw [if_pos h2]
   refine ⟨fun _=>⟨by omega,fun s hs=>okN_iff.1 (List.all_eq_true.1 h2 s hs)⟩,fun _=>rfl⟩
  ·rw [if_neg h2]
   refine ⟨fun h'=>absurd h' (by decide),fun h'=>absurd (List.all_eq_true.2 fun s hs=>okN_iff.2 (h'.2 s hs)) h2⟩
end Go.Proofs.Ytlkeemcapemkiaa.PAM

namespace Go.Proofs.Ytlkeemcapemkiaa.PAM
set_option linter.unusedVariables false
set_option linter.unusedSimpArgs false
open Go.RowKit Go.Proofs.Ytlkeemcapemkiaa.GA Go.Proofs.YtlkeemcapemkiaaW.PrintWords Go.Proofs.YtlkeemcapemkiaaW.PrintLast Go.Proofs.YtlkeemcapemkiaaW.PrintMore
theorem ints_loop (a b : List Int) (hl : a.length = b.length) (hb : a.length ≤ 1000) : ∀ (d i : Nat),i + d = a.length → Ev (fun q=>coppicerref_Ints.l0 q a b (i : Int)) (decide (a.drop i = b.drop i)):=by
 intro d
 induction d with
 | zero =>
  intro i hi
  rw [List.drop_eq_nil_of_le (by omega),List.drop_eq_nil_of_le (by omega)]
  refine Ev.step (fun q=>by rw [coppicerref_Ints.l0]) ?_
  refine Ev.neg (by omega) ?_
  exact Ev.now _
 | succ d ih =>
  intro i hi
  rw [drop_cons (l:=a) (by omega) 0,drop_cons (l:=b) (by omega) 0]
  refine Ev.step (fun q=>by rw [coppicerref_Ints.l0]) ?_
  refine Ev.pos (by omega) ?_
  refine Ev.pos (by omega) ?_
  refine Ev.pos (by omega) ?_
  rw [rd_nat,rd_nat,w64 (n:=(i : Int) + 1) (by omega) (by omega)]
  by_cases c : a.getD i 0 = b.getD i 0
  ·refine Ev.pos c ?_
   have:=ih (i + 1) (by omega)
   rw [show decide (a.getD i 0 :: a.drop (i + 1) = b.getD i 0 :: b.drop (i + 1)) = decide (a.drop (i + 1) = b.drop (i + 1)) by rw [decide_eq_decide,c];simp]
   exact this
  ·refine Ev.neg c (Ev.val ?_)
   rw [decide_eq_false (fun h=>c (by injection h))]
theorem ints_spec (a b : List Int) (hb : a.length ≤ 1000) : Ev (fun q=>coppicerref_Ints.f q a b) (decide (a = b)):=by
 refine Ev.congr (fun q=>by rw [coppicerref_Ints.f]) ?_
 by_cases c : (a.length : Int) = (b.length : Int)
 ·refine Ev.pos c ?_
  have:=ints_loop a b (by omega) hb a.length 0 (by omega)
  rw [List.drop_zero,List.drop_zero] at this
  exact this
 ·refine Ev.neg c (Ev.val ?_)
  rw [decide_eq_false (fun h=>c (by rw [h]))]
end Go.Proofs.Ytlkeemcapemkiaa.PAM
