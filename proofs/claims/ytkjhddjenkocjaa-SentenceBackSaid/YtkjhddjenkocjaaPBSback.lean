/- Sentences,as plain Lean: what sentence.Back answers,and that it takes the words turned round. -/
import Derived.Test.YtkjhddjenkocjaaEv
import Derived.Laws.BitsAllLaws
import Derived.Test.YtkjhddjenkocjaaGB3
import Derived.Test.YtkjhddjenkocjaaGB8
import Derived.Test.YtkjhddjenkocjaaGB5
import Derived.Test.YtkjhddjenkocjaaGB6
import Derived.Test.YtkjhddjenkocjaaGB9
namespace Go.Proofs.Ytkjhddjenkocjaa.PBM
set_option linter.unusedVariables false
set_option linter.unusedSimpArgs false
open Go.RowKit Go.Proofs.Ytkjhddjenkocjaa.GB Go.Proofs.YtkjhddjenkocjaaW.PrintWords Go.Proofs.YtkjhddjenkocjaaW.PrintLast Go.Proofs.YtkjhddjenkocjaaW.PrintMore
/-- A bit of a number. -/
def bit (x : Int) (i : Int) : Bool:=x.toNat.testBit i.toNat
theorem shr_nat (X n : Nat) : shr .u32 (X : Int) (n : Int) = ((X / 2 ^ min n 32 : Nat) : Int):=by
 unfold shr
 rw [Int.toNat_natCast]
 simp [IntKind.bits]
theorem div_big {X n : Nat} (hX : X < 4294967296) (h : 32 ≤ n) : X / 2 ^ n = 0:=by
 apply Nat.div_eq_of_lt
 calc X < 2 ^ 32:=hX
  _ ≤ 2 ^ n:=Nat.pow_le_pow_right (by omega) h
theorem div_min {X : Nat} (hX : X < 4294967296) (n : Nat) : X / 2 ^ min n 32 = X / 2 ^ n:=by
 rcases Nat.le_total n 32 with h|h
 ·rw [Nat.min_eq_left h]
 ·rw [Nat.min_eq_right h,div_big hX h,div_big hX (Nat.le_refl 32)]
theorem shr_bit {x : Int} (h0 : 0 ≤ x) (h1 : x < 4294967296) {n : Int} (hn : 0 ≤ n) : Go.bits .and .u32 (shr .u32 x n) 1 = if bit x n then 1 else 0:=by
 obtain ⟨X,rfl⟩:=Int.eq_ofNat_of_zero_le h0
 obtain ⟨m,rfl⟩:=Int.eq_ofNat_of_zero_le hn
 have hX : X < 4294967296:=by omega
 have hd : X / 2 ^ m < 4294967296:=Nat.lt_of_le_of_lt (Nat.div_le_self _ _) hX
 show Go.bits .and .u32 (shr .u32 (X : Int) (m : Int)) ((1 : Nat) : Int) = _
 rw [shr_nat,div_min hX,u32_and_nat _ _ hd (by omega),Nat.and_one_is_mod]
 show _ = if (X.testBit m) = true then 1 else 0
 rw [Nat.testBit_eq_decide_div_mod_eq]
 by_cases e : X / 2 ^ m % 2 = 1
 ·rw [e];simp
 ·rw [if_neg (by simpa using e),show X / 2 ^ m % 2 = 0 by omega];rfl
theorem shr_zero {x : Int} (h0 : 0 ≤ x) (h1 : x < 4294967296) {n : Int} (hn : 0 ≤ n) : shr .u32 x n = 0 ↔ x < 2 ^ n.toNat:=by
 obtain ⟨X,rfl⟩:=Int.eq_ofNat_of_zero_le h0
 obtain ⟨m,rfl⟩:=Int.eq_ofNat_of_zero_le hn
 have hX : X < 4294967296:=by omega
 show shr .u32 (X : Int) (m : Int) = 0 ↔ _
 rw [shr_nat,div_min hX,Int.toNat_natCast]
 have e : ((2 : Int) ^ m) = ((2 ^ m : Nat) : Int):=by simp
 have hp : 0 < 2 ^ m:=Nat.pow_pos (by omega)
 have hd : X / 2 ^ m = 0 ↔ X < 2 ^ m:=by rw [Nat.div_eq_zero_iff];omega
 show ((X / 2 ^ m : Nat) : Int) = 0 ↔ (X : Int) < 2 ^ m
 rw [e]
 omega
theorem shl_one {n : Int} (hn : 0 ≤ n) (h : n < 32) : shl .u32 1 n = 2 ^ n.toNat:=by
 obtain ⟨m,rfl⟩:=Int.eq_ofNat_of_zero_le hn
 unfold shl
 rw [Int.toNat_natCast,Nat.min_eq_left (by simp [IntKind.bits];omega),IntKind.wrap_u32']
 have hp : (2 : Nat) ^ m < 2 ^ 32:=Nat.pow_lt_pow_right (by omega) (by omega)
 have e : ((2 : Int) ^ m) = ((2 ^ m : Nat) : Int):=by simp
 rw [e,Int.one_mul]
 exact Int.emod_eq_of_lt (Int.natCast_nonneg _) (by have:=Int.ofNat_lt.2 hp;simpa using this)
theorem u64_small {n : Int} (h0 : 0 ≤ n) (h1 : n < 18446744073709551616) : IntKind.u64.wrap n = n:=by
 rw [IntKind.wrap_u64];exact Int.emod_eq_of_lt h0 h1
/-- A word that fits its symbols. -/
def GoodW (k : Int) (w : List Int) : Prop:=w.length ≤ 12 ∧ ∀ s ∈ w,0 ≤ s ∧ s < k
theorem words_spec (k : Int) (w : List Int) : ∃ e,machine_Words.f k w = some e ∧ (e = 0 ↔ GoodW k w):=by
 refine ⟨_,rfl,?_⟩
 unfold GoodW
 by_cases h : w.length > 12
 ·rw [if_pos h]
  exact ⟨fun h'=>absurd h' (by decide),fun h'=>by omega⟩
 ·rw [if_neg h]
  by_cases h2 : w.any (fun s=>decide (s < 0) || decide (s ≥ k)) = true
  ·rw [if_pos h2]
   refine ⟨fun h'=>absurd h' (by decide),fun h'=>?_⟩
   rw [List.any_eq_true] at h2
   obtain ⟨s,hs,hb⟩:=h2
   have:=h'.2 s hs
   simp at hb
   omega
  ·rw [if_neg h2]
   refine ⟨fun _=>⟨by omega,fun s hs=>?_⟩,fun _=>rfl⟩
   have:=fun h3=>h2 (List.any_eq_true.2 ⟨s,hs,h3⟩)
   simp at this
   omega
theorem drop_cons {α : Type} {l : List α} {i : Nat} (h : i < l.length) (d : α) : l.drop i = l.getD i d :: l.drop (i + 1):=by
 rw [List.drop_eq_getElem_cons h,List.getD_eq_getElem?_getD,List.getElem?_eq_getElem h,Option.getD_some]
def okN (n : Int) (x : Int) : Bool:=decide (0 ≤ x) && decide (x < n)
theorem okN_iff {n x : Int} : okN n x = true ↔ 0 ≤ x ∧ x < n:=by simp [okN]
end Go.Proofs.Ytkjhddjenkocjaa.PBM

namespace Go.Proofs.Ytkjhddjenkocjaa.PBM
set_option linter.unusedVariables false
set_option linter.unusedSimpArgs false
open Go.RowKit Go.Proofs.Ytkjhddjenkocjaa.GB Go.Proofs.YtkjhddjenkocjaaW.PrintWords Go.Proofs.YtkjhddjenkocjaaW.PrintLast Go.Proofs.YtkjhddjenkocjaaW.PrintMore
/-- Node i. -/
def nd (l : List S25) (i : Nat) : S25:=l.getD i z25
theorem rdN_nat (l : List S25) (i : Nat) : rd_T25 l (i : Int) = nd l i:=by simp [rd_T25,nd]
/-- A node may stand at i: what it names stands ahead of it. -/
def nodeOk (k : Int) (i : Nat) (x : S25) : Prop :=
 x.f0 = 1 ∨ x.f0 = 2 ∨ (x.f0 = 3 ∧ 0 ≤ x.f1 ∧ x.f1 < k) ∨ ((x.f0 = 4 ∨ x.f0 = 5) ∧ (0 ≤ x.f1 ∧ x.f1 < i) ∧ 0 ≤ x.f2 ∧ x.f2 < i) ∨ (x.f0 = 6 ∧ 0 ≤ x.f1 ∧ x.f1 < i)
def AllOk (k : Int) (l : List S25) : Prop:=∀ i,i < l.length → nodeOk k i (nd l i)
structure GoodS (k : Int) (l : List S25) : Prop where
 k1 : 1 ≤ k
 k3 : k ≤ 3
 l1 : 1 ≤ l.length
 l9 : l.length ≤ 9
 ok : AllOk k l
/-- Node i takes w from p to j. -/
inductive M (l : List S25) (w : List Int) : Nat → Nat → Nat → Prop
 | empty {i p : Nat} : (nd l i).f0 = 2 → p ≤ w.length → M l w i p p
 | sym {i p : Nat} : (nd l i).f0 = 3 → p < w.length → w.getD p 0 = (nd l i).f1 → M l w i p (p + 1)
 | cat {i p q j : Nat} : (nd l i).f0 = 4 → M l w (nd l i).f1.toNat p q → M l w (nd l i).f2.toNat q j → M l w i p j
 | orl {i p j : Nat} : (nd l i).f0 = 5 → M l w (nd l i).f1.toNat p j → M l w i p j
 | orr {i p j : Nat} : (nd l i).f0 = 5 → M l w (nd l i).f2.toNat p j → M l w i p j
 | star0 {i p : Nat} : (nd l i).f0 = 6 → p ≤ w.length → M l w i p p
 | star {i p q j : Nat} : (nd l i).f0 = 6 → M l w i p q → M l w (nd l i).f1.toNat q j → M l w i p j
theorem M_le {l : List S25} {w : List Int} {i p j : Nat} (h : M l w i p j) : p ≤ j ∧ j ≤ w.length:=by
 induction h with
 | empty _ h=>exact ⟨Nat.le_refl _,h⟩
 | sym _ h _=>exact ⟨Nat.le_succ _,h⟩
 | cat _ _ _ a b=>omega
 | orl _ _ a=>exact a
 | orr _ _ a=>exact a
 | star0 _ h=>exact ⟨Nat.le_refl _,h⟩
 | star _ _ _ a b=>omega
section
variable {l : List S25} {w : List Int} {i p j : Nat}
theorem M_none (h : (nd l i).f0 ≠ 2) (h3 : (nd l i).f0 ≠ 3) (h4 : (nd l i).f0 ≠ 4) (h5 : (nd l i).f0 ≠ 5) (h6 : (nd l i).f0 ≠ 6) : ¬ M l w i p j:=fun m=>by
 cases m with
 | empty a _=>exact h a
 | sym a _ _=>exact h3 a
 | cat a _ _=>exact h4 a
 | orl a _=>exact h5 a
 | orr a _=>exact h5 a
 | star0 a _=>exact h6 a
 | star a _ _=>exact h6 a
theorem M_empty (h : (nd l i).f0 = 2) : M l w i p j ↔ j = p ∧ p ≤ w.length:=by
 constructor
 ·intro m
  cases m with
  | empty _ b=>exact ⟨rfl,b⟩
  | sym a _ _=>omega
  | cat a _ _=>omega
  | orl a _=>omega
  | orr a _=>omega
  | star0 a b=>exact ⟨rfl,b⟩
  | star a _ _=>omega
 ·rintro ⟨rfl,b⟩
  exact .empty h b
theorem M_sym (h : (nd l i).f0 = 3) : M l w i p j ↔ j = p + 1 ∧ p < w.length ∧ w.getD p 0 = (nd l i).f1:=by
 constructor
 ·intro m
  cases m with
  | empty a b=>omega
  | sym a b c=>exact ⟨rfl,b,c⟩
  | cat a _ _=>omega
  | orl a _=>omega
  | orr a _=>omega
  | star0 a b=>omega
  | star a _ _=>omega
 ·rintro ⟨rfl,b,c⟩
  exact .sym h b c
theorem M_cat (h : (nd l i).f0 = 4) : M l w i p j ↔ ∃ q,M l w (nd l i).f1.toNat p q ∧ M l w (nd l i).f2.toNat q j:=by
 constructor
 ·intro m
  cases m with
  | empty a b=>omega
  | sym a b c=>omega
  | cat a b c=>exact ⟨_,b,c⟩
  | orl a _=>omega
  | orr a _=>omega
  | star0 a b=>omega
  | star a _ _=>omega
 ·rintro ⟨q,b,c⟩
  exact .cat h b c
theorem M_or (h : (nd l i).f0 = 5) : M l w i p j ↔ M l w (nd l i).f1.toNat p j ∨ M l w (nd l i).f2.toNat p j:=by
 constructor
 ·intro m
  cases m with
  | empty a b=>omega
  | sym a b c=>omega
  | cat a b c=>omega
  | orl a b=>exact .inl b
  | orr a b=>exact .inr b
  | star0 a b=>omega
  | star a _ _=>omega
 ·rintro (b|b)
  ·exact .orl h b
  ·exact .orr h b
theorem M_star (h : (nd l i).f0 = 6) : M l w i p j ↔ (j = p ∧ p ≤ w.length) ∨ ∃ q,M l w i p q ∧ M l w (nd l i).f1.toNat q j:=by
 constructor
 ·intro m
  cases m with
  | empty a b=>omega
  | sym a b c=>omega
  | cat a b c=>omega
  | orl a b=>omega
  | orr a b=>omega
  | star0 a b=>exact .inl ⟨rfl,b⟩
  | star a b c=>exact .inr ⟨_,b,c⟩
 ·rintro (⟨rfl,b⟩|⟨q,b,c⟩)
  ·exact .star0 h b
  ·exact .star h b c
end
/-- So often: up to r times. -/
def St (A : Nat → Nat → Prop) (n : Nat) : Nat → Nat → Nat → Prop
 | 0,p,j=>j = p ∧ p ≤ n
 | r + 1,p,j=>St A n r p j ∨ ∃ m,St A n r p m ∧ A m j
theorem St_mono {A : Nat → Nat → Prop} {n r s p j : Nat} (h : St A n r p j) (hs : r ≤ s) : St A n s p j:=by
 induction s with
 | zero =>
  obtain rfl : r = 0:=by omega
  exact h
 | succ s ih =>
  rcases Nat.eq_or_lt_of_le hs with e|e
  ·subst e;exact h
  ·exact .inl (ih (by omega))
theorem St_M {l : List S25} {w : List Int} {i : Nat} (h : (nd l i).f0 = 6) : ∀ {r p j : Nat},St (M l w (nd l i).f1.toNat) w.length r p j → M l w i p j
 | 0,p,j,⟨e,b⟩=>by subst e;exact .star0 h b
 | r + 1,p,j,.inl b=>St_M h b
 | r + 1,p,j,.inr ⟨m,b,c⟩=>.star h (St_M h b) c
theorem M_St {l : List S25} {w : List Int} {i p j : Nat} (h : (nd l i).f0 = 6) (m : M l w i p j) : St (M l w (nd l i).f1.toNat) w.length (w.length + 1) p j:=by
 have key : ∀ {i' p j : Nat},M l w i' p j → i' = i → St (M l w (nd l i).f1.toNat) w.length (j - p) p j:=by
  intro i' p j m
  induction m with
  | empty a _=>rintro rfl;omega
  | sym a _ _=>rintro rfl;omega
  | cat a _ _=>rintro rfl;omega
  | orl a _=>rintro rfl;omega
  | orr a _=>rintro rfl;omega
  | star0 a b =>
   rintro rfl
   rw [Nat.sub_self]
   exact ⟨rfl,b⟩
  | @star i2 p q j a b c ih1 _ =>
   rintro rfl
   have h1:=M_le b
   have h2:=M_le c
   rcases Nat.eq_or_lt_of_le h2.1 with e|e
   ·subst e;exact ih1 rfl
   ·have h3 : St (M l w (nd l i2).f1.toNat) w.length (q - p + 1) p j:=.inr ⟨q,ih1 rfl,c⟩
    exact St_mono h3 (by omega)
 have:=M_le m
 exact St_mono (key m rfl) (by omega)
theorem ahead_spec (a : Int) (i : Nat) : sentence_Right_1.f a (i : Int) = some (decide (0 ≤ a ∧ a < (i : Int))):=by
 unfold sentence_Right_1.f
 by_cases c : a ≥ 0
 ·rw [if_pos c]
  congr 1
  rw [decide_eq_decide]
  exact ⟨fun h=>⟨c,h⟩,fun h=>h.2⟩
 ·rw [if_neg c]
  congr 1
  symm
  rw [decide_eq_false_iff_not]
  omega
theorem right_step (k : Int) (l : List S25) (hl : l.length ≤ 1000) (i : Nat) (hi : i < l.length) : (nodeOk k i (nd l i) → ∀ r,Ev (fun q=>sentence_Right.l0 q k l (l.length : Int) ((i + 1 : Nat) : Int)) r → Ev (fun q=>sentence_Right.l0 q k l (l.length : Int) (i : Int)) r) ∧ (¬ nodeOk k i (nd l i) → ∃ e,e ≠ 0 ∧ Ev (fun q=>sentence_Right.l0 q k l (l.length : Int) (i : Int)) e):=by
 have pre : ∀ {r : Int},Ev (fun q=>if (nd l i).f0 = 1 then sentence_Right.j1 q k l (l.length : Int) (i : Int) (nd l i).f0 ((nd l i).f0 == 1) (i : Int) (nd l i).f0 (nd l i).f1 (nd l i).f2 else sentence_Right.j1 q k l (l.length : Int) (i : Int) (nd l i).f0 ((nd l i).f0 == 2) (i : Int) (nd l i).f0 (nd l i).f1 (nd l i).f2) r → Ev (fun q=>sentence_Right.l0 q k l (l.length : Int) (i : Int)) r:=by
  intro r h
  refine Ev.step (fun q=>by rw [sentence_Right.l0]) (Ev.pos (by omega) (Ev.pos (by omega) (Ev.pos (by omega) ?_)))
  rw [rdN_nat]
  exact h
 have ew : wrap64 ((i : Int) + 1) = ((i + 1 : Nat) : Int):=by rw [w64 (by omega) (by omega)];rfl
 revert pre
 generalize nd l i = x
 obtain ⟨a,b,c⟩:=x
 simp only [nodeOk]
 intro pre
 by_cases c1 : a = 1
 ·subst c1
  refine ⟨fun _ r h=>pre (Ev.pos rfl (Ev.step (fun q=>by rw [sentence_Right.j1]) (Ev.pos (by decide) (by rw [ew];exact h)))),fun h=>absurd (.inl rfl) h⟩
 by_cases c2 : a = 2
 ·subst c2
  refine ⟨fun _ r h=>pre (Ev.neg (by decide) (Ev.step (fun q=>by rw [sentence_Right.j1]) (Ev.pos (by decide) (by rw [ew];exact h)))),fun h=>absurd (.inr (.inl rfl)) h⟩
 have pre2 : ∀ {r : Int},Ev (fun q=>if a = 3 then (if b < 0 then some 2 else (if b ≥ k then some 2 else (sentence_Right.l0 q k l (l.length : Int) ((i + 1 : Nat) : Int)))) else (if a = 6 then ((sentence_Right_1.f b (i : Int)).bind fun t104=>(if t104 = true then (sentence_Right.l0 q k l (l.length : Int) ((i + 1 : Nat) : Int)) else (some 2))) else (if a = 4 then (sentence_Right.j2 q k l (l.length : Int) (i : Int) (a == 4) (i : Int) a b c) else (sentence_Right.j2 q k l (l.length : Int) (i : Int) (a == 5) (i : Int) a b c)))) r → Ev (fun q=>sentence_Right.l0 q k l (l.length : Int) (i : Int)) r:=by
  intro r h
  refine pre (Ev.neg c1 (Ev.step (fun q=>by rw [sentence_Right.j1]) (Ev.neg (by simpa using c2) ?_)))
  rw [ew]
  exact h
 by_cases c3 : a = 3
 ·subst c3
  refine ⟨fun h r hr=>?_,fun h=>?_⟩
  ·exact pre2 (Ev.pos rfl (Ev.neg (by omega) (Ev.neg (by omega) hr)))
  ·refine ⟨2,by decide,pre2 (Ev.pos rfl ?_)⟩
   by_cases c4 : b < 0
   ·exact Ev.pos c4 (Ev.now _)
   ·exact Ev.neg c4 (Ev.pos (by omega) (Ev.now _))
 by_cases c6 : a = 6
 ·subst c6
  refine ⟨fun h r hr=>?_,fun h=>?_⟩
  ·refine pre2 (Ev.neg c3 (Ev.pos rfl (Ev.bindc (ahead_spec b i) (Ev.pos (decide_eq_true (by omega)) hr))))
  ·refine ⟨2,by decide,pre2 (Ev.neg c3 (Ev.pos rfl (Ev.bindc (ahead_spec b i) (Ev.neg ?_ (Ev.now _)))))⟩
   rw [decide_eq_true_iff]
   omega
 have pre3 : ∀ {r : Int} (t : Bool),t = decide (a = 4 ∨ a = 5) → Ev (fun q=>if t = true then ((sentence_Right_1.f b (i : Int)).bind fun t105=>(if t105 = true then ((sentence_Right_1.f c (i : Int)).bind fun t106=>(if t106 = true then (sentence_Right.l0 q k l (l.length : Int) ((i + 1 : Nat) : Int)) else (some 2))) else (some 2))) else (some 6)) r → Ev (fun q=>sentence_Right.l0 q k l (l.length : Int) (i : Int)) r:=by
  intro r t ht h
  refine pre2 (Ev.neg c3 (Ev.neg c6 ?_))
  by_cases c4 : a = 4
  ·refine Ev.pos c4 (Ev.step (fun q=>by rw [sentence_Right.j2]) ?_)
   rw [ew,show (a == 4) = t by rw [ht];simp [c4]]
   exact h
  ·refine Ev.neg c4 (Ev.step (fun q=>by rw [sentence_Right.j2]) ?_)
   rw [ew,show (a == 5) = t by rw [ht,Bool.eq_iff_iff];simp [c4]]
   exact h
 by_cases c45 : a = 4 ∨ a = 5
 ·refine ⟨fun h r hr=>?_,fun h=>?_⟩
  ·exact pre3 true (by simp [c45]) (Ev.pos rfl (Ev.bindc (ahead_spec b i) (Ev.pos (decide_eq_true (by omega)) (Ev.bindc (ahead_spec c i) (Ev.pos (decide_eq_true (by omega)) hr)))))
  ·refine ⟨2,by decide,pre3 true (by simp [c45]) (Ev.pos rfl (Ev.bindc (ahead_spec b i) ?_))⟩
   by_cases c7 : 0 ≤ b ∧ b < (i : Int)
   ·refine Ev.pos (decide_eq_true c7) (Ev.bindc (ahead_spec c i) (Ev.neg ?_ (Ev.now _)))
    rw [decide_eq_true_iff]
    omega
   ·refine Ev.neg ?_ (Ev.now _)
    rw [decide_eq_true_iff]
    exact c7
 ·refine ⟨fun h=>by omega,fun _=>⟨6,by decide,pre3 false (by simp;omega) (Ev.neg (by decide) (Ev.now _))⟩⟩
theorem right_loop (k : Int) (l : List S25) (hl : l.length ≤ 1000) : ∀ (d i : Nat),i + d = l.length → ∃ e,Ev (fun q=>sentence_Right.l0 q k l (l.length : Int) (i : Int)) e ∧ (e = 0 ↔ ∀ t,i ≤ t → t < l.length → nodeOk k t (nd l t)):=by
 intro d
 induction d with
 | zero =>
  intro i hi
  exact ⟨0,Ev.step (fun q=>by rw [sentence_Right.l0]) (Ev.neg (by omega) (Ev.now _)),fun _ t a b=>by omega,fun _=>rfl⟩
 | succ d ih =>
  intro i hi
  obtain ⟨h1,h2⟩:=right_step k l hl i (by omega)
  by_cases c : nodeOk k i (nd l i)
  ·obtain ⟨e,e1,e2⟩:=ih (i + 1) (by omega)
   refine ⟨e,h1 c _ e1,e2.trans ⟨fun h t a b=>?_,fun h t a b=>h t (by omega) b⟩⟩
   rcases Nat.eq_or_lt_of_le a with x|x
   ·subst x;exact c
   ·exact h t x b
  ·obtain ⟨e,e1,e2⟩:=h2 c
   exact ⟨e,e2,fun h=>absurd h e1,fun h=>absurd (h i (Nat.le_refl _) (by omega)) c⟩
theorem right_spec (k : Int) (l : List S25) (hl : l.length ≤ 1000) : ∃ e,Ev (fun q=>sentence_Right.f q k l) e ∧ (e = 0 ↔ AllOk k l):=by
 obtain ⟨e,e1,e2⟩:=right_loop k l hl l.length 0 (by omega)
 exact ⟨e,Ev.congr (fun q=>by rw [sentence_Right.f];rfl) e1,e2.trans ⟨fun h t b=>h t (Nat.zero_le _) b,fun h t _ b=>h t b⟩⟩
theorem scheck_spec (k : Int) (l : List S25) : ∃ e,Ev (fun q=>sentence_Check.f q k l) e ∧ (e = 0 ↔ GoodS k l):=by
 have go : ∀ {r : Int},Ev (fun q=>if k < 1 then (some 1) else (if k > 3 then (some 1) else (if (l.length : Int) = 0 then (some 1) else (if (l.length : Int) > 9 then (some 1) else ((sentence_Right.f q k l).bind fun t107=>(some t107)))))) r → Ev (fun q=>sentence_Check.f q k l) r:=fun h=>Ev.congr (fun q=>by rw [sentence_Check.f]) h
 by_cases c1 : k < 1
 ·exact ⟨1,go (Ev.pos c1 (Ev.now _)),fun h=>absurd h (by decide),fun h=>by have:=h.k1;omega⟩
 by_cases c2 : k > 3
 ·exact ⟨1,go (Ev.neg c1 (Ev.pos c2 (Ev.now _))),fun h=>absurd h (by decide),fun h=>by have:=h.k3;omega⟩
 by_cases c3 : (l.length : Int) = 0
 ·exact ⟨1,go (Ev.neg c1 (Ev.neg c2 (Ev.pos c3 (Ev.now _)))),fun h=>absurd h (by decide),fun h=>by have:=h.l1;omega⟩
 by_cases c4 : (l.length : Int) > 9
 ·exact ⟨1,go (Ev.neg c1 (Ev.neg c2 (Ev.neg c3 (Ev.pos c4 (Ev.now _))))),fun h=>absurd h (by decide),fun h=>by have:=h.l9;omega⟩
 obtain ⟨e,e1,e2⟩:=right_spec k l (by omega)
 exact ⟨e,go (Ev.neg c1 (Ev.neg c2 (Ev.neg c3 (Ev.neg c4 (Ev.bind e1 (Ev.now _)))))),e2.trans ⟨fun h=>⟨by omega,by omega,by omega,by omega,h⟩,fun h=>h.ok⟩⟩
end Go.Proofs.Ytkjhddjenkocjaa.PBM

namespace Go.Proofs.Ytkjhddjenkocjaa.PBM
set_option linter.unusedVariables false
set_option linter.unusedSimpArgs false
set_option linter.unusedSectionVars false
open Go.RowKit Go.Proofs.Ytkjhddjenkocjaa.GB Go.Proofs.YtkjhddjenkocjaaW.PrintWords Go.Proofs.YtkjhddjenkocjaaW.PrintLast Go.Proofs.YtkjhddjenkocjaaW.PrintMore
theorem rdU_nat (xs : List (List Int)) (i : Nat) : rd_L3 xs (i : Int) = xs.getD i []:=by simp [rd_L3]
theorem pow_castI (m : Nat) : ((2 : Int) ^ m) = ((2 ^ m : Nat) : Int):=by simp
/-- A number whose bits are told. -/
def Ent (x : Int) (P : Nat → Prop) : Prop:=∃ X : Nat,x = (X : Int) ∧ X < 4294967296 ∧ ∀ j,X.testBit j = true ↔ P j
theorem Ent.congr {x : Int} {P Q : Nat → Prop} (h : Ent x P) (e : ∀ j,P j ↔ Q j) : Ent x Q:=by
 obtain ⟨X,a,b,c⟩:=h
 exact ⟨X,a,b,fun j=>(c j).trans (e j)⟩
theorem Ent.zero : Ent 0 (fun _=>False):=⟨0,rfl,by omega,fun j=>by simp⟩
theorem Ent.one {i : Nat} (h : i < 32) : Ent (shl .u32 1 (i : Int)) (fun j=>j = i):=by
 refine ⟨2 ^ i,?_,?_,fun j=>?_⟩
 ·rw [shl_one (Int.natCast_nonneg _) (by omega),Int.toNat_natCast,pow_castI]
 ·have : 2 ^ i < 2 ^ 32:=Nat.pow_lt_pow_right (by omega) h
  omega
 ·rw [Nat.testBit_two_pow]
  simp
  exact ⟨fun h=>h.symm,fun h=>h.symm⟩
theorem Ent.or {x y : Int} {P Q : Nat → Prop} (h : Ent x P) (k : Ent y Q) : Ent (Go.bits .or .u32 x y) (fun j=>P j ∨ Q j):=by
 obtain ⟨X,rfl,b,c⟩:=h
 obtain ⟨Y,rfl,b2,c2⟩:=k
 refine ⟨X ||| Y,u32_or_nat _ _ b b2,Nat.or_lt_two_pow (n:=32) b b2,fun j=>?_⟩
 rw [Nat.testBit_or,Bool.or_eq_true,c,c2]
theorem Ent.bit {x : Int} {P : Nat → Prop} (h : Ent x P) (j : Nat) : Go.bits .and .u32 (shr .u32 x (j : Int)) 1 = 1 ↔ P j:=by
 obtain ⟨X,rfl,b,c⟩:=h
 rw [shr_bit (Int.natCast_nonneg _) (by omega) (Int.natCast_nonneg _),← c]
 show (if X.testBit j = true then (1 : Int) else 0) = 1 ↔ _
 cases X.testBit j <;> simp
/-- A row of such. -/
def Row (n : Nat) (t : List Int) (P : Nat → Nat → Prop) : Prop:=t.length = n ∧ ∀ p,p < n → Ent (t.getD p 0) (P p)
theorem Row.congr {n : Nat} {t : List Int} {P Q : Nat → Nat → Prop} (h : Row n t P) (e : ∀ p,p < n → ∀ j,P p j ↔ Q p j) : Row n t Q:=⟨h.1,fun p hp=>(h.2 p hp).congr (e p hp)⟩
theorem getD_setI (xs : List Int) (n t : Nat) (a : Int) (h : n < xs.length) : (xs.set n a).getD t 0 = if t = n then a else xs.getD t 0:=by
 rw [List.getD_eq_getElem?_getD,List.getD_eq_getElem?_getD,List.getElem?_set]
 by_cases e : n = t
 ·subst e;simp [h]
 ·rw [if_neg e,if_neg (Ne.symm e)]
theorem getD_setL (xs : List (List Int)) (n t : Nat) (a : List Int) (h : n < xs.length) : (xs.set n a).getD t [] = if t = n then a else xs.getD t []:=by
 rw [List.getD_eq_getElem?_getD,List.getD_eq_getElem?_getD,List.getElem?_set]
 by_cases e : n = t
 ·subst e;simp [h]
 ·rw [if_neg e,if_neg (Ne.symm e)]
section
variable {n : Nat} (hn : n ≤ 32) {a b : List Int} {P Q : Nat → Nat → Prop} (ha : Row n a P) (hb : Row n b Q)
include hn ha hb
theorem th_l1 (i : Nat) (hi : i < n) : ∀ (d j : Nat) (out : List Int),j + d = n → out.length = n → Ent (out.getD i 0) (fun k=>∃ m,m < j ∧ P i m ∧ Q m k) →
  ∃ out' : List Int,out'.length = n ∧ (∀ t,t ≠ i → out'.getD t 0 = out.getD t 0) ∧ Ent (out'.getD i 0) (fun k=>∃ m,m < n ∧ P i m ∧ Q m k) ∧ ∀ R,Ev (fun q=>sentence_spans_1.l0 q a b (n : Int) out' (n : Int) ((i + 1 : Nat) : Int)) R → Ev (fun q=>sentence_spans_1.l1 q a b (n : Int) out (i : Int) (n : Int) (i : Int) (n : Int) (j : Int)) R:=by
 have l1:=ha.1;have l2:=hb.1
 intro d
 induction d with
 | zero =>
  intro j out hj ho he
  obtain rfl : j = n:=by omega
  refine ⟨out,ho,fun _ _=>rfl,he,fun R hR=>Ev.step (fun q=>by rw [sentence_spans_1.l1]) (Ev.neg (by omega) ?_)⟩
  rw [w64 (n:=(i : Int) + 1) (by omega) (by omega)]
  exact hR
 | succ d ih =>
  intro j out hj ho he
  have pre : ∀ {R : List Int},Ev (fun q=>if (Go.bits .and .u32 (shr .u32 (a.getD i 0) (j : Int)) 1) = 1 then sentence_spans_1.l1 q a b (n : Int) (out.set i (Go.bits .or .u32 (out.getD i 0) (b.getD j 0))) (i : Int) (n : Int) (i : Int) (n : Int) ((j + 1 : Nat) : Int) else sentence_spans_1.l1 q a b (n : Int) out (i : Int) (n : Int) (i : Int) (n : Int) ((j + 1 : Nat) : Int)) R → Ev (fun q=>sentence_spans_1.l1 q a b (n : Int) out (i : Int) (n : Int) (i : Int) (n : Int) (j : Int)) R:=by
   intro R h
   refine Ev.step (fun q=>by rw [sentence_spans_1.l1]) (Ev.pos (by omega) (Ev.pos (by omega) (Ev.pos (by omega) (Ev.pos (by omega) ?_))))
   rw [w64 (n:=(j : Int) + 1) (by omega) (by omega),rd_nat,rd_nat,rd_nat,Int.toNat_natCast]
   refine Ev.congr (fun q=>?_) h
   by_cases c : (Go.bits .and .u32 (shr .u32 (a.getD i 0) (j : Int)) 1) = 1
   ·rw [if_pos c,if_pos c,if_pos (by omega),if_pos (by omega)];rfl
   ·rw [if_neg c,if_neg c];rfl
  have hbit:=(ha.2 i hi).bit j
  by_cases c : P i j
  ·have he2:=he.or (hb.2 j (by omega))
   obtain ⟨o,o1,o2,o3,o4⟩:=ih (j + 1) (out.set i (Go.bits .or .u32 (out.getD i 0) (b.getD j 0))) (by omega) (by rw [List.length_set];exact ho) (by
    rw [getD_setI _ _ _ _ (by omega),if_pos rfl]
    refine he2.congr (fun k=>⟨?_,?_⟩)
    ·rintro (⟨m,m1,m2⟩|h)
     ·exact ⟨m,by omega,m2⟩
     ·exact ⟨j,by omega,c,h⟩
    ·rintro ⟨m,m1,m2,m3⟩
     rcases Nat.lt_or_ge m j with x|x
     ·exact .inl ⟨m,x,m2,m3⟩
     ·obtain rfl : m = j:=by omega
      exact .inr m3)
   refine ⟨o,o1,fun t ht=>?_,o3,fun R hR=>pre (Ev.pos (hbit.2 c) (o4 R hR))⟩
   rw [o2 t ht,getD_setI _ _ _ _ (by omega),if_neg ht]
  ·obtain ⟨o,o1,o2,o3,o4⟩:=ih (j + 1) out (by omega) ho (he.congr (fun k=>⟨fun ⟨m,m1,m2⟩=>⟨m,by omega,m2⟩,fun ⟨m,m1,m2,m3⟩=>by
    rcases Nat.lt_or_ge m j with x|x
    ·exact ⟨m,x,m2,m3⟩
    ·obtain rfl : m = j:=by omega
     exact absurd m2 c⟩))
   exact ⟨o,o1,o2,o3,fun R hR=>pre (Ev.neg (fun h=>c (hbit.1 h)) (o4 R hR))⟩
theorem th_l0 : ∀ (d i : Nat) (out : List Int),i + d = n → out.length = n → (∀ p,p < i → Ent (out.getD p 0) (fun k=>∃ m,m < n ∧ P p m ∧ Q m k)) → (∀ p,i ≤ p → p < n → out.getD p 0 = 0) →
  ∃ r,Row n r (fun p k=>∃ m,m < n ∧ P p m ∧ Q m k) ∧ Ev (fun q=>sentence_spans_1.l0 q a b (n : Int) out (n : Int) (i : Int)) r:=by
 intro d
 induction d with
 | zero =>
  intro i out hi ho h1 h2
  exact ⟨out,⟨ho,fun p hp=>h1 p (by omega)⟩,Ev.step (fun q=>by rw [sentence_spans_1.l0]) (Ev.neg (by omega) (Ev.now _))⟩
 | succ d ih =>
  intro i out hi ho h1 h2
  obtain ⟨o,o1,o2,o3,o4⟩:=th_l1 hn ha hb i (by omega) n 0 out (by omega) ho (by
   rw [h2 i (Nat.le_refl _) (by omega)]
   exact Ent.zero.congr (fun k=>⟨fun h=>h.elim,fun ⟨m,m1,_⟩=>by omega⟩))
  obtain ⟨r,r1,r2⟩:=ih (i + 1) o (by omega) o1 (fun p hp=>by
   rcases Nat.eq_or_lt_of_le (Nat.le_of_lt_succ hp) with e|e
   ·subst e;exact o3
   ·rw [o2 p (by omega)];exact h1 p e) (fun p p1 p2=>by rw [o2 p (by omega)];exact h2 p (by omega) p2)
  refine ⟨r,r1,Ev.step (fun q=>by rw [sentence_spans_1.l0]) (Ev.pos (by omega) ?_)⟩
  exact o4 r r2
theorem through_spec : ∃ r,Row n r (fun p k=>∃ m,m < n ∧ P p m ∧ Q m k) ∧ Ev (fun q=>sentence_spans_1.f q a b (n : Int)) r:=by
 obtain ⟨r,r1,r2⟩:=th_l0 hn ha hb n 0 (List.replicate n 0) (by omega) (by simp) (fun p hp=>by omega) (fun p _ hp=>by
  rw [List.getD_eq_getElem?_getD,List.getElem?_replicate]
  split <;> rfl)
 refine ⟨r,r1,Ev.congr (fun q=>by rw [sentence_spans_1.f]) (Ev.pos (by omega) (Ev.pos (by omega) ?_))⟩
 rw [Int.toNat_natCast]
 exact r2
end
section
variable {w : List Int} {l : List S25} {n : Nat} (hn : n = w.length + 1) (hw : w.length ≤ 12) (hl : l.length ≤ 9) {all : List (List Int)} (hal : all.length = l.length) {k : Nat} (hk : k < l.length)
/-- What follows a node. -/
def Nx (w : List Int) (l : List S25) (n : Nat) (all : List (List Int)) (k : Nat) (t : List Int) (R : List (List Int)) : Prop:=Ev (fun q=>sentence_spans.l0 q w (all.set k t) l (l.length : Int) ((k + 1 : Nat) : Int) (n : Int)) R
include hn hw hl hal hk
theorem nx_of {t : List Int} {R : List (List Int)} (h : Nx w l n all k t R) : Ev (fun q=>if 0 ≤ (k : Int) then (if (k : Int) < (all.length : Int) then (sentence_spans.l0 q w (all.set (k : Int).toNat t) l (l.length : Int) (wrap64 ((k : Int) + 1)) (n : Int)) else none) else none) R:=by
 refine Ev.pos (by omega) (Ev.pos (by omega) ?_)
 rw [w64 (n:=(k : Int) + 1) (by omega) (by omega),Int.toNat_natCast]
 exact h
theorem sp_l1 : ∀ (d i : Nat) (t : List Int),i + d = n → t.length = n → (∀ p,p < i → Ent (t.getD p 0) (fun j=>j = p)) → ∃ t',Row n t' (fun p j=>j = p) ∧ ∀ R,Nx w l n all k t' R → Ev (fun q=>sentence_spans.l1 q w all (k : Int) t l (l.length : Int) (k : Int) (n : Int) (i : Int) (n : Int)) R:=by
 intro d
 induction d with
 | zero =>
  intro i t hi ht h
  refine ⟨t,⟨ht,fun p hp=>h p (by omega)⟩,fun R hR=>Ev.step (fun q=>by rw [sentence_spans.l1]) (Ev.neg (by omega) ?_)⟩
  exact nx_of hn hw hl hal hk hR
 | succ d ih =>
  intro i t hi ht h
  obtain ⟨t',t1,t2⟩:=ih (i + 1) (t.set i (shl .u32 1 (i : Int))) (by omega) (by rw [List.length_set];exact ht) (fun p hp=>by
   rw [getD_setI _ _ _ _ (by omega)]
   by_cases e : p = i
   ·rw [if_pos e,e];exact Ent.one (by omega)
   ·rw [if_neg e];exact h p (by omega))
  refine ⟨t',t1,fun R hR=>Ev.step (fun q=>by rw [sentence_spans.l1]) (Ev.pos (by omega) (Ev.pos (by omega) (Ev.pos (by omega) ?_)))⟩
  rw [w64 (n:=(i : Int) + 1) (by omega) (by omega),Int.toNat_natCast]
  exact t2 R hR
theorem sp_l2 (f0 f1 f2 : Int) : ∀ (d i : Nat) (t : List Int),i + d = w.length → t.length = n → (∀ p,p < n → Ent (t.getD p 0) (fun j=>j = p + 1 ∧ p < i ∧ w.getD p 0 = f1)) → ∃ t',Row n t' (fun p j=>j = p + 1 ∧ p < w.length ∧ w.getD p 0 = f1) ∧ ∀ R,Nx w l n all k t' R → Ev (fun q=>sentence_spans.l2 q w all (k : Int) t l (l.length : Int) (k : Int) w (w.length : Int) (i : Int) (n : Int) f0 f1 f2) R:=by
 intro d
 induction d with
 | zero =>
  intro i t hi ht h
  obtain rfl : i = w.length:=by omega
  refine ⟨t,⟨ht,h⟩,fun R hR=>Ev.step (fun q=>by rw [sentence_spans.l2]) (Ev.neg (by omega) ?_)⟩
  exact nx_of hn hw hl hal hk hR
 | succ d ih =>
  intro i t hi ht h
  have pre : ∀ {R : List (List Int)},Ev (fun q=>if w.getD i 0 = f1 then sentence_spans.l2 q w all (k : Int) (t.set i (shl .u32 1 ((i + 1 : Nat) : Int))) l (l.length : Int) (k : Int) w (w.length : Int) ((i + 1 : Nat) : Int) (n : Int) f0 f1 f2 else sentence_spans.l2 q w all (k : Int) t l (l.length : Int) (k : Int) w (w.length : Int) ((i + 1 : Nat) : Int) (n : Int) f0 f1 f2) R → Ev (fun q=>sentence_spans.l2 q w all (k : Int) t l (l.length : Int) (k : Int) w (w.length : Int) (i : Int) (n : Int) f0 f1 f2) R:=by
   intro R h
   refine Ev.step (fun q=>by rw [sentence_spans.l2]) (Ev.pos (by omega) (Ev.pos (by omega) (Ev.pos (by omega) ?_)))
   rw [w64 (n:=(i : Int) + 1) (by omega) (by omega),Int.toNat_natCast,rd_nat]
   refine Ev.congr (fun q=>?_) h
   by_cases c : w.getD i 0 = f1
   ·rw [if_pos c,if_pos c,if_pos (by omega),if_pos (by omega)];rfl
   ·rw [if_neg c,if_neg c];rfl
  by_cases c : w.getD i 0 = f1
  ·obtain ⟨t',t1,t2⟩:=ih (i + 1) (t.set i (shl .u32 1 ((i + 1 : Nat) : Int))) (by omega) (by rw [List.length_set];exact ht) (fun p hp=>by
    rw [getD_setI _ _ _ _ (by omega)]
    by_cases e : p = i
    ·rw [if_pos e,e]
     exact (Ent.one (i:=i + 1) (by omega)).congr (fun j=>⟨fun h=>⟨h,by omega,c⟩,fun h=>h.1⟩)
    ·rw [if_neg e]
     exact (h p hp).congr (fun j=>⟨fun ⟨a,b,c⟩=>⟨a,by omega,c⟩,fun ⟨a,b,c⟩=>⟨a,by omega,c⟩⟩))
   exact ⟨t',t1,fun R hR=>pre (Ev.pos c (t2 R hR))⟩
  ·obtain ⟨t',t1,t2⟩:=ih (i + 1) t (by omega) ht (fun p hp=>(h p hp).congr (fun j=>⟨fun ⟨a,b,c⟩=>⟨a,by omega,c⟩,fun ⟨a,b,c'⟩=>⟨a,by
    rcases Nat.eq_or_lt_of_le (Nat.le_of_lt_succ b) with e|e
    ·subst e;exact absurd c' c
    ·exact e,c'⟩⟩))
   exact ⟨t',t1,fun R hR=>pre (Ev.neg c (t2 R hR))⟩
theorem sp_l3 (f0 : Int) {A B : Nat} (hA : A < k) (hB : B < k) {P Q : Nat → Nat → Prop} (ra : Row n (all.getD A []) P) (rb : Row n (all.getD B []) Q) : ∀ (d i : Nat) (t : List Int),i + d = n → t.length = n → (∀ p,p < i → Ent (t.getD p 0) (fun j=>P p j ∨ Q p j)) → ∃ t',Row n t' (fun p j=>P p j ∨ Q p j) ∧ ∀ R,Nx w l n all k t' R → Ev (fun q=>sentence_spans.l3 q w all (k : Int) t l (l.length : Int) (k : Int) (n : Int) (i : Int) (n : Int) f0 (A : Int) (B : Int)) R:=by
 have la:=ra.1;have lb:=rb.1
 intro d
 induction d with
 | zero =>
  intro i t hi ht h
  refine ⟨t,⟨ht,fun p hp=>h p (by omega)⟩,fun R hR=>Ev.step (fun q=>by rw [sentence_spans.l3]) (Ev.neg (by omega) ?_)⟩
  exact nx_of hn hw hl hal hk hR
 | succ d ih =>
  intro i t hi ht h
  obtain ⟨t',t1,t2⟩:=ih (i + 1) (t.set i (Go.bits .or .u32 ((all.getD A []).getD i 0) ((all.getD B []).getD i 0))) (by omega) (by rw [List.length_set];exact ht) (fun p hp=>by
   rw [getD_setI _ _ _ _ (by omega)]
   by_cases e : p = i
   ·rw [if_pos e,e];exact (ra.2 i (by omega)).or (rb.2 i (by omega))
   ·rw [if_neg e];exact h p (by omega))
  refine ⟨t',t1,fun R hR=>Ev.step (fun q=>by rw [sentence_spans.l3]) ?_⟩
  rw [rdU_nat,rdU_nat,rd_nat,rd_nat,w64 (n:=(i : Int) + 1) (by omega) (by omega),Int.toNat_natCast]
  refine Ev.pos (by omega) (Ev.pos (by omega) (Ev.pos (by omega) (Ev.pos (by omega) (Ev.pos (by omega) (Ev.pos (by omega) (Ev.pos (by omega) (Ev.pos (by omega) (Ev.pos (by omega) ?_))))))))
  exact t2 R hR
theorem sp_l6 (f0 f2 : Int) (A c : Nat) {more : List Int} {P Q : Nat → Nat → Prop} (rm : Row n more Q) : ∀ (d i : Nat) (t : List Int),i + d = n → t.length = n → (∀ p,p < i → Ent (t.getD p 0) (fun j=>P p j ∨ Q p j)) → (∀ p,i ≤ p → p < n → Ent (t.getD p 0) (P p)) → ∃ t',Row n t' (fun p j=>P p j ∨ Q p j) ∧ ∀ R,Ev (fun q=>sentence_spans.l5 q w all (k : Int) t' l (l.length : Int) (k : Int) (n : Int) (wrap64 ((c : Int) + 1)) (n : Int) f0 (A : Int) f2) R → Ev (fun q=>sentence_spans.l6 q w all (k : Int) t more l (l.length : Int) (k : Int) (n : Int) (c : Int) (n : Int) (i : Int) (n : Int) f0 (A : Int) f2) R:=by
 have lm:=rm.1
 intro d
 induction d with
 | zero =>
  intro i t hi ht h _
  exact ⟨t,⟨ht,fun p hp=>h p (by omega)⟩,fun R hR=>Ev.step (fun q=>by rw [sentence_spans.l6]) (Ev.neg (by omega) hR)⟩
 | succ d ih =>
  intro i t hi ht h h2
  obtain ⟨t',t1,t2⟩:=ih (i + 1) (t.set i (Go.bits .or .u32 (t.getD i 0) (more.getD i 0))) (by omega) (by rw [List.length_set];exact ht) (fun p hp=>by
   rw [getD_setI _ _ _ _ (by omega)]
   by_cases e : p = i
   ·rw [if_pos e,e];exact (h2 i (Nat.le_refl _) (by omega)).or (rm.2 i (by omega))
   ·rw [if_neg e];exact h p (by omega)) (fun p p1 p2=>by
   rw [getD_setI _ _ _ _ (by omega),if_neg (by omega)]
   exact h2 p (by omega) p2)
  refine ⟨t',t1,fun R hR=>Ev.step (fun q=>by rw [sentence_spans.l6]) (Ev.pos (by omega) (Ev.pos (by omega) (Ev.pos (by omega) (Ev.pos (by omega) ?_))))⟩
  rw [rd_nat,rd_nat,w64 (n:=(i : Int) + 1) (by omega) (by omega),Int.toNat_natCast]
  exact t2 R hR
theorem sp_l5 (f0 f2 : Int) {A : Nat} (hA : A < k) {Q : Nat → Nat → Prop} (ra : Row n (all.getD A []) Q) : ∀ (d c : Nat) (t : List Int),c + d = n → Row n t (fun p j=>St Q w.length c p j) → (∀ c p j,p < n → St Q w.length c p j → j < n) → ∃ t',Row n t' (fun p j=>St Q w.length n p j) ∧ ∀ R,Nx w l n all k t' R → Ev (fun q=>sentence_spans.l5 q w all (k : Int) t l (l.length : Int) (k : Int) (n : Int) (c : Int) (n : Int) f0 (A : Int) f2) R:=by
 intro d
 induction d with
 | zero =>
  intro c t hc ht _
  obtain rfl : c = n:=by omega
  refine ⟨t,ht,fun R hR=>Ev.step (fun q=>by rw [sentence_spans.l5]) (Ev.neg (by omega) ?_)⟩
  exact nx_of hn hw hl hal hk hR
 | succ d ih =>
  intro c t hc ht hin
  obtain ⟨more,m1,m2⟩:=through_spec (n:=n) (by omega) ht ra
  obtain ⟨t2,u1,u2⟩:=sp_l6 hn hw hl hal hk f0 f2 A c m1 n 0 t (by omega) ht.1 (fun p hp=>by omega) (fun p _ hp=>ht.2 p hp)
  obtain ⟨t',v1,v2⟩:=ih (c + 1) t2 (by omega) (u1.congr (fun p hp j=>⟨fun h=>by
   rcases h with h|⟨m,_,h1,h2⟩
   ·exact .inl h
   ·exact .inr ⟨m,h1,h2⟩,fun h=>by
   rcases h with h|⟨m,h1,h2⟩
   ·exact .inl h
   ·exact .inr ⟨m,hin c p m hp h1,h1,h2⟩⟩)) hin
  refine ⟨t',v1,fun R hR=>Ev.step (fun q=>by rw [sentence_spans.l5]) ?_⟩
  rw [rdU_nat]
  refine Ev.pos (by omega) (Ev.pos (by omega) (Ev.pos (by omega) (Ev.bind m2 ?_)))
  rw [ht.1]
  refine u2 R ?_
  rw [w64 (n:=(c : Int) + 1) (by omega) (by omega)]
  exact v2 R hR
theorem sp_l4 (f0 f2 : Int) {A : Nat} (hA : A < k) {Q : Nat → Nat → Prop} (ra : Row n (all.getD A []) Q) (hin : ∀ c p j,p < n → St Q w.length c p j → j < n) : ∀ (d i : Nat) (t : List Int),i + d = n → t.length = n → (∀ p,p < i → Ent (t.getD p 0) (fun j=>j = p)) → ∃ t',Row n t' (fun p j=>St Q w.length n p j) ∧ ∀ R,Nx w l n all k t' R → Ev (fun q=>sentence_spans.l4 q w all (k : Int) t l (l.length : Int) (k : Int) (n : Int) (i : Int) (n : Int) f0 (A : Int) f2) R:=by
 intro d
 induction d with
 | zero =>
  intro i t hi ht h
  obtain ⟨t',t1,t2⟩:=sp_l5 hn hw hl hal hk f0 f2 hA ra n 0 t (by omega) ⟨ht,fun p hp=>(h p (by omega)).congr (fun j=>⟨fun e=>⟨e,by omega⟩,fun e=>e.1⟩)⟩ hin
  refine ⟨t',t1,fun R hR=>?_⟩
  have h0:=t2 R hR
  refine Ev.step (fun q=>by rw [sentence_spans.l4]) ?_
  refine Ev.neg (by omega) ?_
  exact h0
 | succ d ih =>
  intro i t hi ht h
  obtain ⟨t',t1,t2⟩:=ih (i + 1) (t.set i (shl .u32 1 (i : Int))) (by omega) (by rw [List.length_set];exact ht) (fun p hp=>by
   rw [getD_setI _ _ _ _ (by omega)]
   by_cases e : p = i
   ·rw [if_pos e,e];exact Ent.one (by omega)
   ·rw [if_neg e];exact h p (by omega))
  refine ⟨t',t1,fun R hR=>Ev.step (fun q=>by rw [sentence_spans.l4]) (Ev.pos (by omega) (Ev.pos (by omega) (Ev.pos (by omega) ?_)))⟩
  rw [w64 (n:=(i : Int) + 1) (by omega) (by omega),Int.toNat_natCast]
  exact t2 R hR
theorem sp_node {kk : Int} (hok : nodeOk kk k (nd l k)) (hrow : ∀ i,i < k → Row n (all.getD i []) (M l w i)) : ∃ t,Row n t (M l w k) ∧ ∀ R,Nx w l n all k t R → Ev (fun q=>sentence_spans.l0 q w all l (l.length : Int) (k : Int) (n : Int)) R:=by
 have hz : ∀ p,(List.replicate n (0 : Int)).getD p 0 = 0:=fun p=>by
  rw [List.getD_eq_getElem?_getD,List.getElem?_replicate]
  split <;> rfl
 have hin : ∀ {i p j : Nat},M l w i p j → j < n:=fun h=>by have:=M_le h;omega
 have pre : ∀ {R : List (List Int)},Ev (fun q=>(if (nd l k).f0 = 2 then (sentence_spans.l1 q w all (k : Int) (List.replicate n 0) l (l.length : Int) (k : Int) (n : Int) 0 (n : Int)) else (if (nd l k).f0 = 3 then (sentence_spans.l2 q w all (k : Int) (List.replicate n 0) l (l.length : Int) (k : Int) w (w.length : Int) 0 (n : Int) (nd l k).f0 (nd l k).f1 (nd l k).f2) else (if (nd l k).f0 = 4 then (if 0 ≤ (nd l k).f1 then (if (nd l k).f1 < (all.length : Int) then (if 0 ≤ (nd l k).f2 then (if (nd l k).f2 < (all.length : Int) then ((sentence_spans_1.f q (rd_L3 all (nd l k).f1) (rd_L3 all (nd l k).f2) (n : Int)).bind fun t131=>(if (k : Int) < (all.length : Int) then (sentence_spans.l0 q w (all.set (k : Int).toNat t131) l (l.length : Int) (wrap64 ((k : Int) + 1)) (n : Int)) else none)) else none) else none) else none) else none) else (if (nd l k).f0 = 5 then (sentence_spans.l3 q w all (k : Int) (List.replicate n 0) l (l.length : Int) (k : Int) (n : Int) 0 (n : Int) (nd l k).f0 (nd l k).f1 (nd l k).f2) else (if (nd l k).f0 = 6 then (sentence_spans.l4 q w all (k : Int) (List.replicate n 0) l (l.length : Int) (k : Int) (n : Int) 0 (n : Int) (nd l k).f0 (nd l k).f1 (nd l k).f2) else (if (k : Int) < (all.length : Int) then (sentence_spans.l0 q w (all.set (k : Int).toNat (List.replicate n 0)) l (l.length : Int) (wrap64 ((k : Int) + 1)) (n : Int)) else none))))))) R → Ev (fun q=>sentence_spans.l0 q w all l (l.length : Int) (k : Int) (n : Int)) R:=by
  intro R h
  refine Ev.step (fun q=>by rw [sentence_spans.l0]) (Ev.pos (by omega) (Ev.pos (by omega) (Ev.pos (by omega) (Ev.pos (by omega) (Ev.pos (by omega) (Ev.let_ ?_))))))
  rw [rdN_nat,Int.toNat_natCast,List.length_replicate]
  exact h
 have last : ∀ {t : List Int} {R : List (List Int)},Nx w l n all k t R → Ev (fun q=>if (k : Int) < (all.length : Int) then (sentence_spans.l0 q w (all.set (k : Int).toNat t) l (l.length : Int) (wrap64 ((k : Int) + 1)) (n : Int)) else none) R:=by
  intro t R h
  refine Ev.pos (by omega) ?_
  rw [w64 (n:=(k : Int) + 1) (by omega) (by omega),Int.toNat_natCast]
  exact h
 rcases hok with h|h|⟨h,h1,h2⟩|⟨h,h1,h2⟩|⟨h,h1⟩
 ·refine ⟨List.replicate n 0,⟨by simp,fun p hp=>?_⟩,fun R hR=>pre (Ev.neg (by omega) (Ev.neg (by omega) (Ev.neg (by omega) (Ev.neg (by omega) (Ev.neg (by omega) (last hR))))))⟩
  rw [hz]
  exact Ent.zero.congr (fun j=>⟨fun h=>h.elim,fun m=>M_none (by omega) (by omega) (by omega) (by omega) (by omega) m⟩)
 ·obtain ⟨t,t1,t2⟩:=sp_l1 hn hw hl hal hk n 0 (List.replicate n 0) (by omega) (by simp) (fun p hp=>by omega)
  exact ⟨t,t1.congr (fun p hp j=>⟨fun e=>(M_empty h).2 ⟨e,by omega⟩,fun m=>((M_empty h).1 m).1⟩),fun R hR=>pre (Ev.pos h (t2 R hR))⟩
 ·obtain ⟨t,t1,t2⟩:=sp_l2 hn hw hl hal hk (nd l k).f0 (nd l k).f1 (nd l k).f2 w.length 0 (List.replicate n 0) (by omega) (by simp) (fun p hp=>by
   rw [hz]
   exact Ent.zero.congr (fun j=>⟨fun h=>h.elim,fun h=>by omega⟩))
  exact ⟨t,t1.congr (fun p hp j=>(M_sym h).symm),fun R hR=>pre (Ev.neg (by omega) (Ev.pos h (t2 R hR)))⟩
 ·obtain ⟨A,eA⟩:=Int.eq_ofNat_of_zero_le h1.1
  obtain ⟨B,eB⟩:=Int.eq_ofNat_of_zero_le h2.1
  have hA : A < k:=by omega
  have hB : B < k:=by omega
  have ra:=hrow A hA
  have rb:=hrow B hB
  have tA : (nd l k).f1.toNat = A:=by omega
  have tB : (nd l k).f2.toNat = B:=by omega
  rcases h with h|h
  ·obtain ⟨t,t1,t2⟩:=through_spec (n:=n) (by omega) ra rb
   refine ⟨t,t1.congr (fun p hp j=>?_),fun R hR=>pre (Ev.neg (by omega) (Ev.neg (by omega) (Ev.pos h ?_)))⟩
   ·rw [M_cat h,tA,tB]
    exact ⟨fun ⟨m,_,a,b⟩=>⟨m,a,b⟩,fun ⟨m,a,b⟩=>⟨m,hin a,a,b⟩⟩
   ·rw [eA,eB,rdU_nat,rdU_nat]
    exact Ev.pos (by omega) (Ev.pos (by omega) (Ev.pos (by omega) (Ev.pos (by omega) (Ev.bind t2 (last hR)))))
  ·obtain ⟨t,t1,t2⟩:=sp_l3 hn hw hl hal hk (nd l k).f0 hA hB ra rb n 0 (List.replicate n 0) (by omega) (by simp) (fun p hp=>by omega)
   refine ⟨t,t1.congr (fun p hp j=>?_),fun R hR=>pre (Ev.neg (by omega) (Ev.neg (by omega) (Ev.neg (by omega) (Ev.pos h ?_))))⟩
   ·rw [M_or h,tA,tB]
   ·have:=t2 R hR
    rw [← eA,← eB] at this
    exact this
 ·obtain ⟨A,eA⟩:=Int.eq_ofNat_of_zero_le h1.1
  have hA : A < k:=by omega
  have ra:=hrow A hA
  have tA : (nd l k).f1.toNat = A:=by omega
  obtain ⟨t,t1,t2⟩:=sp_l4 hn hw hl hal hk (nd l k).f0 (nd l k).f2 hA ra (fun c p j hp hs=>by
   have:=M_le (St_M (i:=k) h (by rw [tA];exact hs))
   omega) n 0 (List.replicate n 0) (by omega) (by simp) (fun p hp=>by omega)
  refine ⟨t,t1.congr (fun p hp j=>⟨fun hs=>St_M h (by rw [tA];exact hs),fun m=>?_⟩),fun R hR=>pre (Ev.neg (by omega) (Ev.neg (by omega) (Ev.neg (by omega) (Ev.neg (by omega) (Ev.pos h ?_)))))⟩
  ·have:=M_St h m
   rw [tA,← hn] at this
   exact this
  ·have:=t2 R hR
   rw [← eA] at this
   exact this
end
theorem spans_loop {w : List Int} {l : List S25} {n : Nat} (hn : n = w.length + 1) (hw : w.length ≤ 12) {kk : Int} (g : GoodS kk l) : ∀ (d k : Nat) (all : List (List Int)),k + d = l.length → all.length = l.length → (∀ i,i < k → Row n (all.getD i []) (M l w i)) → ∃ r : List (List Int),r.length = l.length ∧ (∀ i,i < l.length → Row n (r.getD i []) (M l w i)) ∧ Ev (fun q=>sentence_spans.l0 q w all l (l.length : Int) (k : Int) (n : Int)) r:=by
 have hl:=g.l9
 intro d
 induction d with
 | zero =>
  intro k all hk ha h
  exact ⟨all,ha,fun i hi=>h i (by omega),Ev.step (fun q=>by rw [sentence_spans.l0]) (Ev.neg (by omega) (Ev.now _))⟩
 | succ d ih =>
  intro k all hk ha h
  obtain ⟨t,t1,t2⟩:=sp_node hn hw hl ha (k:=k) (by omega) (g.ok k (by omega)) h
  obtain ⟨r,r1,r2,r3⟩:=ih (k + 1) (all.set k t) (by omega) (by rw [List.length_set];exact ha) (fun i hi=>by
   rw [getD_setL _ _ _ _ (by omega)]
   by_cases e : i = k
   ·rw [if_pos e,e];exact t1
   ·rw [if_neg e];exact h i (by omega))
  exact ⟨r,r1,r2,t2 r r3⟩
theorem takes_good {k : Int} {l : List S25} {w : List Int} (g : GoodS k l) (gw : GoodW k w) : ∃ b : Bool,Ev (fun q=>sentence_Takes.f q k l w) (b,0) ∧ (b = true ↔ M l w (l.length - 1) 0 w.length):=by
 have hl:=g.l9;have hl1:=g.l1;have hw:=gw.1
 obtain ⟨e,e1,e2⟩:=scheck_spec k l
 obtain ⟨e',f1,f2⟩:=words_spec k w
 obtain ⟨r,r1,r2,r3⟩:=spans_loop (n:=w.length + 1) rfl hw g l.length 0 (List.replicate l.length []) (by omega) (by simp) (fun i hi=>by omega)
 have hrow:=r2 (l.length - 1) (by omega)
 have hbit:=(hrow.2 0 (by omega)).bit w.length
 have hlen:=hrow.1
 refine ⟨decide (Go.bits .and .u32 (shr .u32 ((r.getD (l.length - 1) []).getD 0 0) (w.length : Int)) 1 = 1),?_,by rw [decide_eq_true_iff];exact hbit⟩
 have hs : Ev (fun q=>sentence_spans.f q l w) r:=by
  refine Ev.congr (fun q=>by rw [sentence_spans.f]) (Ev.pos (by omega) (Ev.pos (by omega) ?_))
  rw [w64 (n:=(w.length : Int) + 1) (by omega) (by omega),Int.toNat_natCast]
  exact r3
 have ht : Ev (fun q=>sentence_Take.f q l w) (decide (Go.bits .and .u32 (shr .u32 ((r.getD (l.length - 1) []).getD 0 0) (w.length : Int)) 1 = 1)):=by
  refine Ev.congr (fun q=>by rw [sentence_Take.f]) (Ev.bind hs ?_)
  rw [w64 (n:=(l.length : Int) - 1) (by omega) (by omega),show (l.length : Int) - 1 = ((l.length - 1 : Nat) : Int) by omega,rdU_nat]
  refine Ev.pos (by omega) (Ev.pos (by omega) (Ev.pos (by omega) (Ev.val ?_)))
  rw [show rd (r.getD (l.length - 1) []) 0 = (r.getD (l.length - 1) []).getD 0 0 from rd_nat _ 0]
  congr 1
  first|done|(rw [Bool.eq_iff_iff,beq_iff_eq,decide_eq_true_iff])
 refine Ev.congr (fun q=>by rw [sentence_Takes.f]) (Ev.bind e1 (Ev.pos (e2.2 g) ?_))
 exact Ev.bindc f1 (Ev.pos (f2.2 gw) (Ev.bind ht (Ev.now _)))
theorem takes_bad {k : Int} {l : List S25} {w : List Int} (h : ¬ (GoodS k l ∧ GoodW k w)) : ∃ e : Int,e ≠ 0 ∧ Ev (fun q=>sentence_Takes.f q k l w) (false,e):=by
 obtain ⟨e,e1,e2⟩:=scheck_spec k l
 obtain ⟨e',f1,f2⟩:=words_spec k w
 by_cases c : e = 0
 ·have c2 : e' ≠ 0:=fun c3=>h ⟨e2.1 c,f2.1 c3⟩
  exact ⟨e',c2,Ev.congr (fun q=>by rw [sentence_Takes.f]) (Ev.bind e1 (Ev.pos c (Ev.bindc f1 (Ev.neg c2 (Ev.now _)))))⟩
 ·exact ⟨e,c,Ev.congr (fun q=>by rw [sentence_Takes.f]) (Ev.bind e1 (Ev.neg c (Ev.now _)))⟩
end Go.Proofs.Ytkjhddjenkocjaa.PBM

namespace Go.Proofs.Ytkjhddjenkocjaa.PBM
set_option linter.unusedVariables false
set_option linter.unusedSimpArgs false
open Go.RowKit Go.Proofs.Ytkjhddjenkocjaa.GB Go.Proofs.YtkjhddjenkocjaaW.PrintWords Go.Proofs.YtkjhddjenkocjaaW.PrintLast Go.Proofs.YtkjhddjenkocjaaW.PrintMore
theorem wordcheck_loop (k : Int) (w : List Int) (hw : w.length ≤ 12) : ∀ (d i : Nat),i + d = w.length → Ev (fun q=>coppicerref_WordCheck.l0 q k w (w.length : Int) (i : Int)) (if (w.drop i).all (okN k) = true then 0 else 2):=by
 intro d
 induction d with
 | zero =>
  intro i hi
  refine Ev.step (fun q=>by rw [coppicerref_WordCheck.l0]) (Ev.neg (by omega) ?_)
  rw [List.drop_eq_nil_of_le (by omega)]
  exact Ev.now _
 | succ d ih =>
  intro i hi
  have hlt : i < w.length:=by omega
  refine Ev.step (fun q=>by rw [coppicerref_WordCheck.l0]) (Ev.pos (by omega) (Ev.pos (by omega) (Ev.pos (by omega) ?_)))
  rw [rd_nat,drop_cons hlt 0,List.all_cons]
  generalize w.getD i 0 = x
  by_cases h1 : x < 0
  ·refine Ev.pos h1 ?_
   rw [show okN k x = false by simp [okN];omega]
   exact Ev.now _
  ·refine Ev.neg h1 ?_
   by_cases h2 : x ≥ k
   ·refine Ev.pos h2 ?_
    rw [show okN k x = false by simp [okN];omega]
    exact Ev.now _
   ·refine Ev.neg h2 ?_
    rw [show okN k x = true by simp [okN];omega,Bool.true_and,w64 (n:=(i : Int) + 1) (by omega) (by omega)]
    exact ih (i + 1) (by omega)
theorem wordcheck_spec (k : Int) (w : List Int) : ∃ e,Ev (fun q=>coppicerref_WordCheck.f q k w) e ∧ (e = 0 ↔ GoodW k w):=by
 unfold GoodW
 by_cases h : (w.length : Int) > 12
 ·exact ⟨1,Ev.congr (fun q=>by rw [coppicerref_WordCheck.f]) (Ev.pos h (Ev.now _)),fun h'=>absurd h' (by decide),fun h'=>by omega⟩
 ·refine ⟨_,Ev.congr (f:=fun q=>if (w.length : Int) > 12 then some 1 else coppicerref_WordCheck.l0 q k w (w.length : Int) ((0 : Nat) : Int)) (fun q=>by rw [coppicerref_WordCheck.f];rfl) (Ev.neg h (wordcheck_loop k w (by omega) w.length 0 (by omega))),?_⟩
  rw [List.drop_zero]
  by_cases h2 : w.all (okN k) = true
  ·rw [if_pos h2]
   refine ⟨fun _=>⟨by omega,fun s hs=>okN_iff.1 (List.all_eq_true.1 h2 s hs)⟩,fun _=>rfl⟩
  ·rw [if_neg h2]
   refine ⟨fun h'=>absurd h' (by decide),fun h'=>absurd (List.all_eq_true.2 fun s hs=>okN_iff.2 (h'.2 s hs)) h2⟩
end Go.Proofs.Ytkjhddjenkocjaa.PBM

namespace Go.Proofs.Ytkjhddjenkocjaa.PBM
set_option linter.unusedVariables false
set_option linter.unusedSimpArgs false
open Go.RowKit Go.Proofs.Ytkjhddjenkocjaa.GB Go.Proofs.YtkjhddjenkocjaaW.PrintWords Go.Proofs.YtkjhddjenkocjaaW.PrintLast Go.Proofs.YtkjhddjenkocjaaW.PrintMore
theorem ref_step (k : Int) (l : List S25) (hl : l.length ≤ 1000) (i : Nat) (hi : i < l.length) : (nodeOk k i (nd l i) → ∀ r,Ev (fun q=>coppicerref_Right.l0 q k l (l.length : Int) ((i + 1 : Nat) : Int)) r → Ev (fun q=>coppicerref_Right.l0 q k l (l.length : Int) (i : Int)) r) ∧ (¬ nodeOk k i (nd l i) → ∃ e,e ≠ 0 ∧ Ev (fun q=>coppicerref_Right.l0 q k l (l.length : Int) (i : Int)) e):=by
 have ew : wrap64 ((i : Int) + 1) = ((i + 1 : Nat) : Int):=by rw [w64 (by omega) (by omega)];rfl
 have pre1 : ∀ {r : Int} {t : Bool},t = decide ((nd l i).f0 < 1 ∨ (nd l i).f0 > 6) → Ev (fun q=>coppicerref_Right.j1 q k (i : Int) l (l.length : Int) (i : Int) t (nd l i).f0 (nd l i).f1 (nd l i).f2) r → Ev (fun q=>coppicerref_Right.l0 q k l (l.length : Int) (i : Int)) r:=by
  intro r t ht h
  refine Ev.step (fun q=>by rw [coppicerref_Right.l0]) (Ev.pos (by omega) (Ev.pos (by omega) (Ev.pos (by omega) ?_)))
  rw [rdN_nat]
  by_cases c : (nd l i).f0 < 1
  ·refine Ev.pos c ?_
   rw [show true = t by rw [ht];simp [c]]
   exact h
  ·refine Ev.neg c ?_
   rw [show decide ((nd l i).f0 > 6) = t by rw [ht,decide_eq_decide];omega]
   exact h
 revert pre1
 generalize nd l i = x
 obtain ⟨a,b,c⟩:=x
 simp only [nodeOk]
 intro pre1
 by_cases c1 : a < 1 ∨ a > 6
 ·refine ⟨fun h=>by omega,fun _=>⟨6,by decide,pre1 (decide_eq_true c1).symm (Ev.step (fun q=>by rw [coppicerref_Right.j1]) (Ev.pos rfl (Ev.now _)))⟩⟩
 have pre2 : ∀ {r : Int} {t : Bool},t = decide (a = 3 ∧ (b < 0 ∨ b ≥ k)) → Ev (fun q=>coppicerref_Right.j2 q k (i : Int) l (l.length : Int) (i : Int) t a b c) r → Ev (fun q=>coppicerref_Right.l0 q k l (l.length : Int) (i : Int)) r:=by
  intro r t ht h
  refine pre1 (decide_eq_false c1).symm (Ev.step (fun q=>by rw [coppicerref_Right.j1]) (Ev.neg (by decide) ?_))
  by_cases c3 : a = 3
  ·refine Ev.pos c3 ?_
   by_cases c4 : b < 0
   ·refine Ev.pos c4 ?_
    rw [show true = t by rw [ht];simp [c3,c4]]
    exact h
   ·refine Ev.neg c4 ?_
    rw [show decide (b ≥ k) = t by rw [ht,decide_eq_decide];omega]
    exact h
  ·refine Ev.neg c3 ?_
   rw [show false = t by rw [ht];simp [c3]]
   exact h
 by_cases c2 : a = 3 ∧ (b < 0 ∨ b ≥ k)
 ·refine ⟨fun h=>by omega,fun _=>⟨2,by decide,pre2 (decide_eq_true c2).symm (Ev.step (fun q=>by rw [coppicerref_Right.j2]) (Ev.pos rfl (Ev.now _)))⟩⟩
 have pre3 : ∀ {r : Int} {t : Bool},t = decide (a ≥ 4 ∧ (b < 0 ∨ b ≥ (i : Int))) → Ev (fun q=>coppicerref_Right.j3 q k (i : Int) l (l.length : Int) (i : Int) t a b c) r → Ev (fun q=>coppicerref_Right.l0 q k l (l.length : Int) (i : Int)) r:=by
  intro r t ht h
  refine pre2 (decide_eq_false c2).symm (Ev.step (fun q=>by rw [coppicerref_Right.j2]) (Ev.neg (by decide) ?_))
  by_cases c3 : a ≥ 4
  ·refine Ev.pos c3 ?_
   by_cases c4 : b < 0
   ·refine Ev.pos c4 ?_
    rw [show true = t by rw [ht];simp [c3,c4]]
    exact h
   ·refine Ev.neg c4 ?_
    rw [show decide (b ≥ (i : Int)) = t by rw [ht,decide_eq_decide];omega]
    exact h
  ·refine Ev.neg c3 ?_
   rw [show false = t by rw [ht];simp;omega]
   exact h
 by_cases c3 : a ≥ 4 ∧ (b < 0 ∨ b ≥ (i : Int))
 ·refine ⟨fun h=>by omega,fun _=>⟨2,by decide,pre3 (decide_eq_true c3).symm (Ev.step (fun q=>by rw [coppicerref_Right.j3]) (Ev.pos rfl (Ev.now _)))⟩⟩
 have pre4 : ∀ {r : Int},Ev (fun q=>if a = 4 then (if c < 0 then (some 2) else (if c ≥ (i : Int) then (some 2) else (coppicerref_Right.l0 q k l (l.length : Int) ((i + 1 : Nat) : Int)))) else (if a = 5 then (if c < 0 then (some 2) else (if c ≥ (i : Int) then (some 2) else (coppicerref_Right.l0 q k l (l.length : Int) ((i + 1 : Nat) : Int)))) else (coppicerref_Right.l0 q k l (l.length : Int) ((i + 1 : Nat) : Int)))) r → Ev (fun q=>coppicerref_Right.l0 q k l (l.length : Int) (i : Int)) r:=by
  intro r h
  refine pre3 (decide_eq_false c3).symm (Ev.step (fun q=>by rw [coppicerref_Right.j3]) (Ev.neg (by decide) ?_))
  rw [ew]
  exact h
 have pre5 : ∀ {r : Int},(a = 4 ∨ a = 5) → Ev (fun q=>if c < 0 then (some 2) else (if c ≥ (i : Int) then (some 2) else (coppicerref_Right.l0 q k l (l.length : Int) ((i + 1 : Nat) : Int)))) r → Ev (fun q=>coppicerref_Right.l0 q k l (l.length : Int) (i : Int)) r:=by
  intro r h0 h
  rcases h0 with h0|h0
  ·exact pre4 (Ev.pos h0 h)
  ·exact pre4 (Ev.neg (by omega) (Ev.pos h0 h))
 by_cases c45 : a = 4 ∨ a = 5
 ·refine ⟨fun h r hr=>pre5 c45 (Ev.neg (by omega) (Ev.neg (by omega) hr)),fun h=>⟨2,by decide,pre5 c45 ?_⟩⟩
  by_cases c5 : c < 0
  ·exact Ev.pos c5 (Ev.now _)
  ·exact Ev.neg c5 (Ev.pos (by omega) (Ev.now _))
 ·refine ⟨fun h r hr=>pre4 (Ev.neg (by omega) (Ev.neg (by omega) hr)),fun h=>by omega⟩
theorem ref_loop (k : Int) (l : List S25) (hl : l.length ≤ 1000) : ∀ (d i : Nat),i + d = l.length → ∃ e,Ev (fun q=>coppicerref_Right.l0 q k l (l.length : Int) (i : Int)) e ∧ (e = 0 ↔ ∀ t,i ≤ t → t < l.length → nodeOk k t (nd l t)):=by
 intro d
 induction d with
 | zero =>
  intro i hi
  exact ⟨0,Ev.step (fun q=>by rw [coppicerref_Right.l0]) (Ev.neg (by omega) (Ev.now _)),fun _ t a b=>by omega,fun _=>rfl⟩
 | succ d ih =>
  intro i hi
  obtain ⟨h1,h2⟩:=ref_step k l hl i (by omega)
  by_cases c : nodeOk k i (nd l i)
  ·obtain ⟨e,e1,e2⟩:=ih (i + 1) (by omega)
   refine ⟨e,h1 c _ e1,e2.trans ⟨fun h t a b=>?_,fun h t a b=>h t (by omega) b⟩⟩
   rcases Nat.eq_or_lt_of_le a with x|x
   ·subst x;exact c
   ·exact h t x b
  ·obtain ⟨e,e1,e2⟩:=h2 c
   exact ⟨e,e2,fun h=>absurd h e1,fun h=>absurd (h i (Nat.le_refl _) (by omega)) c⟩
theorem refs_spec (k : Int) (l : List S25) : ∃ e,Ev (fun q=>coppicerref_SentenceCheck.f q k l) e ∧ (e = 0 ↔ GoodS k l):=by
 have go : ∀ {r : Int},Ev (fun q=>if k < 1 then (some 1) else (if k > 3 then (some 1) else (if (l.length : Int) = 0 then (some 1) else (if (l.length : Int) > 9 then (some 1) else ((coppicerref_Right.f q k l).bind fun t107=>(some t107)))))) r → Ev (fun q=>coppicerref_SentenceCheck.f q k l) r:=fun h=>Ev.congr (fun q=>by rw [coppicerref_SentenceCheck.f]) h
 by_cases c1 : k < 1
 ·exact ⟨1,go (Ev.pos c1 (Ev.now _)),fun h=>absurd h (by decide),fun h=>by have:=h.k1;omega⟩
 by_cases c2 : k > 3
 ·exact ⟨1,go (Ev.neg c1 (Ev.pos c2 (Ev.now _))),fun h=>absurd h (by decide),fun h=>by have:=h.k3;omega⟩
 by_cases c3 : (l.length : Int) = 0
 ·exact ⟨1,go (Ev.neg c1 (Ev.neg c2 (Ev.pos c3 (Ev.now _)))),fun h=>absurd h (by decide),fun h=>by have:=h.l1;omega⟩
 by_cases c4 : (l.length : Int) > 9
 ·exact ⟨1,go (Ev.neg c1 (Ev.neg c2 (Ev.neg c3 (Ev.pos c4 (Ev.now _))))),fun h=>absurd h (by decide),fun h=>by have:=h.l9;omega⟩
 obtain ⟨e,e1,e2⟩:=ref_loop k l (by omega) l.length 0 (by omega)
 have e3 : Ev (fun q=>coppicerref_Right.f q k l) e:=Ev.congr (fun q=>by rw [coppicerref_Right.f];rfl) e1
 exact ⟨e,go (Ev.neg c1 (Ev.neg c2 (Ev.neg c3 (Ev.neg c4 (Ev.bind e3 (Ev.now _)))))),e2.trans ⟨fun h=>⟨by omega,by omega,by omega,by omega,fun t b=>h t (Nat.zero_le _) b⟩,fun h t _ b=>h.ok t b⟩⟩
theorem said_spec (k : Int) (l : List S25) (w : List Int) : ∃ b : Bool,Ev (fun q=>coppicerkeep_said.f q k l w) b ∧ (b = true ↔ GoodS k l ∧ GoodW k w):=by
 obtain ⟨e,e1,e2⟩:=refs_spec k l
 obtain ⟨e',f1,f2⟩:=wordcheck_spec k w
 by_cases c : e = 0
 ·refine ⟨e' == 0,Ev.congr (fun q=>by rw [coppicerkeep_said.f]) (Ev.bind e1 (Ev.pos c (Ev.bind f1 (Ev.now (e' == 0))))),?_⟩
  rw [beq_iff_eq,f2]
  exact ⟨fun h=>⟨e2.1 c,h⟩,fun h=>h.2⟩
 ·exact ⟨false,Ev.congr (fun q=>by rw [coppicerkeep_said.f]) (Ev.bind e1 (Ev.neg c (Ev.now _))),(fun h=>by cases h),fun h=>absurd (e2.2 h.1) c⟩
theorem nd_left {l e : List S25} {i : Nat} (h : i < l.length) : nd (l ++ e) i = nd l i:=by
 unfold nd
 rw [List.getD_eq_getElem?_getD,List.getD_eq_getElem?_getD,List.getElem?_append_left h]
theorem nd_right {l e : List S25} (i : Nat) : nd (l ++ e) (l.length + i) = nd e i:=by
 unfold nd
 rw [List.getD_eq_getElem?_getD,List.getD_eq_getElem?_getD,List.getElem?_append_right (by omega),Nat.add_sub_cancel_left]
theorem allOk_left {k : Int} {l e : List S25} (h : AllOk k (l ++ e)) : AllOk k l:=fun i hi=>by
 have:=h i (by rw [List.length_append];omega)
 rwa [nd_left hi] at this
theorem allOk_app {k : Int} {l e : List S25} (h : AllOk k l) (he : ∀ t,t < e.length → nodeOk k (l.length + t) (nd e t)) : AllOk k (l ++ e):=fun i hi=>by
 rw [List.length_append] at hi
 rcases Nat.lt_or_ge i l.length with c|c
 ·rw [nd_left c];exact h i c
 ·obtain ⟨t,rfl⟩ : ∃ t,i = l.length + t:=⟨i - l.length,by omega⟩
  rw [nd_right]
  exact he t (by omega)
/-- What a node names stands ahead of it. -/
theorem refs_lt {k : Int} {i : Nat} {x : S25} (h : nodeOk k i x) : (x.f0 = 4 ∨ x.f0 = 5 → x.f1.toNat < i ∧ x.f2.toNat < i) ∧ (x.f0 = 6 → x.f1.toNat < i):=by
 unfold nodeOk at h
 exact ⟨fun _=>by omega,fun _=>by omega⟩
/-- Nodes behind it are no matter to a node. -/
theorem M_app {k : Int} {l e : List S25} {w : List Int} (h : AllOk k l) {i p j : Nat} (hi : i < l.length) : M (l ++ e) w i p j ↔ M l w i p j:=by
 constructor
 ·intro m
  induction m with
  | empty a b=>rw [nd_left hi] at a;exact .empty a b
  | sym a b c=>rw [nd_left hi] at a c;exact .sym a b c
  | @cat i p q j a b c ih1 ih2 =>
   have hr:=refs_lt (h i hi)
   rw [nd_left hi] at a ih1 ih2
   have:=hr.1 (.inl a)
   exact .cat a (ih1 (by omega)) (ih2 (by omega))
  | @orl i p j a b ih =>
   have hr:=refs_lt (h i hi)
   rw [nd_left hi] at a ih
   have:=hr.1 (.inr a)
   exact .orl a (ih (by omega))
  | @orr i p j a b ih =>
   have hr:=refs_lt (h i hi)
   rw [nd_left hi] at a ih
   have:=hr.1 (.inr a)
   exact .orr a (ih (by omega))
  | star0 a b=>rw [nd_left hi] at a;exact .star0 a b
  | @star i p q j a b c ih1 ih2 =>
   have hr:=refs_lt (h i hi)
   rw [nd_left hi] at a ih2
   have:=hr.2 a
   exact .star a (ih1 hi) (ih2 (by omega))
 ·intro m
  induction m with
  | empty a b=>exact .empty (by rw [nd_left hi];exact a) b
  | sym a b c=>exact .sym (by rw [nd_left hi];exact a) b (by rw [nd_left hi];exact c)
  | @cat i p q j a b c ih1 ih2 =>
   have:=(refs_lt (h i hi)).1 (.inl a)
   exact .cat (by rw [nd_left hi];exact a) (by rw [nd_left hi];exact ih1 (by omega)) (by rw [nd_left hi];exact ih2 (by omega))
  | @orl i p j a b ih =>
   have:=(refs_lt (h i hi)).1 (.inr a)
   exact .orl (by rw [nd_left hi];exact a) (by rw [nd_left hi];exact ih (by omega))
  | @orr i p j a b ih =>
   have:=(refs_lt (h i hi)).1 (.inr a)
   exact .orr (by rw [nd_left hi];exact a) (by rw [nd_left hi];exact ih (by omega))
  | star0 a b=>exact .star0 (by rw [nd_left hi];exact a) b
  | @star i p q j a b c ih1 ih2 =>
   have:=(refs_lt (h i hi)).2 a
   exact .star (by rw [nd_left hi];exact a) (ih1 hi) (by rw [nd_left hi];exact ih2 (by omega))
section
variable {l : List S25} {w : List Int}
theorem star_trans {i : Nat} (h : (nd l i).f0 = 6) {q j : Nat} (m : M l w i q j) : ∀ {p : Nat},M l w i p q → M l w i p j:=by
 have key : ∀ {i' q j : Nat},M l w i' q j → i' = i → ∀ {p : Nat},M l w i p q → M l w i p j:=by
  intro i' q j m
  induction m with
  | empty a _=>rintro rfl;omega
  | sym a _ _=>rintro rfl;omega
  | cat a _ _=>rintro rfl;omega
  | orl a _=>rintro rfl;omega
  | orr a _=>rintro rfl;omega
  | star0 a b=>rintro rfl p hp;exact hp
  | star a b c ih1 _=>rintro rfl p hp;exact .star a (ih1 rfl hp) c
 intro p hp
 exact key m rfl hp
theorem star_left {i : Nat} (h : (nd l i).f0 = 6) {p j : Nat} (m : M l w i p j) : j = p ∨ ∃ q,M l w (nd l i).f1.toNat p q ∧ M l w i q j:=by
 have key : ∀ {i' p j : Nat},M l w i' p j → i' = i → j = p ∨ ∃ q,M l w (nd l i).f1.toNat p q ∧ M l w i q j:=by
  intro i' p j m
  induction m with
  | empty a _=>rintro rfl;omega
  | sym a _ _=>rintro rfl;omega
  | cat a _ _=>rintro rfl;omega
  | orl a _=>rintro rfl;omega
  | orr a _=>rintro rfl;omega
  | star0 a b=>rintro rfl;exact .inl rfl
  | @star i2 p q j a b c ih1 _ =>
   rintro rfl
   rcases ih1 rfl with e|⟨r,r1,r2⟩
   ·subst e
    exact .inr ⟨j,c,.star0 a (M_le c).2⟩
   ·exact .inr ⟨r,r1,.star a r2 c⟩
 exact key m rfl
theorem star_one {i : Nat} (h : (nd l i).f0 = 6) {p j : Nat} (m : M l w (nd l i).f1.toNat p j) : M l w i p j:=.star h (.star0 h (by have:=M_le m;omega)) m
end
end Go.Proofs.Ytkjhddjenkocjaa.PBM

namespace Go.Proofs.Ytkjhddjenkocjaa.PBM
set_option linter.unusedVariables false
set_option linter.unusedSimpArgs false
open Go.RowKit Go.Proofs.Ytkjhddjenkocjaa.GB Go.Proofs.YtkjhddjenkocjaaW.PrintWords Go.Proofs.YtkjhddjenkocjaaW.PrintLast Go.Proofs.YtkjhddjenkocjaaW.PrintMore
/-- A node turned round. -/
def swp (x : S25) : S25:=if x.f0 = 4 then ⟨x.f0,x.f2,x.f1⟩ else x
theorem swp_f0 (x : S25) : (swp x).f0 = x.f0:=by unfold swp;split <;> rfl
theorem swp_swp (x : S25) : swp (swp x) = x:=by
 unfold swp
 by_cases c : x.f0 = 4
 ·rw [if_pos c,if_pos c]
 ·rw [if_neg c,if_neg c]
theorem swp_ok {k : Int} {i : Nat} {x : S25} (h : nodeOk k i x) : nodeOk k i (swp x):=by
 unfold swp
 by_cases c : x.f0 = 4
 ·rw [if_pos c]
  simp only [nodeOk] at h ⊢
  omega
 ·rw [if_neg c];exact h
theorem nd_map (l : List S25) (i : Nat) : nd (l.map swp) i = swp (nd l i):=by
 unfold nd
 rw [List.getD_eq_getElem?_getD,List.getD_eq_getElem?_getD,List.getElem?_map]
 cases l[i]? with
 | none=>rfl
 | some x=>rfl
theorem good_swp {k : Int} {l : List S25} (g : GoodS k l) : GoodS k (l.map swp):=⟨g.k1,g.k3,by rw [List.length_map];exact g.l1,by rw [List.length_map];exact g.l9,fun i hi=>by
 rw [nd_map]
 exact swp_ok (g.ok i (by rwa [List.length_map] at hi))⟩
theorem getD_rev {w : List Int} {p : Nat} (h : p < w.length) : w.reverse.getD (w.length - (p + 1)) 0 = w.getD p 0:=by
 rw [List.getD_eq_getElem?_getD,List.getD_eq_getElem?_getD,List.getElem?_reverse (by omega)]
 congr 2
 omega
theorem M_rev {l : List S25} {w : List Int} {i p j : Nat} (m : M l w i p j) : M (l.map swp) w.reverse i (w.length - j) (w.length - p):=by
 induction m with
 | @empty i p a b =>
  refine .empty (by rw [nd_map,swp_f0];exact a) (by rw [List.length_reverse];omega)
 | @sym i p a b c =>
  have h:=M.sym (l:=l.map swp) (w:=w.reverse) (i:=i) (p:=w.length - (p + 1)) (by rw [nd_map,swp_f0];exact a) (by rw [List.length_reverse];omega) (by
   rw [getD_rev b,c,nd_map]
   unfold swp
   rw [if_neg (by omega)])
  rw [show w.length - (p + 1) + 1 = w.length - p by omega] at h
  exact h
 | @cat i p q j a b c ih1 ih2 =>
  have e : nd (l.map swp) i = ⟨(nd l i).f0,(nd l i).f2,(nd l i).f1⟩:=by rw [nd_map];unfold swp;rw [if_pos a]
  exact .cat (by rw [e];exact a) (by rw [e];exact ih2) (by rw [e];exact ih1)
 | @orl i p j a b ih =>
  have e : nd (l.map swp) i = nd l i:=by rw [nd_map];unfold swp;rw [if_neg (by omega)]
  exact .orl (by rw [e];exact a) (by rw [e];exact ih)
 | @orr i p j a b ih =>
  have e : nd (l.map swp) i = nd l i:=by rw [nd_map];unfold swp;rw [if_neg (by omega)]
  exact .orr (by rw [e];exact a) (by rw [e];exact ih)
 | @star0 i p a b=>exact .star0 (by rw [nd_map,swp_f0];exact a) (by rw [List.length_reverse];omega)
 | @star i p q j a b c ih1 ih2 =>
  have e : nd (l.map swp) i = nd l i:=by rw [nd_map];unfold swp;rw [if_neg (by omega)]
  have a2 : (nd (l.map swp) i).f0 = 6:=by rw [e];exact a
  exact star_trans a2 ih1 (star_one a2 (by rw [e];exact ih2))
theorem M_rev_iff (l : List S25) (w : List Int) (i : Nat) : M (l.map swp) w.reverse i 0 w.length ↔ M l w i 0 w.length:=by
 constructor
 ·intro m
  have h:=M_rev m
  rw [List.map_map,List.length_reverse,List.reverse_reverse,Nat.sub_self,Nat.sub_zero,show (swp ∘ swp) = id from funext swp_swp,List.map_id] at h
  exact h
 ·intro m
  have h:=M_rev m
  rwa [Nat.sub_self,Nat.sub_zero] at h
theorem nd_set (l : List S25) (n t : Nat) (x : S25) (h : n < l.length) : nd (l.set n x) t = if t = n then x else nd l t:=by
 unfold nd
 rw [List.getD_eq_getElem?_getD,List.getD_eq_getElem?_getD,List.getElem?_set]
 by_cases e : n = t
 ·subst e;simp [h]
 ·rw [if_neg e,if_neg (Ne.symm e)]
theorem back_loop (l : List S25) (hl : l.length ≤ 9) : ∀ (d i : Nat) (x : List S25),i + d = l.length → x.length = l.length → (∀ t,nd x t = if t < i then swp (nd l t) else nd l t) → Ev (fun q=>sentence_Back.l0 q x (l.length : Int) (i : Int)) (l.map swp,0):=by
 intro d
 induction d with
 | zero =>
  intro i x hi hx h
  refine Ev.step (fun q=>by rw [sentence_Back.l0]) (Ev.neg (by omega) (Ev.val ?_))
  congr 2
  refine List.ext_getElem (by rw [hx,List.length_map]) fun t t1 t2=>?_
  have:=h t
  rw [if_pos (by omega)] at this
  unfold nd at this
  rw [List.getD_eq_getElem?_getD,List.getD_eq_getElem?_getD,List.getElem?_eq_getElem t1,List.getElem?_eq_getElem (by omega : t < l.length)] at this
  rw [List.getElem_map]
  exact this
 | succ d ih =>
  intro i x hi hx h
  have hi2:=h i
  rw [if_neg (by omega)] at hi2
  have next : ∀ {x' : List S25},x'.length = l.length → (∀ t,nd x' t = if t = i then swp (nd l i) else nd x t) → Ev (fun q=>sentence_Back.l0 q x' (l.length : Int) (wrap64 ((i : Int) + 1))) (l.map swp,0):=by
   intro x' l1 l2
   rw [w64 (n:=(i : Int) + 1) (by omega) (by omega)]
   refine ih (i + 1) x' (by omega) l1 (fun t=>?_)
   rw [l2,h]
   by_cases e : t = i
   ·subst e
    rw [if_pos rfl,if_pos (by omega)]
   ·rw [if_neg e]
    by_cases e2 : t < i
    ·rw [if_pos e2,if_pos (by omega)]
    ·rw [if_neg e2,if_neg (by omega)]
  refine Ev.step (fun q=>by rw [sentence_Back.l0]) (Ev.pos (by omega) (Ev.pos (by omega) (Ev.pos (by omega) ?_)))
  rw [rdN_nat]
  by_cases c : (nd x i).f0 = 4
  ·refine Ev.pos c (Ev.let_ ?_)
   rw [rdN_nat,Int.toNat_natCast]
   refine next (by rw [List.length_set,List.length_set];exact hx) (fun t=>?_)
   have c' : (nd l i).f0 = 4:=by rw [← hi2];exact c
   rw [nd_set _ _ _ _ (by rw [List.length_set];omega),nd_set _ _ _ _ (by omega),nd_set _ _ _ _ (by omega),if_pos rfl,hi2]
   by_cases e : t = i
   ·rw [if_pos e,if_pos e]
    unfold swp
    rw [if_pos c']
   ·rw [if_neg e,if_neg e,if_neg e]
  ·refine Ev.neg c (next hx (fun t=>?_))
   by_cases e : t = i
   ·rw [if_pos e,e,hi2]
    unfold swp
    rw [if_neg (by rw [← hi2];exact c)]
   ·rw [if_neg e]
theorem back_good {k : Int} {l : List S25} (g : GoodS k l) : Ev (fun q=>sentence_Back.f q k l) (l.map swp,0):=by
 obtain ⟨e,e1,e2⟩:=scheck_spec k l
 have hl:=g.l9
 refine Ev.congr (fun q=>by rw [sentence_Back.f]) (Ev.bind e1 (Ev.pos (e2.2 g) ?_))
 refine Ev.bindc (a:=l) (by unfold api_Node.f;rw [if_pos (by omega)]) ?_
 exact back_loop l hl l.length 0 l (by omega) rfl (fun t=>by rw [if_neg (by omega)])
theorem back_any (k : Int) (l : List S25) : ∃ r,Ev (fun q=>sentence_Back.f q k l) r:=by
 by_cases g : GoodS k l
 ·exact ⟨_,back_good g⟩
 ·obtain ⟨e,e1,e2⟩:=scheck_spec k l
  exact ⟨_,Ev.congr (fun q=>by rw [sentence_Back.f]) (Ev.bind e1 (Ev.neg (fun h=>g (e2.1 h)) (Ev.now _)))⟩
end Go.Proofs.Ytkjhddjenkocjaa.PBM
