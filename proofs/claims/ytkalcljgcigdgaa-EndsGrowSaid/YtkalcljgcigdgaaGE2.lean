-- Written by ext.py, a program of this session.
import Derived.Test.YtkalcljgcigdgaaGE0
namespace Go.Proofs.Ytkalcljgcigdgaa.GE
open Go.RowKit Go.Proofs.YtkalcljgcigdgaaW.PrintWords Go.Proofs.YtkalcljgcigdgaaW.PrintLast Go.Proofs.YtkalcljgcigdgaaW.PrintMore
attribute [local go_sem] max2_int min2_int max_two min_two max_three min_three max_four min_four cellIs_set   -- for this text's walks alone
set_option linter.unusedVariables false
set_option linter.unusedSimpArgs false

/-! ### ends_order: function 47 -/
def ends_order.cf (w : List Int) (i j : Int) : Int := Lib.compareBytes (strOfNums (w.drop i.toNat)).data.toList (strOfNums (w.drop j.toNat)).data.toList
def ends_order.fin (w : List Int) : List (Fin w.length) := (List.finRange w.length).mergeSort fun x y => !decide (ends_order.cf w ((y.val : Nat) : Int) ((x.val : Nat) : Int) < 0)
def ends_order.f (l0 : List Int) : Option (List Int) := if l0.length < 1000 then some ((ends_order.fin l0).map fun i => ((i.val : Nat) : Int)) else none
def ends_order.lay_ren : Go.Shelf.Ren := ⟨fun | 6 => 76 | 15 => 97 | 14 => 96 | 28 => 125 | 29 => 126 | 20 => 117 | 21 => 118 | 22 => 119 | 23 => 120 | 24 => 121 | 25 => 122 | 26 => 123 | 27 => 124 | 46 => 140 | 47 => 141 | 48 => 142 | 49 => 143 | 50 => 144 | 57 => 159 | n => n, fun | 22 => 24 | 24 => 3 | 25 => 137 | 3 => 3 | 39 => 91 | 0 => 0 | 53 => 33 | 55 => 87 | 4 => 4 | 46 => 183 | 45 => 182 | 50 => 117 | 5 => 5 | 9 => 9 | 66 => 198 | 70 => 202 | 76 => 213 | 77 => 214 | n => n, fun n => n⟩
theorem ends_order.lay : SlLaysF.n6 Try.prog ends_order.lay_ren :=
  {
    mixed := (by kernel_rfl),
    f6 := ⟨Try.f76.name, by decide, Try.func76.trans (congrArg some (by kernel_rfl))⟩,
    f14 := ⟨Try.f96.name, by decide, Try.func96.trans (congrArg some (by kernel_rfl))⟩,
    f15 := Try.func97.trans (congrArg some (by kernel_rfl)),
    f20 := ⟨Try.f117.name, by decide, Try.func117.trans (congrArg some (by kernel_rfl))⟩,
    f21 := ⟨Try.f118.name, by decide, Try.func118.trans (congrArg some (by kernel_rfl))⟩,
    f22 := ⟨Try.f119.name, by decide, Try.func119.trans (congrArg some (by kernel_rfl))⟩,
    f23 := ⟨Try.f120.name, by decide, Try.func120.trans (congrArg some (by kernel_rfl))⟩,
    f24 := ⟨Try.f121.name, by decide, Try.func121.trans (congrArg some (by kernel_rfl))⟩,
    f25 := ⟨Try.f122.name, by decide, Try.func122.trans (congrArg some (by kernel_rfl))⟩,
    f26 := ⟨Try.f123.name, by decide, Try.func123.trans (congrArg some (by kernel_rfl))⟩,
    f27 := ⟨Try.f124.name, by decide, Try.func124.trans (congrArg some (by kernel_rfl))⟩,
    f28 := Try.func125.trans (congrArg some (by kernel_rfl)),
    f29 := Try.func126.trans (congrArg some (by kernel_rfl)),
    f46 := ⟨Try.f140.name, by decide, Try.func140.trans (congrArg some (by kernel_rfl))⟩,
    f47 := Try.func141.trans (congrArg some (by kernel_rfl)),
    f48 := Try.func142.trans (congrArg some (by kernel_rfl)),
    f49 := ⟨Try.f143.name, by decide, Try.func143.trans (congrArg some (by kernel_rfl))⟩,
    f50 := ⟨Try.f144.name, by decide, Try.func144.trans (congrArg some (by kernel_rfl))⟩,
    f57 := ⟨Try.f159.name, by decide, Try.func159.trans (congrArg some (by kernel_rfl))⟩,
    t0 := Try.underlying0,
    a0 := Try.isAgg0,
    z0 := Try.sizeOf0,
    v0 := Try.zeroValue0,
    t3 := Try.underlying3,
    a3 := Try.isAgg3,
    z3 := Try.sizeOf3,
    v3 := Try.zeroValue3,
    t4 := Try.underlying4,
    a4 := Try.isAgg4,
    z4 := Try.sizeOf4,
    v4 := Try.zeroValue4,
    t5 := Try.underlying5,
    a5 := Try.isAgg5,
    z5 := Try.sizeOf5,
    v5 := Try.zeroValue5,
    t9 := Try.underlying9,
    a9 := Try.isAgg9,
    z9 := Try.sizeOf9,
    v9 := Try.zeroValue9,
    t22 := Try.underlying24,
    a22 := Try.isAgg24,
    z22 := Try.sizeOf24,
    v22 := Try.zeroValue24,
    a24 := Try.isAgg3,
    z24 := Try.sizeOf3,
    t25 := Try.underlying137,
    a25 := Try.isAgg137,
    z25 := Try.sizeOf137,
    v25 := Try.zeroValue137,
    t39 := Try.underlying91,
    a39 := Try.isAgg91,
    z39 := Try.sizeOf91,
    v39 := Try.zeroValue91,
    t45 := Try.underlying182,
    a45 := Try.isAgg182,
    z45 := Try.sizeOf182,
    v45 := Try.zeroValue182,
    t46 := Try.underlying183,
    a46 := Try.isAgg183,
    z46 := Try.sizeOf183,
    v46 := Try.zeroValue183,
    t50 := Try.underlying117,
    a50 := Try.isAgg117,
    z50 := Try.sizeOf117,
    v50 := Try.zeroValue117,
    t53 := Try.underlying33,
    a53 := Try.isAgg33,
    z53 := Try.sizeOf33,
    v53 := Try.zeroValue33,
    t55 := Try.underlying87,
    a55 := Try.isAgg87,
    z55 := Try.sizeOf87,
    v55 := Try.zeroValue87,
    t66 := Try.underlying198,
    a66 := Try.isAgg198,
    z66 := Try.sizeOf198,
    v66 := Try.zeroValue198,
    t70 := Try.underlying202,
    a70 := Try.isAgg202,
    z70 := Try.sizeOf202,
    v70 := Try.zeroValue202,
    t76 := Try.underlying213,
    a76 := Try.isAgg213,
    z76 := Try.sizeOf213,
    v76 := Try.zeroValue213,
    t77 := Try.underlying214,
    a77 := Try.isAgg214,
    z77 := Try.sizeOf214,
    v77 := Try.zeroValue214 }
theorem ends_order.lay0 : SlLaysF0.n6 Try.prog ends_order.lay_ren := { ends_order.lay with }
def ends_order.bc.f (l0 : List Int) (l1 : List Int) : Option Int := some (Lib.compareBytes (strOfNums l0).data.toList (strOfNums l1).data.toList)
set_option maxRecDepth 100000 in
theorem ends_order.bc.bytesIn {w : World} {A : Option Addr} {c : Nat} {xs : List Int} (h : (Kd.int .u8).C w A xs.length xs) : (Extern.Bytes.bytesOf (.slice A xs.length c)).run Try.prog w = .ok (strOfNums xs) w := by
  have hr := Kd.reads_of_C (enc := Value.int .u8) (d := (0 : Int)) (h1 := fun _ => rfl) h
  rcases A with _ | ad
  · have h0 : xs.length = 0 := by
      rcases Nat.eq_zero_or_pos xs.length with h0 | h0
      · exact h0
      · obtain ⟨ad, h', _⟩ := hr.2.2 h0
        cases h'
    obtain rfl : xs = [] := List.eq_nil_of_length_eq_zero h0
    rfl
  · have hl := Lib.run_loadBytesX (P := Try.prog) (w := w) xs ad .empty (fun j x hj => by
      have hjl := (List.getElem?_eq_some_iff.1 hj).1
      obtain ⟨ad', he', hc⟩ := hr.2.2 (by omega)
      injection he' with he'
      subst he'
      rw [hc j (by omega), List.getD_eq_getElem?_getD, hj]
      rfl)
    show (Extern.Bytes.loadBytes ad xs.length .empty).run Try.prog w = _
    rw [hl]
    have : (⟨ByteArray.empty.data ++ (Lib.bytesOf xs).toArray⟩ : ByteArray) = strOfNums xs := by
      apply ByteArray.ext
      show (#[] : Array UInt8) ++ (Lib.bytesOf xs).toArray = (xs.map fun n => UInt8.ofNat n.toNat).toArray
      simp [Lib.bytesOf]
    rw [this]
set_option maxRecDepth 100000 in
theorem ends_order.bc.cmp {w : World} {A B : Option Addr} {c c' : Nat} {xs ys : List Int} (hx : (Kd.int .u8).C w A xs.length xs) (hy : (Kd.int .u8).C w B ys.length ys) :
    (Extern.BytealgCompare.compare #[.slice A xs.length c, .slice B ys.length c']).run Try.prog w = .ok (.int .i64 (Lib.compareBytes (strOfNums xs).data.toList (strOfNums ys).data.toList)) w := by
  change Sem.run Try.prog (do pure (goInt (Extern.BytealgCompare.cmp (← Extern.Bytes.bytesOf (.slice A xs.length c)) (← Extern.Bytes.bytesOf (.slice B ys.length c'))))) w = _
  rw [Sem.run_bind, ends_order.bc.bytesIn hx]
  simp only [Result.andThen]
  rw [Sem.run_bind, ends_order.bc.bytesIn hy]
  simp only [Result.andThen, Sem.run_pure]
  rw [Lib.cmp_eq]
  rfl
set_option maxRecDepth 100000 in
theorem ends_order.bc.calls (A0 : Option Addr) (c0 : Nat) (l0 : List Int) (A1 : Option Addr) (c1 : Nat) (l1 : List Int) (r : Int) (w : World) (hr0 : Kd.C (Kd.int .u8) w A0 l0.length l0) (hc0 : l0.length ≤ c0) (hr1 : Kd.C (Kd.int .u8) w A1 l1.length l1) (hc1 : l1.length ≤ c1) (h : ends_order.bc.f l0 l1 = some r) :
    Calls Try.prog 51 #[.slice A0 l0.length c0, .slice A1 l1.length c1] w fun e w' => e = .returned (.int .i64 r) ∧ Drawn0 w w' := by
  unfold ends_order.bc.f at h
  obtain rfl := Option.some.inj h
  clear h
  go_enter Try.func51, Try.ntmps51
  go_wp2
  rw [run_callFunc_extern Try.func78 (by kernel_rfl) (by kernel_rfl) (by kernel_rfl) (e := Extern.BytealgCompare.compare) (by kernel_rfl), ends_order.bc.cmp hr0 hr1]
  simp only [Result.andThen]
  rw [Oper.upon_value]
  go_wp2
  go_ret
  exact ⟨rfl, ⟨⟨0, rfl⟩⟩⟩
set_option maxRecDepth 100000 in
theorem ends_order.info5 : (Try.prog.info? 5).map (fun i => (i.zero, i.size, i.bytes)) = some (some (.int .u8 0), 1, 1) := by kernel_rfl
set_option maxRecDepth 100000 in
set_option maxHeartbeats 2000000 in
theorem ends_order.lit (l0 : List Int) (A : Option Addr) (c g : Nat) (x y : Int) (w : World) (hk : w.cell? ⟨g, 0, none⟩ = some (.slice A l0.length c)) (hr : Kd.C (Kd.int .u8) w A l0.length l0) (hc : l0.length ≤ c) (x0 : 0 ≤ x) (x1 : x ≤ (l0.length : Int)) (y0 : 0 ≤ y) (y1 : y ≤ (l0.length : Int)) :
    Calls Try.prog 77 #[.int .i64 x, .int .i64 y, .pointer (some ⟨g, 0, none⟩)] w fun e w' => e = .returned (.int .i64 (ends_order.cf l0 x y)) ∧ ∃ q, w' = w.drewN q := by
  have hsz5 : ∀ i, Try.prog.info? 5 = some i → i.size = 1 := fun i h => by
    have := ends_order.info5
    rw [h] at this
    simp at this
    exact this.2.1
  have hcx := fun i hi => cut_from (P := Try.prog) (i := i) 23 5 .i64 Try.underlying23 hi 1 (hsz5 i hi) A l0.length c x x0 x1
  have hcy := fun i hi => cut_from (P := Try.prog) (i := i) 23 5 .i64 Try.underlying23 hi 1 (hsz5 i hi) A l0.length c y y0 y1
  obtain ⟨Bx, hBx⟩ : ∃ B, (if c = x.toNat then A else A.map (·.add (x.toNat * 1))) = B := ⟨_, rfl⟩
  obtain ⟨By, hBy⟩ : ∃ B, (if c = y.toNat then A else A.map (·.add (y.toNat * 1))) = B := ⟨_, rfl⟩
  simp only [hBx] at hcx
  simp only [hBy] at hcy
  have hBx1 : (if c = x.toNat then A else A.map (·.add x.toNat)) = Bx := by rw [← hBx, Nat.mul_one]
  have hBy1 : (if c = y.toNat then A else A.map (·.add y.toNat)) = By := by rw [← hBy, Nat.mul_one]
  have px : (0 ≤ x) = True := eq_true x0
  have py : (0 ≤ y) = True := eq_true y0
  have pxl : (x ≤ (l0.length : Int)) = True := eq_true x1
  have pyl : (y ≤ (l0.length : Int)) = True := eq_true y1
  have ex : (l0.drop x.toNat).length = l0.length - x.toNat := List.length_drop
  have ey : (l0.drop y.toNat).length = l0.length - y.toNat := List.length_drop
  have HB := Aside0.mk (fun (m : Nat) => (show Calls Try.prog 51 #[.slice Bx (l0.length - x.toNat) (c - x.toNat), .slice By (l0.length - y.toNat) (c - y.toNat)] (w.drewN m) _ from by
    have hxc := Kd.C_drop (k := Kd.int .u8) (m := x.toNat) (Kd.C_below hr (pw_below_drewN (Below.refl _ _) m)) (by omega) hc
    have hyc := Kd.C_drop (k := Kd.int .u8) (m := y.toNat) (Kd.C_below hr (pw_below_drewN (Below.refl _ _) m)) (by omega) hc
    have := ends_order.bc.calls _ (c - x.toNat) (l0.drop x.toNat) _ (c - y.toNat) (l0.drop y.toNat) (ends_order.cf l0 x y) (w.drewN m) hxc (by rw [ex]; omega) hyc (by rw [ey]; omega) rfl
    rw [ex, ey] at this
    have e1 : (Kd.int .u8).sz = 1 := rfl
    rw [e1, hBx, hBy] at this
    exact this))
  clear hBx hBy
  clear hr ex ey
  go_enter Try.func77, Try.ntmps77
  go_wp2
  refine start_ (n := 8) (S := (fun w' => w'.cell? ⟨g, 0, none⟩ = some (.slice A l0.length c))) (ds := []) #[false, false, false, false, false, false, false, false] (by kernel_rfl) rfl rfl (hk) (fun hHeld => ?_)
  refine take_ (i := 0) (N := some 6) (v := ?_) (a' := ?_) #[true, false, false, false, false, false, false, false] rfl rfl (by kernel_rfl) (fun _ _ _ h_ => h_) (Or.inl ⟨by rfl, ?_⟩) hHeld ?_ ?_
  rotate_left
  · intro w_ hSw
    (have hz0 := hSw)
    go_simp
    first | done | with_reducible rfl
  rotate_left
  · simp only [Act.put, List.setIfInBounds_toArray, List.set_cons_zero, List.set_cons_succ]
    rfl
  refine take_ (i := 1) (N := some 7) (v := ?_) (a' := ?_) #[true, true, false, false, false, false, false, false] rfl rfl (by kernel_rfl) (fun _ _ _ h_ => h_) (Or.inl ⟨by rfl, ?_⟩) hHeld ?_ ?_
  rotate_left
  · intro w_ hSw
    (have hz0 := hSw)
    go_simp
    first | done | with_reducible rfl
  rotate_left
  · simp only [Act.put, List.setIfInBounds_toArray, List.set_cons_zero, List.set_cons_succ]
    rfl
  refine take_ (i := 2) (N := some 8) (v := ?_) (a' := ?_) #[true, true, true, false, false, false, false, false] rfl rfl (by kernel_rfl) (fun _ _ _ h_ => h_) (Or.inl ⟨by rfl, ?_⟩) hHeld ?_ ?_
  rotate_left
  · intro w_ hSw
    (have hz0 := hSw)
    go_simp
    first | done | with_reducible rfl
  rotate_left
  · simp only [Act.put, List.setIfInBounds_toArray, List.set_cons_zero, List.set_cons_succ]
    rfl
  refine take_ (i := 3) (N := some 9) (v := ?_) (a' := ?_) #[true, true, true, true, false, false, false, false] rfl rfl (by kernel_rfl) (fun _ _ _ h_ => h_) (Or.inl ⟨by rfl, ?_⟩) hHeld ?_ ?_
  rotate_left
  · intro w_ hSw
    (have hz0 := hSw)
    go_simp
    first | done | with_reducible rfl
  rotate_left
  · simp only [Act.put, List.setIfInBounds_toArray, List.set_cons_zero, List.set_cons_succ]
    rfl
  refine take_ (i := 4) (N := some 10) (v := ?_) (a' := ?_) #[true, true, true, true, true, false, false, false] rfl rfl (by kernel_rfl) (fun _ _ _ h_ => h_) (Or.inl ⟨by rfl, ?_⟩) hHeld ?_ ?_
  rotate_left
  · intro w_ hSw
    (have hz0 := hSw)
    go_simp
    first | done | with_reducible rfl
  rotate_left
  · simp only [Act.put, List.setIfInBounds_toArray, List.set_cons_zero, List.set_cons_succ]
    rfl
  refine take_ (i := 5) (N := some 11) (v := ?_) (a' := ?_) #[true, true, true, true, true, true, false, false] rfl rfl (by kernel_rfl) (fun _ _ _ h_ => h_) (Or.inl ⟨by rfl, ?_⟩) hHeld ?_ ?_
  rotate_left
  · intro w_ hSw
    (have hz0 := hSw)
    go_simp
    first | done | with_reducible rfl
  rotate_left
  · simp only [Act.put, List.setIfInBounds_toArray, List.set_cons_zero, List.set_cons_succ]
    rfl
  refine one_ (i := 6) (N := some 12) #[true, true, true, true, true, true, true, false] rfl rfl (by kernel_rfl) (by decide) (fun K_ hK_ => ?_)
  go_simp
  (go_at_call 51; refine (HB.out _).mono ?_; rintro e w5 ⟨rfl, hd⟩; obtain ⟨m5, rfl⟩ := hd)
  refine hK_.out _ _ (hk) (fun hHeld => ?_)
  clear hK_ K_
  try (refine norm_ (by simp only [Act.put, List.setIfInBounds_toArray, List.set_cons_zero, List.set_cons_succ]; rfl) ?_)
  refine take_ (i := 7) (N := some 5) (v := ?_) (a' := ?_) #[true, true, true, true, true, true, true, true] rfl rfl (by kernel_rfl) (fun _ _ _ h_ => h_) (Or.inl ⟨by rfl, ?_⟩) hHeld ?_ ?_
  rotate_left
  · intro w_ hSw
    (have hz0 := hSw)
    go_simp
    first | done | with_reducible rfl
  rotate_left
  · simp only [Act.put, List.setIfInBounds_toArray, List.set_cons_zero, List.set_cons_succ]
    rfl
  refine done_ (by kernel_rfl) ?_
  go_wp2
  go_ret
  exact ⟨rfl, 1 + m5, World.drewN_drewN ..⟩
set_option maxRecDepth 100000 in
theorem ends_order.cb_irr : ∀ a : List UInt8, Lib.compareBytes a a = 0
  | [] => rfl
  | x :: a => by
    have h : ¬ x < x := UInt8.lt_irrefl x
    rw [Lib.compareBytes, if_neg h, if_neg h]
    exact ends_order.cb_irr a
set_option maxRecDepth 100000 in
theorem ends_order.cb_zero : ∀ {a b : List UInt8}, Lib.compareBytes a b = 0 → a = b
  | [], [], _ => rfl
  | [], _ :: _, h => by simp [Lib.compareBytes] at h
  | _ :: _, [], h => by simp [Lib.compareBytes] at h
  | x :: a, y :: b, h => by
    rw [Lib.compareBytes] at h
    split at h
    · simp at h
    · rename_i h1
      split at h
      · simp at h
      · rename_i h2
        have : x = y := UInt8.le_antisymm (UInt8.not_lt.1 h2) (UInt8.not_lt.1 h1)
        rw [this, ends_order.cb_zero h]
set_option maxRecDepth 100000 in
theorem ends_order.cb_neg : ∀ (a b : List UInt8), Lib.compareBytes b a = - Lib.compareBytes a b
  | [], [] => rfl
  | [], _ :: _ => rfl
  | _ :: _, [] => rfl
  | x :: a, y :: b => by
    rw [Lib.compareBytes, Lib.compareBytes]
    by_cases h1 : x < y
    · have h2 : ¬ y < x := fun h => UInt8.lt_irrefl x (UInt8.lt_trans h1 h)
      rw [if_pos h1, if_neg h2, if_pos h1]; rfl
    · rw [if_neg h1]
      by_cases h2 : y < x
      · rw [if_pos h2, if_neg h1, if_pos h2]
      · rw [if_neg h2, if_neg h1, if_neg h2]
        exact ends_order.cb_neg a b
set_option maxRecDepth 100000 in
theorem ends_order.cb_trans : ∀ {a b c : List UInt8}, Lib.compareBytes a b < 0 → Lib.compareBytes b c < 0 → Lib.compareBytes a c < 0
  | [], [], c, h, _ => by simp [Lib.compareBytes] at h
  | [], _ :: _, [], _, h => by simp [Lib.compareBytes] at h
  | [], _ :: _, _ :: _, _, _ => by simp [Lib.compareBytes]
  | _ :: _, [], _, h, _ => by simp [Lib.compareBytes] at h
  | _ :: _, _ :: _, [], _, h => by simp [Lib.compareBytes] at h
  | x :: a, y :: b, z :: c, h1, h2 => by
    rw [Lib.compareBytes] at h1 h2 ⊢
    by_cases a1 : x < y
    · by_cases b1 : y < z
      · rw [if_pos (UInt8.lt_trans a1 b1)]; decide
      · rw [if_neg b1] at h2
        by_cases b2 : z < y
        · rw [if_pos b2] at h2; simp at h2
        · have e : y = z := UInt8.le_antisymm (UInt8.not_lt.1 b2) (UInt8.not_lt.1 b1)
          rw [← e, if_pos a1]; decide
    · rw [if_neg a1] at h1
      by_cases a2 : y < x
      · rw [if_pos a2] at h1; simp at h1
      · rw [if_neg a2] at h1
        have e : x = y := UInt8.le_antisymm (UInt8.not_lt.1 a2) (UInt8.not_lt.1 a1)
        subst e
        by_cases b1 : x < z
        · rw [if_pos b1]; decide
        · rw [if_neg b1] at h2 ⊢
          by_cases b2 : z < x
          · rw [if_pos b2] at h2; simp at h2
          · rw [if_neg b2] at h2 ⊢
            exact ends_order.cb_trans h1 h2
set_option maxRecDepth 100000 in
theorem ends_order.cf_eq {w : List Int} {i j : Nat} (hi : i ≤ w.length) (hj : j ≤ w.length) (h : ends_order.cf w i j = 0) : i = j := by
  have := congrArg List.length (ends_order.cb_zero h)
  rw [strOfNums_data, strOfNums_data] at this
  simp only [List.length_map, List.length_drop, Int.toNat_natCast] at this
  omega
set_option maxRecDepth 100000 in
theorem ends_order.cf_neg (w : List Int) (i j : Int) : ends_order.cf w j i = - ends_order.cf w i j := ends_order.cb_neg _ _
section
open Go.Sort Go.Shelf
variable {α : Type} [Inhabited α] {enc : α → Value} {w w5 : World} {g2 m : Nat} {dk : Array α} {os : Array Obj}
set_option maxRecDepth 100000 in
theorem ends_order.sw_block {k : Nat} (hk : k ≠ g2) (hl : k < w5.heap.size) : (sortWorld enc w5 g2 0 m dk os).heap[k]? = w5.heap[k]? := by
  unfold sortWorld
  rw [heap_grow_old _ _ (by simpa using hl)]
  simp only [putRow, mapBlock, Array.getElem?_modify]
  rw [if_neg (fun e => hk e.symm)]
  rfl
set_option maxRecDepth 100000 in
theorem ends_order.sw_at {cur : Array Value} {t : TypeId} {z : Nat × Nat} (h : w5.heap[g2]? = some (.cells cur t z)) : (sortWorld enc w5 g2 0 m dk os).heap[g2]? = some (.cells (putCells enc 0 dk cur) t z) := by
  have hl := blk_lt h
  unfold sortWorld
  rw [heap_grow_old _ _ (by simpa using hl)]
  simp only [putRow, mapBlock, Array.getElem?_modify, if_true]
  rw [show (Sort.ahead w5 m).heap[g2]? = some (.cells cur t z) from h]
  rfl
set_option maxRecDepth 100000 in
theorem ends_order.sw_below {B : Nat} (h : Below B w w5) (hB : B ≤ g2) (hg : g2 < w5.heap.size) : Below B w (sortWorld enc w5 g2 0 m dk os) := by
  refine ⟨h.os, h.tape, h.output, ?_, fun k hk => ?_⟩
  · refine Nat.le_trans h.size ?_
    unfold sortWorld
    simp [grow]
  · rw [ends_order.sw_block (by omega) (by omega)]; exact h.block k hk
end

set_option maxRecDepth 100000 in
theorem ends_order.swo (l0 : List Int) : Go.Sort.SWO (ltOf fun (x y : Fin l0.length) => ends_order.cf l0 ((x.val : Nat) : Int) ((y.val : Nat) : Int)) where
  irrefl x := by simp only [ltOf, ends_order.cf, ends_order.cb_irr]; rfl
  trans x y z h1 h2 := by
    simp only [ltOf, decide_eq_true_iff] at h1 h2 ⊢
    exact ends_order.cb_trans h1 h2
  ntrans x y z h1 h2 := by
    simp only [ltOf, decide_eq_false_iff_not] at h1 h2 ⊢
    intro h3
    by_cases e1 : ends_order.cf l0 ((x.val : Nat) : Int) ((y.val : Nat) : Int) = 0
    · have := ends_order.cf_eq (by omega) (by omega) e1
      rw [this] at h3; exact h2 h3
    · have h4 : ends_order.cf l0 ((y.val : Nat) : Int) ((x.val : Nat) : Int) < 0 := by rw [ends_order.cf_neg]; omega
      exact h2 (ends_order.cb_trans h4 h3)
set_option maxRecDepth 100000 in
open Go.Sort Go.Shelf in
set_option maxHeartbeats 2000000 in
theorem ends_order.sorts {ρ : Ren} (L : SlLaysF.n6 Try.prog ρ) (h6 : ρ.f 6 = 76) (l0 : List Int) (hn : 0 < l0.length) (hm : l0.length < 1000) {A : Option Addr} {c g g2 cap : Nat} {w w5 : World} (HB : Below w.heap.size w w5) (hbg : w5.heap[g]? = some (.cells #[.slice A l0.length c] 23 (0, 0))) (hr0 : Kd.C (Kd.int .u8) w A l0.length l0) (hc0 : l0.length ≤ c) (hR : Kd.R (Kd.int .i64) 3 w5 w.heap.size (fun k => k ≠ g) (.slice (some ⟨g2, 0, none⟩) l0.length cap) ((List.range l0.length).map fun (i : Nat) => (i : Int))) :
    Calls Try.prog 76 #[.slice (some ⟨g2, 0, none⟩) l0.length cap, .func (.func 77) #[] #[.pointer (some ⟨g, 0, none⟩)]] w5 fun e w' => e = .returned (.tuple #[]) ∧ Kd.R (Kd.int .i64) 3 w' w.heap.size (fun _ => True) (.slice (some ⟨g2, 0, none⟩) l0.length cap) ((ends_order.fin l0).map fun i => ((i.val : Nat) : Int)) ∧ Below w.heap.size w w' := by
  haveI : Inhabited (Fin l0.length) := ⟨⟨0, hn⟩⟩
  have hg2 : g2 ≠ g := hR.1 g2 rfl
  have hown := Kd.own_of_R hR
  obtain ⟨hlen, hown | ⟨g', cap', cur, ev, hbase, hh, hnc, hcm, hcs, htake⟩⟩ := hown
  · simp at hown
  injection ev with e1 e2 e3
  injection e1 with e1
  injection e1 with e1
  subst e1; subst e3
  simp only [List.length_map, List.length_range] at htake hnc hlen
  have hlt := blk_lt hh
  have hcur : ∀ j, j < l0.length → cur[j]? = some (.int .i64 (j : Int)) := by
    intro j hj
    have : (cur.toList.take (l0.length * 1))[j]? = some (.int .i64 (j : Int)) := by
      rw [htake]
      simp [encs, List.getElem?_map, List.getElem?_range, hj]
    rw [List.getElem?_take_of_lt (by omega)] at this
    simpa using this
  have hd : ((List.finRange l0.length).toArray).size = l0.length := by simp
  have hH : Holds (fun i : Fin l0.length => Value.int .i64 ((i.val : Nat) : Int)) w5 g2 0 (List.finRange l0.length).toArray := by
    intro j hj
    rw [hd] at hj
    refine ⟨?_, ?_⟩
    · rw [Nat.zero_add, blk_cell hh j, hcur j hj, getElem!_pos _ j (by rw [hd]; exact hj)]
      simp
    · exact blk_frozen hh _
  have hcmp : CmpReads Try.prog 77 #[.pointer (some ⟨g, 0, none⟩)] (fun i : Fin l0.length => Value.int .i64 ((i.val : Nat) : Int)) (fun (x y : Fin l0.length) => ends_order.cf l0 ((x.val : Nat) : Int) ((y.val : Nat) : Int)) g2 0 (List.finRange l0.length).toArray.size w5 := by
    intro m os dk hs x y
    have hbel : Below w.heap.size w (sortWorld (fun i : Fin l0.length => Value.int .i64 ((i.val : Nat) : Int)) w5 g2 0 m dk os) := ends_order.sw_below HB hbase hlt
    have hbg' := (ends_order.sw_block (enc := fun i : Fin l0.length => Value.int .i64 ((i.val : Nat) : Int)) (m := m) (dk := dk) (os := os) (Ne.symm hg2) (blk_lt hbg)).trans hbg
    exact ends_order.lit l0 A c g _ _ _ ((blk_cell hbg' 0).trans rfl) (Kd.C_below hr0 hbel) hc0 (by omega) (by omega) (by omega) (by omega)
  have hcon := Any.slices_SortFunc_total L (fun i : Fin l0.length => Value.int .i64 ((i.val : Nat) : Int)) (fun _ => rfl) (fun (x y : Fin l0.length) => ends_order.cf l0 ((x.val : Nat) : Int) ((y.val : Nat) : Int)) (ends_order.swo l0) 77 #[.pointer (some ⟨g, 0, none⟩)] g2 0 cap (List.finRange l0.length).toArray w5 (enters_of Try.func77 (by kernel_rfl) rfl) hcmp.lays hH hlt (by rw [hd]; omega) (by
    intro x y hx hy
    simp only [ltOf, decide_eq_false_iff_not] at hx hy
    rw [ends_order.cf_neg] at hy
    exact Fin.ext (ends_order.cf_eq (Nat.le_of_lt x.isLt) (Nat.le_of_lt y.isLt) (by omega)))
  rw [h6, hd] at hcon
  refine hcon.mono ?_
  rintro e w' ⟨rfl, n, os, rfl⟩
  refine ⟨rfl, ?_, ends_order.sw_below HB hbase hlt⟩
  have hfl : (ends_order.fin l0).length = l0.length := by simp [ends_order.fin]
  have hat := ends_order.sw_at (enc := fun i : Fin l0.length => Value.int .i64 ((i.val : Nat) : Int)) (m := n) (os := os) (dk := ((List.finRange l0.length).toArray.toList.mergeSort fun x y => !(ltOf fun (x y : Fin l0.length) => ends_order.cf l0 ((x.val : Nat) : Int) ((y.val : Nat) : Int)) y x).toArray) hh
  have hdk : (((List.finRange l0.length).toArray.toList.mergeSort fun x y => !(ltOf fun (x y : Fin l0.length) => ends_order.cf l0 ((x.val : Nat) : Int) ((y.val : Nat) : Int)) y x)) = ends_order.fin l0 := rfl
  rw [hdk] at hat ⊢
  have hml : ((ends_order.fin l0).map fun i => ((i.val : Nat) : Int)).length = l0.length := by simp [hfl]
  refine Kd.R_of_own ?_ (fun _ _ => trivial)
  rw [hml]
  refine ⟨by simp [encs, hfl], Or.inr ⟨g2, cap, _, rfl, hbase, hat, hnc, hcm, by simp [putCells, hcs], ?_⟩⟩
  apply List.ext_getElem?
  intro j
  by_cases hj : j < l0.length
  · rw [List.getElem?_take_of_lt (by omega)]
    have hjc : j < cur.size := by omega
    have h1 : (putCells (fun i : Fin l0.length => Value.int .i64 ((i.val : Nat) : Int)) 0 (ends_order.fin l0).toArray cur)[j]? = some (.int .i64 ((((ends_order.fin l0)[j]'(by omega)).val : Nat) : Int)) := by
      simp only [putCells, Array.getElem?_mapIdx, Array.getElem?_eq_getElem hjc, Option.map_some]
      rw [if_pos ⟨Nat.zero_le _, by simp [hfl]; exact hj⟩, Nat.sub_zero, getElem!_pos _ j (by simp [hfl]; exact hj)]
      simp
    have h2 : (putCells (fun i : Fin l0.length => Value.int .i64 ((i.val : Nat) : Int)) 0 (ends_order.fin l0).toArray cur).toList[j]? = some (.int .i64 ((((ends_order.fin l0)[j]'(by omega)).val : Nat) : Int)) := by simpa using h1
    rw [h2]
    simp [encs, List.getElem?_map, List.getElem?_eq_getElem (show j < (ends_order.fin l0).length by omega)]
  · rw [List.getElem?_eq_none (by simp; omega), List.getElem?_eq_none (by simp [encs, hfl]; omega)]
structure ends_order.Sv (w0 : World) (g : Nat) (A0 : Option Addr) (n0 c0 : Nat) (v : Value) (i : Nat) (w : World) : Prop where
  below : Below w0.heap.size w0 w
  g1 : w0.heap.size ≤ g
  bg : w.heap[g]? = some (.cells #[.slice A0 n0 c0] 23 (0, 0))
  rs : Kd.R (Kd.int .i64) 3 w w0.heap.size (fun k => k ≠ g) v ((List.range i).map fun (i : Nat) => (i : Int))
set_option maxRecDepth 100000 in
theorem ends_order.info3 : (Try.prog.info? 3).map (fun i => (i.zero, i.size, i.bytes)) = some (some (.int .i64 0), 1, 8) := by kernel_rfl
set_option maxRecDepth 100000 in
theorem ends_order.range_succ (i : Nat) : ((List.range i).map fun (i : Nat) => (i : Int)) ++ [(i : Int)] = (List.range (i + 1)).map fun (i : Nat) => (i : Int) := by
  rw [List.range_succ, List.map_append]; rfl

set_option maxHeartbeats 8000000 in
set_option maxRecDepth 100000 in
theorem ends_order.calls (A0 : Option Addr) (c0 : Nat) (l0 : List Int) (r : List Int) (w : World) (hr0 : Kd.C (Kd.int .u8) w A0 l0.length l0) (hc0 : l0.length ≤ c0) (h : ends_order.f l0 = some r) :
    Calls Try.prog 47 #[.slice A0 l0.length c0] w fun e w' => ∃ v0_ : Value, e = .returned (v0_) ∧ Kd.R (Kd.int .i64) 3 w' w.heap.size (fun _ => True) v0_ r ∧ Below w.heap.size w w' := by
  have L := ends_order.lay
  have h6 : ends_order.lay_ren.f 6 = 76 := rfl
  have hnone := fun (p : Option Addr) (cap : Nat) (fv : Value) (w : World) => (show Calls Try.prog 76 #[.slice p 0 cap, fv] w (fun e w' => e = .returned (.tuple #[]) ∧ w' = w) from AnyF.slices_SortFunc_none ends_order.lay0 p cap fv w)
  unfold ends_order.f at h
  by_cases hm : l0.length < 1000
  · rw [if_pos hm] at h
    obtain rfl := Option.some.inj h
    have HR0 := Aside0.mk hr0
    have HC0 := Aside0.mk hc0
    have HM := Aside0.mk hm
    have hlt1 : l0.length ≤ 9223372036854775807 := by omega
    have hgc : (w.alloc (.cells #[.slice A0 l0.length c0] 23)).cell? ⟨w.heap.size, 0, none⟩ = some (.slice A0 l0.length c0) := (blk_cell (heap_alloc_new w _) 0).trans rfl
    clear hr0 hc0 h hm
    go_enter Try.func47, Try.ntmps47
    go_wp2
    have HS0 := Aside0.mk (show ends_order.Sv w w.heap.size A0 l0.length c0 (.slice none 0 0) 0 (w.alloc (.cells #[.slice A0 l0.length c0] 23)) from ⟨below_alloc (Below.refl _ _) _, Nat.le_refl _, heap_alloc_new w _, Kd.R_nil _ _ _ _ _⟩)
    clear hgc
    generalize hg : w.heap.size = g at HS0 ⊢
    have HGG := Aside0.mk hg
    clear hg
    generalize w.alloc _ = w1 at HS0 ⊢
    go_loopg [3, 7] l0.length (fun gg s3 s7 wr => ∃ (i : Nat), s7 = .int .i64 i ∧ i ≤ l0.length ∧ gg + i = l0.length ∧ Aside0 (ends_order.Sv w g A0 l0.length c0 s3 i wr))
    case atStart => exact ⟨0, rfl, Nat.zero_le _, rfl, HS0⟩
    case round =>
      obtain ⟨i, rfl, hi, hgk, HS⟩ := hrel
      by_cases ci : i < l0.length
      · have ciz : ((i : Int) < (l0.length : Int)) = True := eq_true (by omega)
        have ei : wrap64 ((i : Int) + 1) = (i : Int) + 1 := by unfold wrap64; omega
        obtain ⟨A, c, rfl⟩ := Kd.R_slice HS.out.rs
        have hle : (((List.range i).map fun (i : Nat) => (i : Int))).length = i := by simp
        generalize hxs : ((List.range i).map fun (i : Nat) => (i : Int)).length = xl at hle ⊢
        subst hle
        have HRS := Aside0.mk (show Kd.R (Kd.int .i64) 3 wr w.heap.size (fun k => k ≠ g) (.slice A xl c) ((List.range xl).map fun (i : Nat) => (i : Int)) from by have := HS.out.rs; rwa [hxs] at this)
        have HXS := Aside0.mk hxs
        clear hxs
        go_wp2_with (first
          | ((with_reducible refine gate_builtin (b := .append) (xs := #[.tmp 10, .tmp 12]) rfl ?_); at_builtin; go_loud (refine Kd.R_append (Kd.int .i64) (w0 := w) w.heap.size rfl (.tmp 10) (.tmp 12) 24 3 (.int .i64 0) 8 rfl Try.underlying24 ends_order.info3 rfl (by decide) (by omega) (.slice A xl c) ((List.range xl).map fun (i : Nat) => (i : Int)) (xl : Int) _ (fun k => k ≠ g) (fun _ => False) rfl rfl ?xm ?xo ?xf HRS.out HS.out.below (below_size HS.out.below) ?xl ?_); (case xm => rfl); (case xo => exact fun k hk => hk.elim); (case xf => exact fun k hk => (by have := blk_lt HS.out.bg; omega)); (case xl => (have := HM.out; rw [HXS.out]; omega)); intro v1 w1' hr1 hb1 hg1 hat1; rw [ends_order.range_succ] at hr1; have HSV := Aside0.mk (show ends_order.Sv w g A0 l0.length c0 v1 (xl + 1) w1' from ⟨hb1, HS.out.g1, blk_grown HS.out.bg hg1 (Kd.R_away HRS.out (fun _ hk => hk)), hr1⟩); clear hr1 hb1 hg1 hat1))
        go_roundg (gk - 1)
        case measure => omega
        case rel => exact ⟨xl + 1, by go_num, by omega, by omega, HSV⟩
      · have hin : i = l0.length := by omega
        subst hin
        have ciz : ((l0.length : Int) < (l0.length : Int)) = False := eq_false (by omega)
        have HSn := HS.out
        by_cases hn : 0 < l0.length
        · obtain ⟨g2, cap, ev, -⟩ := Kd.R_form HSn.rs (by simpa using hn)
          have hle : (((List.range l0.length).map fun (i : Nat) => (i : Int))).length = l0.length := by simp
          rw [hle] at ev
          subst ev
          have HSORT := Aside0.mk (ends_order.sorts L h6 l0 hn HM.out HSn.below HSn.bg HR0.out HC0.out HSn.rs)
          clear HSn hle hn
          go_wp2_with (go_at_call 76; refine HSORT.out.mono ?_; rintro e w6 ⟨rfl, hr6, hb6⟩; have HR6 := Aside0.mk hr6; have HB6 := Aside0.mk hb6; clear hr6 hb6)
          go_ret
          exact ⟨_, rfl, HR6.out, HB6.out⟩
        · have h0 : l0 = [] := List.eq_nil_of_length_eq_zero (by omega)
          subst h0
          obtain ⟨A, c, rfl⟩ := Kd.R_slice HSn.rs
          have HSORT := Aside0.mk (hnone A c (.func (.func 77) #[] #[.pointer (some ⟨g, 0, none⟩)]) wr)
          clear HSn hn
          go_wp2_with (go_at_call 76; refine HSORT.out.mono ?_; rintro e w6 ⟨rfl, rfl⟩)
          go_ret
          have hf : ends_order.fin ([] : List Int) = [] := List.eq_nil_of_length_eq_zero (by simp [ends_order.fin])
          exact ⟨_, rfl, by rw [hf]; exact Kd.R_mono HS.out.rs (fun _ _ => trivial), HS.out.below⟩
  · rw [if_neg hm] at h; cases h

end Go.Proofs.Ytkalcljgcigdgaa.GE
