-- Written by ext.py, a program of this session.
import Derived.Test.YtlkeemcapemkiaaProg
import Derived.Below
import Derived.Deep.Draws
import Derived.Deep.AppendLies
import Derived.Maps.AppendAt
import Derived.OwnWalk
import Derived.Laws.BytesArg
import Derived.Laws.MakeOwn
import Derived.Laws.OwnMore
import Derived.Deep.OwnRows
import Derived.Tactics
import Derived.Lib.ConvBytes
import Derived.Laws.Slices
import Derived.WalkKit
import Derived.KernelRfl
import Derived.RowKit3
import Derived.Deep.LoopGhost
import Derived.Deep.QuietTactic
import Derived.BigQuiet
import Derived.WideLaws
import Derived.Deep.DeepCutAuto
import Derived.Deep.CutBlock
import Derived.Deep.RegionHeld3
import Derived.Laws.Rows
import Derived.Lib.AppendStr
import Derived.ArgAppend
import Derived.Laws.IdiomCopy
import Derived.OrdersHeld
import Derived.Laws.BitsLemmas
import Derived.RowKit
import Derived.Lib.BytesEntry
import Derived.Lib.Bytealg
import Derived.Laws.Externs
import Derived.WalkSpells
import Derived.Test.YtlkeemcapemkiaaOpn
import Derived.Shelf.Abstract
import Derived.Maps.OwnSet
import Derived.Maps.Views
import Derived.Carry
import Derived.Test.YtlkeemcapemkiaaWWords
import Derived.Test.YtlkeemcapemkiaaWLast
import Derived.Test.YtlkeemcapemkiaaWTab
import Derived.Test.YtlkeemcapemkiaaWFour
import Derived.Test.YtlkeemcapemkiaaWQPut
import Derived.Test.YtlkeemcapemkiaaWApart
import Derived.Test.YtlkeemcapemkiaaWArr
import Derived.Test.YtlkeemcapemkiaaWZeros
import Derived.Test.YtlkeemcapemkiaaWFoot
import Derived.Test.YtlkeemcapemkiaaWKept
import Derived.Test.YtlkeemcapemkiaaWShare
import Derived.Test.YtlkeemcapemkiaaWN
import Derived.Test.YtlkeemcapemkiaaWFootNe
import Derived.Test.YtlkeemcapemkiaaWAt
import Derived.Test.YtlkeemcapemkiaaWEqStruct
import Derived.Test.YtlkeemcapemkiaaWRepsOne
import Derived.Test.YtlkeemcapemkiaaWInv
import Derived.Test.YtlkeemcapemkiaaWInvWords
import Derived.Test.YtlkeemcapemkiaaWGuard
import Derived.Test.YtlkeemcapemkiaaWNEv
import Derived.Test.YtlkeemcapemkiaaWMore
namespace Go.Proofs.Ytlkeemcapemkiaa.GA
open Go.RowKit Go.Proofs.YtlkeemcapemkiaaW.PrintWords Go.Proofs.YtlkeemcapemkiaaW.PrintLast Go.Proofs.YtlkeemcapemkiaaW.PrintMore
attribute [local go_sem] max2_int min2_int max_two min_two max_three min_three max_four min_four cellIs_set   -- for this text's walks alone
set_option linter.unusedVariables false
set_option linter.unusedSimpArgs false
def errW : Option Int → Value
 | none=>.nilIface
 | some c=>.iface 0 (.int .i64 c)
theorem errW_none : errW none = .nilIface:=rfl
theorem errW_some (c : Int) : errW (some c) = .iface 0 (.int .i64 c):=rfl
theorem info3 : (Try.prog.info? 3).map (fun i=>(i.zero,i.size,i.bytes)) = some (some (.int .i64 0),1,8):=by kernel_rfl
theorem info22 : (Try.prog.info? 22).map (fun i=>(i.zero,i.size,i.bytes)) = some (some (.slice none 0 0),1,24):=by kernel_rfl
theorem info26 : (Try.prog.info? 26).map (fun i=>(i.zero,i.size,i.bytes)) = some (some (.slice none 0 0),1,24):=by kernel_rfl
-- the values' own types
def rd_L1 (xs : List (List Int)) (i : Int) : (List Int):=xs.getD i.toNat ([] : List Int)
theorem at_L1 {w : World} {A : Option Addr} {n : Nat} {xs : List (List Int)} (h : Kd.C (Kd.slice 3 (Kd.int .i64)) w A n xs) (i : Int) (h0 : 0 ≤ i) (h1 : i < n) : ∃ ad A0 c0,A = some ad ∧ w.cell? (ad.add i.toNat) = some (.slice A0 (rd_L1 xs i).length c0) ∧ (rd_L1 xs i).length ≤ c0 ∧ (Kd.int .i64).C w A0 (rd_L1 xs i).length (rd_L1 xs i):=by
 obtain ⟨ad,c,e,_,hK,hc0⟩:=Kd.C_get h ([] : List Int) i h0 h1
 have hc : ∀ j u,c[j]? = some u → w.cell? (ad.add (i.toNat * 1 + j)) = some u:=hc0
 obtain ⟨A0,c0,rfl,l0,g0⟩:=hK
 exact ⟨ad,A0,c0,e,by have hq:=hc 0 _ rfl;rwa [Nat.mul_one,Nat.add_zero] at hq,l0,g0⟩
def rd_L2 (xs : List (List (List Int))) (i : Int) : (List (List Int)):=xs.getD i.toNat ([] : List (List Int))
theorem at_L2 {w : World} {A : Option Addr} {n : Nat} {xs : List (List (List Int))} (h : Kd.C (Kd.slice 26 (Kd.slice 3 (Kd.int .i64))) w A n xs) (i : Int) (h0 : 0 ≤ i) (h1 : i < n) : ∃ ad A0 c0,A = some ad ∧ w.cell? (ad.add i.toNat) = some (.slice A0 (rd_L2 xs i).length c0) ∧ (rd_L2 xs i).length ≤ c0 ∧ (Kd.slice 3 (Kd.int .i64)).C w A0 (rd_L2 xs i).length (rd_L2 xs i):=by
 obtain ⟨ad,c,e,_,hK,hc0⟩:=Kd.C_get h ([] : List (List Int)) i h0 h1
 have hc : ∀ j u,c[j]? = some u → w.cell? (ad.add (i.toNat * 1 + j)) = some u:=hc0
 obtain ⟨A0,c0,rfl,l0,g0⟩:=hK
 exact ⟨ad,A0,c0,e,by have hq:=hc 0 _ rfl;rwa [Nat.mul_one,Nat.add_zero] at hq,l0,g0⟩
def rd_L3 (xs : List (List (List (List Int)))) (i : Int) : (List (List (List Int))):=xs.getD i.toNat ([] : List (List (List Int)))
theorem at_L3 {w : World} {A : Option Addr} {n : Nat} {xs : List (List (List (List Int)))} (h : Kd.C (Kd.slice 22 (Kd.slice 26 (Kd.slice 3 (Kd.int .i64)))) w A n xs) (i : Int) (h0 : 0 ≤ i) (h1 : i < n) : ∃ ad A0 c0,A = some ad ∧ w.cell? (ad.add i.toNat) = some (.slice A0 (rd_L3 xs i).length c0) ∧ (rd_L3 xs i).length ≤ c0 ∧ (Kd.slice 26 (Kd.slice 3 (Kd.int .i64))).C w A0 (rd_L3 xs i).length (rd_L3 xs i):=by
 obtain ⟨ad,c,e,_,hK,hc0⟩:=Kd.C_get h ([] : List (List (List Int))) i h0 h1
 have hc : ∀ j u,c[j]? = some u → w.cell? (ad.add (i.toNat * 1 + j)) = some u:=hc0
 obtain ⟨A0,c0,rfl,l0,g0⟩:=hK
 exact ⟨ad,A0,c0,e,by have hq:=hc 0 _ rfl;rwa [Nat.mul_one,Nat.add_zero] at hq,l0,g0⟩
/-! #### struct type 25 -/
structure S25 where
 f0 : Int
 f1 : Int
 f2 : Int
 f3 : (List (List Int))
 f4 : (List (List (List Int)))
 f5 : Int
def z25 : S25:=⟨(0 : Int),(0 : Int),(0 : Int),([] : List (List Int)),([] : List (List (List Int))),(0 : Int)⟩
def k25 : Kd S25:=Kd.iso (Kd.pair (Kd.int .i64) (Kd.pair (Kd.int .i64) (Kd.pair (Kd.int .i64) (Kd.pair (Kd.slice 26 (Kd.slice 3 (Kd.int .i64))) (Kd.pair (Kd.slice 22 (Kd.slice 26 (Kd.slice 3 (Kd.int .i64)))) (Kd.int .i64)))))) (fun x : S25=>(x.f0,x.f1,x.f2,x.f3,x.f4,x.f5))
theorem k25_heap : Kd.Heap k25:=Kd.heap_iso _ (Kd.heap_pair (Kd.heap_int .i64) (Kd.heap_pair (Kd.heap_int .i64) (Kd.heap_pair (Kd.heap_int .i64) (Kd.heap_pair (Kd.heap_slice 26 (Kd.heap_slice 3 (Kd.heap_int .i64))) (Kd.heap_pair (Kd.heap_slice 22 (Kd.heap_slice 26 (Kd.heap_slice 3 (Kd.heap_int .i64)))) (Kd.heap_int .i64))))))
theorem k25_open {w : World} {x : S25} {cs : List Value} (h : k25.K w x cs) : ∃ A3 c3 A4 c4,cs = [.int .i64 x.f0,.int .i64 x.f1,.int .i64 x.f2,.slice A3 x.f3.length c3,.slice A4 x.f4.length c4,.int .i64 x.f5] ∧ x.f3.length ≤ c3 ∧ (Kd.slice 3 (Kd.int .i64)).C w A3 x.f3.length x.f3 ∧ x.f4.length ≤ c4 ∧ (Kd.slice 26 (Kd.slice 3 (Kd.int .i64))).C w A4 x.f4.length x.f4:=by
 obtain ⟨_,_,rfl,rfl,⟨_,_,rfl,rfl,⟨_,_,rfl,rfl,⟨_,_,rfl,⟨A3,c3,rfl,l3,g3⟩,⟨_,_,rfl,⟨A4,c4,rfl,l4,g4⟩,rfl⟩⟩⟩⟩⟩:=h
 exact ⟨A3,c3,A4,c4,rfl,l3,g3,l4,g4⟩
theorem k25_openM {w : World} {base : Nat} {ok : Nat → Prop} {x : S25} {cs : List Value} (h : k25.M w base ok x cs) : ∃ v3 v4,cs = [.int .i64 x.f0,.int .i64 x.f1,.int .i64 x.f2,v3,v4,.int .i64 x.f5] ∧ (Kd.slice 3 (Kd.int .i64)).R 26 w base ok v3 x.f3 ∧ (Kd.slice 26 (Kd.slice 3 (Kd.int .i64))).R 22 w base ok v4 x.f4:=by
 obtain ⟨_,_,rfl,rfl,⟨_,_,rfl,rfl,⟨_,_,rfl,rfl,⟨_,_,rfl,⟨v3,rfl,g3⟩,⟨_,_,rfl,⟨v4,rfl,g4⟩,rfl⟩⟩⟩⟩⟩:=h
 exact ⟨v3,v4,rfl,g3,g4⟩
theorem k25_mk (w : World) (x : S25) {A3 : Option Addr} {c3 : Nat} (l3 : x.f3.length ≤ c3) (g3 : (Kd.slice 3 (Kd.int .i64)).C w A3 x.f3.length x.f3) {A4 : Option Addr} {c4 : Nat} (l4 : x.f4.length ≤ c4) (g4 : (Kd.slice 26 (Kd.slice 3 (Kd.int .i64))).C w A4 x.f4.length x.f4) : k25.K w x [.int .i64 x.f0,.int .i64 x.f1,.int .i64 x.f2,.slice A3 x.f3.length c3,.slice A4 x.f4.length c4,.int .i64 x.f5]:=⟨[.int .i64 x.f0],[.int .i64 x.f1,.int .i64 x.f2,.slice A3 x.f3.length c3,.slice A4 x.f4.length c4,.int .i64 x.f5],rfl,rfl,⟨[.int .i64 x.f1],[.int .i64 x.f2,.slice A3 x.f3.length c3,.slice A4 x.f4.length c4,.int .i64 x.f5],rfl,rfl,⟨[.int .i64 x.f2],[.slice A3 x.f3.length c3,.slice A4 x.f4.length c4,.int .i64 x.f5],rfl,rfl,⟨[.slice A3 x.f3.length c3],[.slice A4 x.f4.length c4,.int .i64 x.f5],rfl,⟨A3,c3,rfl,l3,g3⟩,⟨[.slice A4 x.f4.length c4],[.int .i64 x.f5],rfl,⟨A4,c4,rfl,l4,g4⟩,rfl⟩⟩⟩⟩⟩
theorem k25_mkM (w : World) (base : Nat) (ok : Nat → Prop) (x : S25) {v3 : Value} (g3 : (Kd.slice 3 (Kd.int .i64)).R 26 w base ok v3 x.f3) {v4 : Value} (g4 : (Kd.slice 26 (Kd.slice 3 (Kd.int .i64))).R 22 w base ok v4 x.f4) : k25.M w base ok x [.int .i64 x.f0,.int .i64 x.f1,.int .i64 x.f2,v3,v4,.int .i64 x.f5]:=⟨[.int .i64 x.f0],[.int .i64 x.f1,.int .i64 x.f2,v3,v4,.int .i64 x.f5],rfl,rfl,⟨[.int .i64 x.f1],[.int .i64 x.f2,v3,v4,.int .i64 x.f5],rfl,rfl,⟨[.int .i64 x.f2],[v3,v4,.int .i64 x.f5],rfl,rfl,⟨[v3],[v4,.int .i64 x.f5],rfl,⟨v3,rfl,g3⟩,⟨[v4],[.int .i64 x.f5],rfl,⟨v4,rfl,g4⟩,rfl⟩⟩⟩⟩⟩
theorem k25_openF {W : World} {ok : Nat → Prop} {x : S25} {cs : List Value} (h : Kd.FK k25 W ok x cs) : ∃ A3 c3 A4 c4,cs = [.int .i64 x.f0,.int .i64 x.f1,.int .i64 x.f2,.slice A3 x.f3.length c3,.slice A4 x.f4.length c4,.int .i64 x.f5] ∧ x.f3.length ≤ c3 ∧ Kd.F (Kd.slice 3 (Kd.int .i64)) W ok A3 x.f3.length x.f3 ∧ x.f4.length ≤ c4 ∧ Kd.F (Kd.slice 26 (Kd.slice 3 (Kd.int .i64))) W ok A4 x.f4.length x.f4:=by
 obtain ⟨A3,c3,A4,c4,rfl,l3,_,l4,_⟩:=k25_open (Kd.FK_now h)
 exact ⟨A3,c3,A4,c4,rfl,l3,(fun W' hW=>by obtain ⟨A3_,c3_,A4_,c4_,he,l3_,g3_,l4_,g4_⟩:=k25_open (h W' hW);injection (Option.some.inj (show some (Value.slice A3 x.f3.length c3) = some (Value.slice A3_ x.f3.length c3_) from congrArg (fun l=>l[3]?) he)) with ha_ _ _;rw [ha_];exact g3_),l4,(fun W' hW=>by obtain ⟨A3_,c3_,A4_,c4_,he,l3_,g3_,l4_,g4_⟩:=k25_open (h W' hW);injection (Option.some.inj (show some (Value.slice A4 x.f4.length c4) = some (Value.slice A4_ x.f4.length c4_) from congrArg (fun l=>l[4]?) he)) with ha_ _ _;rw [ha_];exact g4_)⟩
theorem k25_mkF (W : World) (ok : Nat → Prop) (x : S25) {A3 : Option Addr} {c3 : Nat} (l3 : x.f3.length ≤ c3) (g3 : Kd.F (Kd.slice 3 (Kd.int .i64)) W ok A3 x.f3.length x.f3) {A4 : Option Addr} {c4 : Nat} (l4 : x.f4.length ≤ c4) (g4 : Kd.F (Kd.slice 26 (Kd.slice 3 (Kd.int .i64))) W ok A4 x.f4.length x.f4) : Kd.FK k25 W ok x [.int .i64 x.f0,.int .i64 x.f1,.int .i64 x.f2,.slice A3 x.f3.length c3,.slice A4 x.f4.length c4,.int .i64 x.f5]:=fun W2 hW=>k25_mk W2 x l3 (g3 W2 hW) l4 (g4 W2 hW)
def rd_T25 (xs : List S25) (i : Int) : S25:=xs.getD i.toNat z25
theorem at_T25 {w : World} {A : Option Addr} {n : Nat} {xs : List S25} (h : Kd.C k25 w A n xs) (i : Int) (h0 : 0 ≤ i) (h1 : i < n) : ∃ ad A3 c3 A4 c4,A = some ad ∧ w.cell? (ad.add (i.toNat * 6)) = some (.int .i64 (rd_T25 xs i).f0) ∧ w.cell? ⟨(ad.add (i.toNat * 6)).block,(ad.add (i.toNat * 6)).off + 1,none⟩ = some (.int .i64 (rd_T25 xs i).f1) ∧ w.cell? ⟨(ad.add (i.toNat * 6)).block,(ad.add (i.toNat * 6)).off + 2,none⟩ = some (.int .i64 (rd_T25 xs i).f2) ∧ w.cell? ⟨(ad.add (i.toNat * 6)).block,(ad.add (i.toNat * 6)).off + 3,none⟩ = some (.slice A3 (rd_T25 xs i).f3.length c3) ∧ w.cell? ⟨(ad.add (i.toNat * 6)).block,(ad.add (i.toNat * 6)).off + 4,none⟩ = some (.slice A4 (rd_T25 xs i).f4.length c4) ∧ w.cell? ⟨(ad.add (i.toNat * 6)).block,(ad.add (i.toNat * 6)).off + 5,none⟩ = some (.int .i64 (rd_T25 xs i).f5) ∧ (rd_T25 xs i).f3.length ≤ c3 ∧ (Kd.slice 3 (Kd.int .i64)).C w A3 (rd_T25 xs i).f3.length (rd_T25 xs i).f3 ∧ (rd_T25 xs i).f4.length ≤ c4 ∧ (Kd.slice 26 (Kd.slice 3 (Kd.int .i64))).C w A4 (rd_T25 xs i).f4.length (rd_T25 xs i).f4:=by
 obtain ⟨ad,c,e,_,hK,hc0⟩:=Kd.C_get h z25 i h0 h1
 have hc : ∀ j u,c[j]? = some u → w.cell? (ad.add (i.toNat * 6 + j)) = some u:=hc0
 obtain ⟨A3,c3,A4,c4,rfl,l3,g3,l4,g4⟩:=k25_open hK
 exact ⟨ad,A3,c3,A4,c4,e,hc 0 _ rfl,by rw [← add_field _ _ 1 (by omega)];exact hc 1 _ rfl,by rw [← add_field _ _ 2 (by omega)];exact hc 2 _ rfl,by rw [← add_field _ _ 3 (by omega)];exact hc 3 _ rfl,by rw [← add_field _ _ 4 (by omega)];exact hc 4 _ rfl,by rw [← add_field _ _ 5 (by omega)];exact hc 5 _ rfl,l3,g3,l4,g4⟩
def wf25 (x : S25) : Prop:=((Lit.int .i64 x.f0).wf = true) ∧ ((Lit.int .i64 x.f1).wf = true) ∧ ((Lit.int .i64 x.f2).wf = true) ∧ (x.f3.length ≤ 9223372036854775807 ∧ x.f3.length * 24 ≤ 140737488351232 ∧ ∀ y_ ∈ x.f3,y_.length ≤ 9223372036854775807 ∧ y_.length * 8 ≤ 140737488351232 ∧ ∀ y__ ∈ y_,(Lit.int .i64 y__).wf = true) ∧ (x.f4.length ≤ 9223372036854775807 ∧ x.f4.length * 24 ≤ 140737488351232 ∧ ∀ y_ ∈ x.f4,y_.length ≤ 9223372036854775807 ∧ y_.length * 24 ≤ 140737488351232 ∧ ∀ y__ ∈ y_,y__.length ≤ 9223372036854775807 ∧ y__.length * 8 ≤ 140737488351232 ∧ ∀ y___ ∈ y__,(Lit.int .i64 y___).wf = true) ∧ ((Lit.int .i64 x.f5).wf = true)
theorem opn25 : Opn Try.prog k25 25 wf25:=(Opn.iso (fun x : S25=>(x.f0,x.f1,x.f2,x.f3,x.f4,x.f5)) (fun y_=>(⟨y_.1,y_.2.1,y_.2.2.1,y_.2.2.2.1,y_.2.2.2.2.1,y_.2.2.2.2.2⟩ : S25)) (fun _=>rfl) (Opn.struct Try.underlying25 (by kernel_rfl) (OpnF.cons (Opn.int Try.underlying3) rfl (by kernel_rfl) (OpnF.cons (Opn.int Try.underlying3) rfl (by kernel_rfl) (OpnF.cons (Opn.int Try.underlying3) rfl (by kernel_rfl) (OpnF.cons (Opn.slice (B:=24) (Opn.slice (B:=8) (Opn.int Try.underlying3) Try.underlying26 (by kernel_rfl) (by kernel_rfl)) Try.underlying22 (by kernel_rfl) (by kernel_rfl)) rfl (by kernel_rfl) (OpnF.cons (Opn.slice (B:=24) (Opn.slice (B:=24) (Opn.slice (B:=8) (Opn.int Try.underlying3) Try.underlying26 (by kernel_rfl) (by kernel_rfl)) Try.underlying22 (by kernel_rfl) (by kernel_rfl)) Try.underlying23 (by kernel_rfl) (by kernel_rfl)) rfl (by kernel_rfl) (OpnF.one (Opn.int Try.underlying3) rfl (by kernel_rfl))))))))).imp (fun _ h=>h)
end Go.Proofs.Ytlkeemcapemkiaa.GA
