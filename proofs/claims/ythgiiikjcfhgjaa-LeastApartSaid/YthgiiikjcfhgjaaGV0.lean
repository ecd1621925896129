-- Written by ext.py, a program of this session.
import Derived.Test.YthgiiikjcfhgjaaProg
import Derived.Below
import Derived.Deep.Draws
import Derived.Deep.AppendLies
import Derived.Maps.AppendAt
import Derived.OwnWalk
import Derived.Laws.BytesArg
import Derived.Laws.MakeOwn
import Derived.Laws.OwnMore
import Derived.Deep.OwnRows
import Derived.Tactics
import Derived.Lib.ConvBytes
import Derived.Laws.Slices
import Derived.WalkKit
import Derived.KernelRfl
import Derived.RowKit3
import Derived.Deep.LoopGhost
import Derived.Deep.QuietTactic
import Derived.BigQuiet
import Derived.WideLaws
import Derived.Deep.DeepCutAuto
import Derived.Deep.CutBlock
import Derived.Deep.RegionHeld3
import Derived.Laws.Rows
import Derived.Lib.AppendStr
import Derived.ArgAppend
import Derived.Laws.IdiomCopy
import Derived.OrdersHeld
import Derived.Laws.BitsLemmas
import Derived.RowKit
import Derived.Lib.BytesEntry
import Derived.Lib.Bytealg
import Derived.Laws.Externs
import Derived.WalkSpells
import Derived.Test.YthgiiikjcfhgjaaOpn
import Derived.Shelf.Abstract
import Derived.Maps.OwnSet
import Derived.Maps.Views
import Derived.Carry
import Derived.DeepKeys4
import Derived.Maps.Range
import Derived.Deep.RegionHeld3
import Derived.Test.YthgiiikjcfhgjaaMapv
import Derived.Test.YthgiiikjcfhgjaaWWords
import Derived.Test.YthgiiikjcfhgjaaWLast
import Derived.Test.YthgiiikjcfhgjaaWTab
import Derived.Test.YthgiiikjcfhgjaaWFour
import Derived.Test.YthgiiikjcfhgjaaWQPut
import Derived.Test.YthgiiikjcfhgjaaWApart
import Derived.Test.YthgiiikjcfhgjaaWArr
import Derived.Test.YthgiiikjcfhgjaaWZeros
import Derived.Test.YthgiiikjcfhgjaaWFoot
import Derived.Test.YthgiiikjcfhgjaaWKept
import Derived.Test.YthgiiikjcfhgjaaWShare
import Derived.Test.YthgiiikjcfhgjaaWN
import Derived.Test.YthgiiikjcfhgjaaWFootNe
import Derived.Test.YthgiiikjcfhgjaaWAt
import Derived.Test.YthgiiikjcfhgjaaWEqStruct
import Derived.Test.YthgiiikjcfhgjaaWRepsOne
import Derived.Test.YthgiiikjcfhgjaaWInv
import Derived.Test.YthgiiikjcfhgjaaWInvWords
import Derived.Test.YthgiiikjcfhgjaaWGuard
import Derived.Test.YthgiiikjcfhgjaaWNEv
import Derived.Test.YthgiiikjcfhgjaaWMore
namespace Go.Proofs.Ythgiiikjcfhgjaa.GV
open Go.RowKit Go.Proofs.YthgiiikjcfhgjaaW.PrintWords Go.Proofs.YthgiiikjcfhgjaaW.PrintLast Go.Proofs.YthgiiikjcfhgjaaW.PrintMore
attribute [local go_sem] max2_int min2_int max_two min_two max_three min_three max_four min_four cellIs_set   -- for this text's walks alone
set_option linter.unusedVariables false
set_option linter.unusedSimpArgs false
def errW : Option Int → Value
 | none=>.nilIface
 | some c=>.iface 0 (.int .i64 c)
theorem errW_none : errW none = .nilIface:=rfl
theorem errW_some (c : Int) : errW (some c) = .iface 0 (.int .i64 c):=rfl
theorem info3 : (Try.prog.info? 3).map (fun i=>(i.zero,i.size,i.bytes)) = some (some (.int .i64 0),1,8):=by kernel_rfl
theorem info4 : (Try.prog.info? 4).map (fun i=>(i.zero,i.size,i.bytes)) = some (some (.bool false),1,1):=by kernel_rfl
theorem info23 : (Try.prog.info? 23).map (fun i=>(i.zero,i.size,i.bytes)) = some (some (.slice none 0 0),1,24):=by kernel_rfl
-- the values' own types
def rd_L1 (xs : List (List Int)) (i : Int) : (List Int):=xs.getD i.toNat ([] : List Int)
theorem at_L1 {w : World} {A : Option Addr} {n : Nat} {xs : List (List Int)} (h : Kd.C (Kd.slice 3 (Kd.int .i64)) w A n xs) (i : Int) (h0 : 0 ≤ i) (h1 : i < n) : ∃ ad A0 c0,A = some ad ∧ w.cell? (ad.add i.toNat) = some (.slice A0 (rd_L1 xs i).length c0) ∧ (rd_L1 xs i).length ≤ c0 ∧ (Kd.int .i64).C w A0 (rd_L1 xs i).length (rd_L1 xs i):=by
 obtain ⟨ad,c,e,_,hK,hc0⟩:=Kd.C_get h ([] : List Int) i h0 h1
 have hc : ∀ j u,c[j]? = some u → w.cell? (ad.add (i.toNat * 1 + j)) = some u:=hc0
 obtain ⟨A0,c0,rfl,l0,g0⟩:=hK
 exact ⟨ad,A0,c0,e,by have hq:=hc 0 _ rfl;rwa [Nat.mul_one,Nat.add_zero] at hq,l0,g0⟩
def rd_L3 (xs : List (List (List Int))) (i : Int) : (List (List Int)):=xs.getD i.toNat ([] : List (List Int))
theorem at_L3 {w : World} {A : Option Addr} {n : Nat} {xs : List (List (List Int))} (h : Kd.C (Kd.slice 23 (Kd.slice 3 (Kd.int .i64))) w A n xs) (i : Int) (h0 : 0 ≤ i) (h1 : i < n) : ∃ ad A0 c0,A = some ad ∧ w.cell? (ad.add i.toNat) = some (.slice A0 (rd_L3 xs i).length c0) ∧ (rd_L3 xs i).length ≤ c0 ∧ (Kd.slice 3 (Kd.int .i64)).C w A0 (rd_L3 xs i).length (rd_L3 xs i):=by
 obtain ⟨ad,c,e,_,hK,hc0⟩:=Kd.C_get h ([] : List (List Int)) i h0 h1
 have hc : ∀ j u,c[j]? = some u → w.cell? (ad.add (i.toNat * 1 + j)) = some u:=hc0
 obtain ⟨A0,c0,rfl,l0,g0⟩:=hK
 exact ⟨ad,A0,c0,e,by have hq:=hc 0 _ rfl;rwa [Nat.mul_one,Nat.add_zero] at hq,l0,g0⟩
/-! #### struct type 63 -/
structure S63 where
 f0 : Int
 f1 : Int
 f2 : (List (List Int))
 f3 : Int
 f4 : Int
def z63 : S63:=⟨(0 : Int),(0 : Int),([] : List (List Int)),(0 : Int),(0 : Int)⟩
def k63 : Kd S63:=Kd.iso (Kd.pair (Kd.int .i64) (Kd.pair (Kd.int .i64) (Kd.pair (Kd.slice 23 (Kd.slice 3 (Kd.int .i64))) (Kd.pair (Kd.int .i64) (Kd.int .u32))))) (fun x : S63=>(x.f0,x.f1,x.f2,x.f3,x.f4))
theorem k63_heap : Kd.Heap k63:=Kd.heap_iso _ (Kd.heap_pair (Kd.heap_int .i64) (Kd.heap_pair (Kd.heap_int .i64) (Kd.heap_pair (Kd.heap_slice 23 (Kd.heap_slice 3 (Kd.heap_int .i64))) (Kd.heap_pair (Kd.heap_int .i64) (Kd.heap_int .u32)))))
theorem k63_open {w : World} {x : S63} {cs : List Value} (h : k63.K w x cs) : ∃ A2 c2,cs = [.int .i64 x.f0,.int .i64 x.f1,.slice A2 x.f2.length c2,.int .i64 x.f3,.int .u32 x.f4] ∧ x.f2.length ≤ c2 ∧ (Kd.slice 3 (Kd.int .i64)).C w A2 x.f2.length x.f2:=by
 obtain ⟨_,_,rfl,rfl,⟨_,_,rfl,rfl,⟨_,_,rfl,⟨A2,c2,rfl,l2,g2⟩,⟨_,_,rfl,rfl,rfl⟩⟩⟩⟩:=h
 exact ⟨A2,c2,rfl,l2,g2⟩
theorem k63_openM {w : World} {base : Nat} {ok : Nat → Prop} {x : S63} {cs : List Value} (h : k63.M w base ok x cs) : ∃ v2,cs = [.int .i64 x.f0,.int .i64 x.f1,v2,.int .i64 x.f3,.int .u32 x.f4] ∧ (Kd.slice 3 (Kd.int .i64)).R 23 w base ok v2 x.f2:=by
 obtain ⟨_,_,rfl,rfl,⟨_,_,rfl,rfl,⟨_,_,rfl,⟨v2,rfl,g2⟩,⟨_,_,rfl,rfl,rfl⟩⟩⟩⟩:=h
 exact ⟨v2,rfl,g2⟩
theorem k63_mk (w : World) (x : S63) {A2 : Option Addr} {c2 : Nat} (l2 : x.f2.length ≤ c2) (g2 : (Kd.slice 3 (Kd.int .i64)).C w A2 x.f2.length x.f2) : k63.K w x [.int .i64 x.f0,.int .i64 x.f1,.slice A2 x.f2.length c2,.int .i64 x.f3,.int .u32 x.f4]:=⟨[.int .i64 x.f0],[.int .i64 x.f1,.slice A2 x.f2.length c2,.int .i64 x.f3,.int .u32 x.f4],rfl,rfl,⟨[.int .i64 x.f1],[.slice A2 x.f2.length c2,.int .i64 x.f3,.int .u32 x.f4],rfl,rfl,⟨[.slice A2 x.f2.length c2],[.int .i64 x.f3,.int .u32 x.f4],rfl,⟨A2,c2,rfl,l2,g2⟩,⟨[.int .i64 x.f3],[.int .u32 x.f4],rfl,rfl,rfl⟩⟩⟩⟩
theorem k63_mkM (w : World) (base : Nat) (ok : Nat → Prop) (x : S63) {v2 : Value} (g2 : (Kd.slice 3 (Kd.int .i64)).R 23 w base ok v2 x.f2) : k63.M w base ok x [.int .i64 x.f0,.int .i64 x.f1,v2,.int .i64 x.f3,.int .u32 x.f4]:=⟨[.int .i64 x.f0],[.int .i64 x.f1,v2,.int .i64 x.f3,.int .u32 x.f4],rfl,rfl,⟨[.int .i64 x.f1],[v2,.int .i64 x.f3,.int .u32 x.f4],rfl,rfl,⟨[v2],[.int .i64 x.f3,.int .u32 x.f4],rfl,⟨v2,rfl,g2⟩,⟨[.int .i64 x.f3],[.int .u32 x.f4],rfl,rfl,rfl⟩⟩⟩⟩
def rd_T63 (xs : List S63) (i : Int) : S63:=xs.getD i.toNat z63
theorem at_T63 {w : World} {A : Option Addr} {n : Nat} {xs : List S63} (h : Kd.C k63 w A n xs) (i : Int) (h0 : 0 ≤ i) (h1 : i < n) : ∃ ad A2 c2,A = some ad ∧ w.cell? (ad.add (i.toNat * 5)) = some (.int .i64 (rd_T63 xs i).f0) ∧ w.cell? ⟨(ad.add (i.toNat * 5)).block,(ad.add (i.toNat * 5)).off + 1,none⟩ = some (.int .i64 (rd_T63 xs i).f1) ∧ w.cell? ⟨(ad.add (i.toNat * 5)).block,(ad.add (i.toNat * 5)).off + 2,none⟩ = some (.slice A2 (rd_T63 xs i).f2.length c2) ∧ w.cell? ⟨(ad.add (i.toNat * 5)).block,(ad.add (i.toNat * 5)).off + 3,none⟩ = some (.int .i64 (rd_T63 xs i).f3) ∧ w.cell? ⟨(ad.add (i.toNat * 5)).block,(ad.add (i.toNat * 5)).off + 4,none⟩ = some (.int .u32 (rd_T63 xs i).f4) ∧ (rd_T63 xs i).f2.length ≤ c2 ∧ (Kd.slice 3 (Kd.int .i64)).C w A2 (rd_T63 xs i).f2.length (rd_T63 xs i).f2:=by
 obtain ⟨ad,c,e,_,hK,hc0⟩:=Kd.C_get h z63 i h0 h1
 have hc : ∀ j u,c[j]? = some u → w.cell? (ad.add (i.toNat * 5 + j)) = some u:=hc0
 obtain ⟨A2,c2,rfl,l2,g2⟩:=k63_open hK
 exact ⟨ad,A2,c2,e,hc 0 _ rfl,by rw [← add_field _ _ 1 (by omega)];exact hc 1 _ rfl,by rw [← add_field _ _ 2 (by omega)];exact hc 2 _ rfl,by rw [← add_field _ _ 3 (by omega)];exact hc 3 _ rfl,by rw [← add_field _ _ 4 (by omega)];exact hc 4 _ rfl,l2,g2⟩
def wf63 (x : S63) : Prop:=((Lit.int .i64 x.f0).wf = true) ∧ ((Lit.int .i64 x.f1).wf = true) ∧ (x.f2.length ≤ 9223372036854775807 ∧ x.f2.length * 24 ≤ 140737488351232 ∧ ∀ y_ ∈ x.f2,y_.length ≤ 9223372036854775807 ∧ y_.length * 8 ≤ 140737488351232 ∧ ∀ y__ ∈ y_,(Lit.int .i64 y__).wf = true) ∧ ((Lit.int .i64 x.f3).wf = true) ∧ ((Lit.int .u32 x.f4).wf = true)
theorem opn63 : Opn Try.prog k63 63 wf63:=(Opn.iso (fun x : S63=>(x.f0,x.f1,x.f2,x.f3,x.f4)) (fun y_=>(⟨y_.1,y_.2.1,y_.2.2.1,y_.2.2.2.1,y_.2.2.2.2⟩ : S63)) (fun _=>rfl) (Opn.struct Try.underlying63 (by kernel_rfl) (OpnF.cons (Opn.int Try.underlying3) rfl (by kernel_rfl) (OpnF.cons (Opn.int Try.underlying3) rfl (by kernel_rfl) (OpnF.cons (Opn.slice (B:=24) (Opn.slice (B:=8) (Opn.int Try.underlying3) Try.underlying23 (by kernel_rfl) (by kernel_rfl)) Try.underlying60 (by kernel_rfl) (by kernel_rfl)) rfl (by kernel_rfl) (OpnF.cons (Opn.int Try.underlying3) rfl (by kernel_rfl) (OpnF.one (Opn.int Try.underlying61) rfl (by kernel_rfl)))))))).imp (fun _ h=>h)
end Go.Proofs.Ythgiiikjcfhgjaa.GV
