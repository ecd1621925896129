-- Written by ext.py, a program of this session.
import Derived.Test.YtnkackiocigdoaaProg
import Derived.Below
import Derived.Deep.Draws
import Derived.Deep.AppendLies
import Derived.Maps.AppendAt
import Derived.OwnWalk
import Derived.Laws.BytesArg
import Derived.Laws.MakeOwn
import Derived.Laws.OwnMore
import Derived.Deep.OwnRows
import Derived.Tactics
import Derived.Lib.ConvBytes
import Derived.Laws.Slices
import Derived.WalkKit
import Derived.KernelRfl
import Derived.RowKit3
import Derived.Deep.LoopGhost
import Derived.Deep.QuietTactic
import Derived.BigQuiet
import Derived.WideLaws
import Derived.Deep.DeepCutAuto
import Derived.Deep.CutBlock
import Derived.Deep.RegionHeld3
import Derived.Laws.Rows
import Derived.Lib.AppendStr
import Derived.ArgAppend
import Derived.Laws.IdiomCopy
import Derived.OrdersHeld
import Derived.Laws.BitsLemmas
import Derived.RowKit
import Derived.Lib.BytesEntry
import Derived.Lib.Bytealg
import Derived.Laws.Externs
import Derived.WalkSpells
import Derived.Test.YtnkackiocigdoaaOpn
import Derived.Shelf.Abstract
import Derived.Test.YtnkackiocigdoaaWWords
import Derived.Test.YtnkackiocigdoaaWLast
import Derived.Test.YtnkackiocigdoaaWTab
import Derived.Test.YtnkackiocigdoaaWFour
import Derived.Test.YtnkackiocigdoaaWQPut
import Derived.Test.YtnkackiocigdoaaWApart
import Derived.Test.YtnkackiocigdoaaWArr
import Derived.Test.YtnkackiocigdoaaWZeros
import Derived.Test.YtnkackiocigdoaaWFoot
import Derived.Test.YtnkackiocigdoaaWKept
import Derived.Test.YtnkackiocigdoaaWShare
import Derived.Test.YtnkackiocigdoaaWN
import Derived.Test.YtnkackiocigdoaaWFootNe
import Derived.Test.YtnkackiocigdoaaWAt
import Derived.Test.YtnkackiocigdoaaWEqStruct
import Derived.Test.YtnkackiocigdoaaWRepsOne
import Derived.Test.YtnkackiocigdoaaWInv
import Derived.Test.YtnkackiocigdoaaWInvWords
import Derived.Test.YtnkackiocigdoaaWGuard
import Derived.Test.YtnkackiocigdoaaWNEv
import Derived.Test.YtnkackiocigdoaaWMore
namespace Go.Proofs.Ytnkackiocigdoaa.GH
open Go.RowKit Go.Proofs.YtnkackiocigdoaaW.PrintWords Go.Proofs.YtnkackiocigdoaaW.PrintLast Go.Proofs.YtnkackiocigdoaaW.PrintMore
attribute [local go_sem] max2_int min2_int max_two min_two max_three min_three max_four min_four cellIs_set   -- for this text's walks alone
set_option linter.unusedVariables false
set_option linter.unusedSimpArgs false
def errW : Option Int → Value
 | none=>.nilIface
 | some c=>.iface 0 (.int .i64 c)
theorem errW_none : errW none = .nilIface:=rfl
theorem errW_some (c : Int) : errW (some c) = .iface 0 (.int .i64 c):=rfl
theorem info3 : (Try.prog.info? 3).map (fun i=>(i.zero,i.size,i.bytes)) = some (some (.int .i64 0),1,8):=by kernel_rfl
theorem info28 : (Try.prog.info? 28).map (fun i=>(i.zero,i.size,i.bytes)) = some (some (.int .u32 0),1,4):=by kernel_rfl
theorem info49 : (Try.prog.info? 49).map (fun i=>(i.zero,i.size,i.bytes)) = some (some (.slice none 0 0),1,24):=by kernel_rfl
-- the values' own types
def rd_L1 (xs : List (List Int)) (i : Int) : (List Int):=xs.getD i.toNat ([] : List Int)
theorem at_L1 {w : World} {A : Option Addr} {n : Nat} {xs : List (List Int)} (h : Kd.C (Kd.slice 3 (Kd.int .i64)) w A n xs) (i : Int) (h0 : 0 ≤ i) (h1 : i < n) : ∃ ad A0 c0,A = some ad ∧ w.cell? (ad.add i.toNat) = some (.slice A0 (rd_L1 xs i).length c0) ∧ (rd_L1 xs i).length ≤ c0 ∧ (Kd.int .i64).C w A0 (rd_L1 xs i).length (rd_L1 xs i):=by
 obtain ⟨ad,c,e,_,hK,hc0⟩:=Kd.C_get h ([] : List Int) i h0 h1
 have hc : ∀ j u,c[j]? = some u → w.cell? (ad.add (i.toNat * 1 + j)) = some u:=hc0
 obtain ⟨A0,c0,rfl,l0,g0⟩:=hK
 exact ⟨ad,A0,c0,e,by have hq:=hc 0 _ rfl;rwa [Nat.mul_one,Nat.add_zero] at hq,l0,g0⟩
/-! #### struct type 27 -/
structure S27 where
 f0 : Int
 f1 : (List Int)
def z27 : S27:=⟨(0 : Int),([] : List Int)⟩
def k27 : Kd S27:=Kd.iso (Kd.pair (Kd.int .i64) (Kd.slice 3 (Kd.int .i64))) (fun x : S27=>(x.f0,x.f1))
theorem k27_heap : Kd.Heap k27:=Kd.heap_iso _ (Kd.heap_pair (Kd.heap_int .i64) (Kd.heap_slice 3 (Kd.heap_int .i64)))
theorem k27_open {w : World} {x : S27} {cs : List Value} (h : k27.K w x cs) : ∃ A1 c1,cs = [.int .i64 x.f0,.slice A1 x.f1.length c1] ∧ x.f1.length ≤ c1 ∧ (Kd.int .i64).C w A1 x.f1.length x.f1:=by
 obtain ⟨_,_,rfl,rfl,⟨A1,c1,rfl,l1,g1⟩⟩:=h
 exact ⟨A1,c1,rfl,l1,g1⟩
theorem k27_openM {w : World} {base : Nat} {ok : Nat → Prop} {x : S27} {cs : List Value} (h : k27.M w base ok x cs) : ∃ v1,cs = [.int .i64 x.f0,v1] ∧ (Kd.int .i64).R 3 w base ok v1 x.f1:=by
 obtain ⟨_,_,rfl,rfl,⟨v1,rfl,g1⟩⟩:=h
 exact ⟨v1,rfl,g1⟩
theorem k27_mk (w : World) (x : S27) {A1 : Option Addr} {c1 : Nat} (l1 : x.f1.length ≤ c1) (g1 : (Kd.int .i64).C w A1 x.f1.length x.f1) : k27.K w x [.int .i64 x.f0,.slice A1 x.f1.length c1]:=⟨[.int .i64 x.f0],[.slice A1 x.f1.length c1],rfl,rfl,⟨A1,c1,rfl,l1,g1⟩⟩
theorem k27_mkM (w : World) (base : Nat) (ok : Nat → Prop) (x : S27) {v1 : Value} (g1 : (Kd.int .i64).R 3 w base ok v1 x.f1) : k27.M w base ok x [.int .i64 x.f0,v1]:=⟨[.int .i64 x.f0],[v1],rfl,rfl,⟨v1,rfl,g1⟩⟩
def rd_T27 (xs : List S27) (i : Int) : S27:=xs.getD i.toNat z27
theorem at_T27 {w : World} {A : Option Addr} {n : Nat} {xs : List S27} (h : Kd.C k27 w A n xs) (i : Int) (h0 : 0 ≤ i) (h1 : i < n) : ∃ ad A1 c1,A = some ad ∧ w.cell? (ad.add (i.toNat * 2)) = some (.int .i64 (rd_T27 xs i).f0) ∧ w.cell? ⟨(ad.add (i.toNat * 2)).block,(ad.add (i.toNat * 2)).off + 1,none⟩ = some (.slice A1 (rd_T27 xs i).f1.length c1) ∧ (rd_T27 xs i).f1.length ≤ c1 ∧ (Kd.int .i64).C w A1 (rd_T27 xs i).f1.length (rd_T27 xs i).f1:=by
 obtain ⟨ad,c,e,_,hK,hc0⟩:=Kd.C_get h z27 i h0 h1
 have hc : ∀ j u,c[j]? = some u → w.cell? (ad.add (i.toNat * 2 + j)) = some u:=hc0
 obtain ⟨A1,c1,rfl,l1,g1⟩:=k27_open hK
 exact ⟨ad,A1,c1,e,hc 0 _ rfl,by rw [← add_field _ _ 1 (by omega)];exact hc 1 _ rfl,l1,g1⟩
def rd_L4 (xs : List (List Int)) (i : Int) : (List Int):=xs.getD i.toNat ([] : List Int)
theorem at_L4 {w : World} {A : Option Addr} {n : Nat} {xs : List (List Int)} (h : Kd.C (Kd.slice 28 (Kd.int .u32)) w A n xs) (i : Int) (h0 : 0 ≤ i) (h1 : i < n) : ∃ ad A0 c0,A = some ad ∧ w.cell? (ad.add i.toNat) = some (.slice A0 (rd_L4 xs i).length c0) ∧ (rd_L4 xs i).length ≤ c0 ∧ (Kd.int .u32).C w A0 (rd_L4 xs i).length (rd_L4 xs i):=by
 obtain ⟨ad,c,e,_,hK,hc0⟩:=Kd.C_get h ([] : List Int) i h0 h1
 have hc : ∀ j u,c[j]? = some u → w.cell? (ad.add (i.toNat * 1 + j)) = some u:=hc0
 obtain ⟨A0,c0,rfl,l0,g0⟩:=hK
 exact ⟨ad,A0,c0,e,by have hq:=hc 0 _ rfl;rwa [Nat.mul_one,Nat.add_zero] at hq,l0,g0⟩
def rd_L5 (xs : List (List S27)) (i : Int) : (List S27):=xs.getD i.toNat ([] : List S27)
theorem at_L5 {w : World} {A : Option Addr} {n : Nat} {xs : List (List S27)} (h : Kd.C (Kd.slice 27 k27) w A n xs) (i : Int) (h0 : 0 ≤ i) (h1 : i < n) : ∃ ad A0 c0,A = some ad ∧ w.cell? (ad.add i.toNat) = some (.slice A0 (rd_L5 xs i).length c0) ∧ (rd_L5 xs i).length ≤ c0 ∧ k27.C w A0 (rd_L5 xs i).length (rd_L5 xs i):=by
 obtain ⟨ad,c,e,_,hK,hc0⟩:=Kd.C_get h ([] : List S27) i h0 h1
 have hc : ∀ j u,c[j]? = some u → w.cell? (ad.add (i.toNat * 1 + j)) = some u:=hc0
 obtain ⟨A0,c0,rfl,l0,g0⟩:=hK
 exact ⟨ad,A0,c0,e,by have hq:=hc 0 _ rfl;rwa [Nat.mul_one,Nat.add_zero] at hq,l0,g0⟩
/-! #### struct type 24 -/
structure S24 where
 f0 : Int
 f1 : Int
 f2 : Int
 f3 : (List S27)
def z24 : S24:=⟨(0 : Int),(0 : Int),(0 : Int),([] : List S27)⟩
def k24 : Kd S24:=Kd.iso (Kd.pair (Kd.int .i64) (Kd.pair (Kd.int .i64) (Kd.pair (Kd.int .i64) (Kd.slice 27 k27)))) (fun x : S24=>(x.f0,x.f1,x.f2,x.f3))
theorem k24_heap : Kd.Heap k24:=Kd.heap_iso _ (Kd.heap_pair (Kd.heap_int .i64) (Kd.heap_pair (Kd.heap_int .i64) (Kd.heap_pair (Kd.heap_int .i64) (Kd.heap_slice 27 k27_heap))))
theorem k24_open {w : World} {x : S24} {cs : List Value} (h : k24.K w x cs) : ∃ A3 c3,cs = [.int .i64 x.f0,.int .i64 x.f1,.int .i64 x.f2,.slice A3 x.f3.length c3] ∧ x.f3.length ≤ c3 ∧ k27.C w A3 x.f3.length x.f3:=by
 obtain ⟨_,_,rfl,rfl,⟨_,_,rfl,rfl,⟨_,_,rfl,rfl,⟨A3,c3,rfl,l3,g3⟩⟩⟩⟩:=h
 exact ⟨A3,c3,rfl,l3,g3⟩
theorem k24_openM {w : World} {base : Nat} {ok : Nat → Prop} {x : S24} {cs : List Value} (h : k24.M w base ok x cs) : ∃ v3,cs = [.int .i64 x.f0,.int .i64 x.f1,.int .i64 x.f2,v3] ∧ k27.R 27 w base ok v3 x.f3:=by
 obtain ⟨_,_,rfl,rfl,⟨_,_,rfl,rfl,⟨_,_,rfl,rfl,⟨v3,rfl,g3⟩⟩⟩⟩:=h
 exact ⟨v3,rfl,g3⟩
theorem k24_mk (w : World) (x : S24) {A3 : Option Addr} {c3 : Nat} (l3 : x.f3.length ≤ c3) (g3 : k27.C w A3 x.f3.length x.f3) : k24.K w x [.int .i64 x.f0,.int .i64 x.f1,.int .i64 x.f2,.slice A3 x.f3.length c3]:=⟨[.int .i64 x.f0],[.int .i64 x.f1,.int .i64 x.f2,.slice A3 x.f3.length c3],rfl,rfl,⟨[.int .i64 x.f1],[.int .i64 x.f2,.slice A3 x.f3.length c3],rfl,rfl,⟨[.int .i64 x.f2],[.slice A3 x.f3.length c3],rfl,rfl,⟨A3,c3,rfl,l3,g3⟩⟩⟩⟩
theorem k24_mkM (w : World) (base : Nat) (ok : Nat → Prop) (x : S24) {v3 : Value} (g3 : k27.R 27 w base ok v3 x.f3) : k24.M w base ok x [.int .i64 x.f0,.int .i64 x.f1,.int .i64 x.f2,v3]:=⟨[.int .i64 x.f0],[.int .i64 x.f1,.int .i64 x.f2,v3],rfl,rfl,⟨[.int .i64 x.f1],[.int .i64 x.f2,v3],rfl,rfl,⟨[.int .i64 x.f2],[v3],rfl,rfl,⟨v3,rfl,g3⟩⟩⟩⟩
def rd_T24 (xs : List S24) (i : Int) : S24:=xs.getD i.toNat z24
theorem at_T24 {w : World} {A : Option Addr} {n : Nat} {xs : List S24} (h : Kd.C k24 w A n xs) (i : Int) (h0 : 0 ≤ i) (h1 : i < n) : ∃ ad A3 c3,A = some ad ∧ w.cell? (ad.add (i.toNat * 4)) = some (.int .i64 (rd_T24 xs i).f0) ∧ w.cell? ⟨(ad.add (i.toNat * 4)).block,(ad.add (i.toNat * 4)).off + 1,none⟩ = some (.int .i64 (rd_T24 xs i).f1) ∧ w.cell? ⟨(ad.add (i.toNat * 4)).block,(ad.add (i.toNat * 4)).off + 2,none⟩ = some (.int .i64 (rd_T24 xs i).f2) ∧ w.cell? ⟨(ad.add (i.toNat * 4)).block,(ad.add (i.toNat * 4)).off + 3,none⟩ = some (.slice A3 (rd_T24 xs i).f3.length c3) ∧ (rd_T24 xs i).f3.length ≤ c3 ∧ k27.C w A3 (rd_T24 xs i).f3.length (rd_T24 xs i).f3:=by
 obtain ⟨ad,c,e,_,hK,hc0⟩:=Kd.C_get h z24 i h0 h1
 have hc : ∀ j u,c[j]? = some u → w.cell? (ad.add (i.toNat * 4 + j)) = some u:=hc0
 obtain ⟨A3,c3,rfl,l3,g3⟩:=k24_open hK
 exact ⟨ad,A3,c3,e,hc 0 _ rfl,by rw [← add_field _ _ 1 (by omega)];exact hc 1 _ rfl,by rw [← add_field _ _ 2 (by omega)];exact hc 2 _ rfl,by rw [← add_field _ _ 3 (by omega)];exact hc 3 _ rfl,l3,g3⟩
def wf27 (x : S27) : Prop:=((Lit.int .i64 x.f0).wf = true) ∧ (x.f1.length ≤ 9223372036854775807 ∧ x.f1.length * 8 ≤ 140737488351232 ∧ ∀ y_ ∈ x.f1,(Lit.int .i64 y_).wf = true)
theorem opn27 : Opn Try.prog k27 27 wf27:=(Opn.iso (fun x : S27=>(x.f0,x.f1)) (fun y_=>(⟨y_.1,y_.2⟩ : S27)) (fun _=>rfl) (Opn.struct Try.underlying27 (by kernel_rfl) (OpnF.cons (Opn.int Try.underlying3) rfl (by kernel_rfl) (OpnF.one (Opn.slice (B:=8) (Opn.int Try.underlying3) Try.underlying25 (by kernel_rfl) (by kernel_rfl)) rfl (by kernel_rfl))))).imp (fun _ h=>h)
def wf24 (x : S24) : Prop:=((Lit.int .i64 x.f0).wf = true) ∧ ((Lit.int .i64 x.f1).wf = true) ∧ ((Lit.int .i64 x.f2).wf = true) ∧ (x.f3.length ≤ 9223372036854775807 ∧ x.f3.length * 32 ≤ 140737488351232 ∧ ∀ y_ ∈ x.f3,wf27 y_)
theorem opn24 : Opn Try.prog k24 24 wf24:=(Opn.iso (fun x : S24=>(x.f0,x.f1,x.f2,x.f3)) (fun y_=>(⟨y_.1,y_.2.1,y_.2.2.1,y_.2.2.2⟩ : S24)) (fun _=>rfl) (Opn.struct Try.underlying24 (by kernel_rfl) (OpnF.cons (Opn.int Try.underlying3) rfl (by kernel_rfl) (OpnF.cons (Opn.int Try.underlying3) rfl (by kernel_rfl) (OpnF.cons (Opn.int Try.underlying3) rfl (by kernel_rfl) (OpnF.one (Opn.slice (B:=32) opn27 Try.underlying22 (by kernel_rfl) (by kernel_rfl)) rfl (by kernel_rfl))))))).imp (fun _ h=>h)
end Go.Proofs.Ytnkackiocigdoaa.GH
