-- Written by ext.py, a program of this session.
import Derived.Test.YthgiiikjcfhgjaaGR0
import Derived.Test.YthgiiikjcfhgjaaGR4
import Derived.Test.YthgiiikjcfhgjaaGR6
import Derived.Test.YthgiiikjcfhgjaaGR7
namespace Go.Proofs.Ythgiiikjcfhgjaa.GR
open Go.RowKit Go.Proofs.YthgiiikjcfhgjaaW.PrintWords Go.Proofs.YthgiiikjcfhgjaaW.PrintLast Go.Proofs.YthgiiikjcfhgjaaW.PrintMore
open List renaming setIfInBounds_toArray → lA_,set_cons_zero → lZ_,set_cons_succ → lS_
attribute [local go_sem] max2_int min2_int max_two min_two max_three min_three max_four min_four cellIs_set   -- for this text's walks alone
set_option linter.unusedVariables false
set_option linter.unusedSimpArgs false
/-! ### coppicerkeep_EndsRise: function 14 -/
mutual
def coppicerkeep_EndsRise.j0 : Nat → List Int → List Int → List Int → Bool → Option (Bool)
 | 0,_,_,_,_=>none
 | k + 1,x0,x3,x5,x52=>if x52 = true then (some false) else (coppicerkeep_EndsRise.l0 k x0 x3 x5 1)
def coppicerkeep_EndsRise.l0 : Nat → List Int → List Int → List Int → Int → Option (Bool)
 | 0,_,_,_,_=>none
 | k + 1,x0,x3,x5,x7=>if x7 < (x3.length : Int) then (if 0 ≤ x7 then (if (rd x3 x7) < 0 then (coppicerkeep_EndsRise.j2 k x0 x3 x5 x7 true) else (if (rd x3 x7) ≥ (x0.length : Int) then (coppicerkeep_EndsRise.j2 k x0 x3 x5 x7 true) else (if 0 ≤ (wrap64 (x7 - 1)) then (if (wrap64 (x7 - 1)) < (x3.length : Int) then (if (rd x3 (wrap64 (x7 - 1))) < 0 then (coppicerkeep_EndsRise.j2 k x0 x3 x5 x7 true) else (if (rd x3 (wrap64 (x7 - 1))) ≥ (x0.length : Int) then (coppicerkeep_EndsRise.j2 k x0 x3 x5 x7 true) else (if 0 ≤ (rd x3 (wrap64 (x7 - 1))) then (if (rd x3 (wrap64 (x7 - 1))) ≤ (x0.length : Int) then (if 0 ≤ (rd x3 x7) then (if (rd x3 x7) ≤ (x0.length : Int) then ((coppicerref_Less.f k (x0.drop ((rd x3 (wrap64 (x7 - 1))) : Int).toNat) (x0.drop ((rd x3 x7) : Int).toNat)).bind fun t166=>(if t166 = true then ((coppicerref_Alike.f k (x0.drop ((rd x3 (wrap64 (x7 - 1))) : Int).toNat) (x0.drop ((rd x3 x7) : Int).toNat)).bind fun t179=>(if (wrap64 (x7 - 1)) < (x5.length : Int) then (coppicerkeep_EndsRise.j2 k x0 x3 x5 x7 (t179 != (rd x5 (wrap64 (x7 - 1))))) else (none))) else (coppicerkeep_EndsRise.j2 k x0 x3 x5 x7 true))) else (none)) else (none)) else (none)) else (none)))) else (none)) else (none)))) else (none)) else (some true)
def coppicerkeep_EndsRise.j2 : Nat → List Int → List Int → List Int → Int → Bool → Option (Bool)
 | 0,_,_,_,_,_=>none
 | k + 1,x0,x3,x5,x7,x129=>if x129 = true then (some false) else (coppicerkeep_EndsRise.l0 k x0 x3 x5 (wrap64 (x7 + 1)))
end
def coppicerkeep_EndsRise.f (k : Nat) (l0 : List Int) : Option (Bool):=(ends_Order.f l0).bind fun bt138=>((ends_Common.f k l0).bind fun bt142=>((coppicerkeep_long.f k (([l0] : List (List Int)))).bind fun t149=>(if t149 = true then (if bt138.2 = 0 then (some false) else (some (bt142.2 != 0))) else (if bt138.2 = 0 then (if bt142.2 = 0 then (if (bt138.1.length : Int) = (l0.length : Int) then (if (l0.length : Int) > 0 then (coppicerkeep_EndsRise.j0 k l0 bt138.1 bt142.1 ((bt142.1.length : Int) != (wrap64 ((l0.length : Int) - 1)))) else (coppicerkeep_EndsRise.j0 k l0 bt138.1 bt142.1 false)) else (coppicerkeep_EndsRise.j0 k l0 bt138.1 bt142.1 true)) else (coppicerkeep_EndsRise.j0 k l0 bt138.1 bt142.1 true)) else (coppicerkeep_EndsRise.j0 k l0 bt138.1 bt142.1 true)))))
abbrev bA0_ : Array Bool := #[false,false,false,false,false,false,false,false,false,false,false,false,false,false,false,false,false,false,false,false,false,false,false,false,false,false,false,false,false,false,false,false,false,false,false,false,false,false,false,false,false,false,false,false,false,false,false,false,false,false,false,false,false,false,false,false,false,false,false,false,false,false,false,false,false,false,false,false,false,false,false]
abbrev bA1_ : Array Bool := #[true,false,false,false,false,false,false,false,false,false,false,false,false,false,false,false,false,false,false,false,false,false,false,false,false,false,false,false,false,false,false,false,false,false,false,false,false,false,false,false,false,false,false,false,false,false,false,false,false,false,false,false,false,false,false,false,false,false,false,false,false,false,false,false,false,false,false,false,false,false,false]
abbrev bA2_ : Array Bool := #[true,true,false,false,false,false,false,false,false,false,false,false,false,false,false,false,false,false,false,false,false,false,false,false,false,false,false,false,false,false,false,false,false,false,false,false,false,false,false,false,false,false,false,false,false,false,false,false,false,false,false,false,false,false,false,false,false,false,false,false,false,false,false,false,false,false,false,false,false,false,false]
abbrev bA3_ : Array Bool := #[true,true,true,false,false,false,false,false,false,false,false,false,false,false,false,false,false,false,false,false,false,false,false,false,false,false,false,false,false,false,false,false,false,false,false,false,false,false,false,false,false,false,false,false,false,false,false,false,false,false,false,false,false,false,false,false,false,false,false,false,false,false,false,false,false,false,false,false,false,false,false]
abbrev bA4_ : Array Bool := #[true,true,true,true,false,false,false,false,false,false,false,false,false,false,false,false,false,false,false,false,false,false,false,false,false,false,false,false,false,false,false,false,false,false,false,false,false,false,false,false,false,false,false,false,false,false,false,false,false,false,false,false,false,false,false,false,false,false,false,false,false,false,false,false,false,false,false,false,false,false,false]
abbrev bA5_ : Array Bool := #[true,true,true,true,true,false,false,false,false,false,false,false,false,false,false,false,false,false,false,false,false,false,false,false,false,false,false,false,false,false,false,false,false,false,false,false,false,false,false,false,false,false,false,false,false,false,false,false,false,false,false,false,false,false,false,false,false,false,false,false,false,false,false,false,false,false,false,false,false,false,false]
abbrev bA6_ : Array Bool := #[true,true,true,true,true,true,false,false,false,false,false,false,false,false,false,false,false,false,false,false,false,false,false,false,false,false,false,false,false,false,false,false,false,false,false,false,false,false,false,false,false,false,false,false,false,false,false,false,false,false,false,false,false,false,false,false,false,false,false,false,false,false,false,false,false,false,false,false,false,false,false]
abbrev bA7_ : Array Bool := #[true,true,true,true,true,true,true,false,false,false,false,false,false,false,false,false,false,false,false,false,false,false,false,false,false,false,false,false,false,false,false,false,false,false,false,false,false,false,false,false,false,false,false,false,false,false,false,false,false,false,false,false,false,false,false,false,false,false,false,false,false,false,false,false,false,false,false,false,false,false,false]
abbrev bA8_ : Array Bool := #[true,true,true,true,true,true,true,true,false,false,false,false,false,false,false,false,false,false,false,false,false,false,false,false,false,false,false,false,false,false,false,false,false,false,false,false,false,false,false,false,false,false,false,false,false,false,false,false,false,false,false,false,false,false,false,false,false,false,false,false,false,false,false,false,false,false,false,false,false,false,false]
abbrev bA9_ : Array Bool := #[true,true,true,true,true,true,true,true,true,false,false,false,false,false,false,false,false,false,false,false,false,false,false,false,false,false,false,false,false,false,false,false,false,false,false,false,false,false,false,false,false,false,false,false,false,false,false,false,false,false,false,false,false,false,false,false,false,false,false,false,false,false,false,false,false,false,false,false,false,false,false]
abbrev bA10_ : Array Bool := #[true,true,true,true,true,true,true,true,true,true,false,false,false,false,false,false,false,false,false,false,false,false,false,false,false,false,false,false,false,false,false,false,false,false,false,false,false,false,false,false,false,false,false,false,false,false,false,false,false,false,false,false,false,false,false,false,false,false,false,false,false,false,false,false,false,false,false,false,false,false,false]
abbrev bA11_ : Array Bool := #[true,true,true,true,true,true,true,true,true,true,true,false,false,false,false,false,false,false,false,false,false,false,false,false,false,false,false,false,false,false,false,false,false,false,false,false,false,false,false,false,false,false,false,false,false,false,false,false,false,false,false,false,false,false,false,false,false,false,false,false,false,false,false,false,false,false,false,false,false,false,false]
abbrev bA12_ : Array Bool := #[true,true,true,true,true,true,true,true,true,true,true,true,false,false,false,false,false,false,false,false,false,false,false,false,false,false,false,false,false,false,false,false,false,false,false,false,false,false,false,false,false,false,false,false,false,false,false,false,false,false,false,false,false,false,false,false,false,false,false,false,false,false,false,false,false,false,false,false,false,false,false]
abbrev bA13_ : Array Bool := #[true,true,true,true,true,true,true,true,true,true,true,true,true,false,false,false,false,false,false,false,false,false,false,false,false,false,false,false,false,false,false,false,false,false,false,false,false,false,false,false,false,false,false,false,false,false,false,false,false,false,false,false,false,false,false,false,false,false,false,false,false,false,false,false,false,false,false,false,false,false,false]
abbrev bA14_ : Array Bool := #[true,true,true,true,true,true,true,true,true,true,true,true,true,true,false,false,false,false,false,false,false,false,false,false,false,false,false,false,false,false,false,false,false,false,false,false,false,false,false,false,false,false,false,false,false,false,false,false,false,false,false,false,false,false,false,false,false,false,false,false,false,false,false,false,false,false,false,false,false,false,false]
abbrev bA15_ : Array Bool := #[true,true,true,true,true,true,true,true,true,true,true,true,true,true,true,false,false,false,false,false,false,false,false,false,false,false,false,false,false,false,false,false,false,false,false,false,false,false,false,false,false,false,false,false,false,false,false,false,false,false,false,false,false,false,false,false,false,false,false,false,false,false,false,false,false,false,false,false,false,false,false]
abbrev bA16_ : Array Bool := #[true,true,true,true,true,true,true,true,true,true,true,true,true,true,true,true,false,false,false,false,false,false,false,false,false,false,false,false,false,false,false,false,false,false,false,false,false,false,false,false,false,false,false,false,false,false,false,false,false,false,false,false,false,false,false,false,false,false,false,false,false,false,false,false,false,false,false,false,false,false,false]
abbrev bA17_ : Array Bool := #[true,true,true,true,true,true,true,true,true,true,true,true,true,true,true,true,true,false,false,false,false,false,false,false,false,false,false,false,false,false,false,false,false,false,false,false,false,false,false,false,false,false,false,false,false,false,false,false,false,false,false,false,false,false,false,false,false,false,false,false,false,false,false,false,false,false,false,false,false,false,false]
abbrev bA18_ : Array Bool := #[true,true,true,true,true,true,true,true,true,true,true,true,true,true,true,true,true,true,false,false,false,false,false,false,false,false,false,false,false,false,false,false,false,false,false,false,false,false,false,false,false,false,false,false,false,false,false,false,false,false,false,false,false,false,false,false,false,false,false,false,false,false,false,false,false,false,false,false,false,false,false]
abbrev bA19_ : Array Bool := #[true,true,true,true,true,true,true,true,true,true,true,true,true,true,true,true,true,true,true,false,false,false,false,false,false,false,false,false,false,false,false,false,false,false,false,false,false,false,false,false,false,false,false,false,false,false,false,false,false,false,false,false,false,false,false,false,false,false,false,false,false,false,false,false,false,false,false,false,false,false,false]
abbrev bA20_ : Array Bool := #[true,true,true,true,true,true,true,true,true,true,true,true,true,true,true,true,true,true,true,true,false,false,false,false,false,false,false,false,false,false,false,false,false,false,false,false,false,false,false,false,false,false,false,false,false,false,false,false,false,false,false,false,false,false,false,false,false,false,false,false,false,false,false,false,false,false,false,false,false,false,false]
abbrev bA21_ : Array Bool := #[true,true,true,true,true,true,true,true,true,true,true,true,true,true,true,true,true,true,true,true,true,false,false,false,false,false,false,false,false,false,false,false,false,false,false,false,false,false,false,false,false,false,false,false,false,false,false,false,false,false,false,false,false,false,false,false,false,false,false,false,false,false,false,false,false,false,false,false,false,false,false]
abbrev bA22_ : Array Bool := #[true,true,true,true,true,true,true,true,true,true,true,true,true,true,true,true,true,true,true,true,true,true,false,false,false,false,false,false,false,false,false,false,false,false,false,false,false,false,false,false,false,false,false,false,false,false,false,false,false,false,false,false,false,false,false,false,false,false,false,false,false,false,false,false,false,false,false,false,false,false,false]
abbrev bA23_ : Array Bool := #[true,true,true,true,true,true,true,true,true,true,true,true,true,true,true,true,true,true,true,true,true,true,true,false,false,false,false,false,false,false,false,false,false,false,false,false,false,false,false,false,false,false,false,false,false,false,false,false,false,false,false,false,false,false,false,false,false,false,false,false,false,false,false,false,false,false,false,false,false,false,false]
abbrev bA24_ : Array Bool := #[true,true,true,true,true,true,true,true,true,true,true,true,true,true,true,true,true,true,true,true,true,true,true,true,false,false,false,false,false,false,false,false,false,false,false,false,false,false,false,false,false,false,false,false,false,false,false,false,false,false,false,false,false,false,false,false,false,false,false,false,false,false,false,false,false,false,false,false,false,false,false]
abbrev bA25_ : Array Bool := #[true,true,true,true,true,true,true,true,true,true,true,true,true,true,true,true,true,true,true,true,true,true,true,true,true,false,false,false,false,false,false,false,false,false,false,false,false,false,false,false,false,false,false,false,false,false,false,false,false,false,false,false,false,false,false,false,false,false,false,false,false,false,false,false,false,false,false,false,false,false,false]
abbrev bA26_ : Array Bool := #[true,true,true,true,true,true,true,true,true,true,true,true,true,true,true,true,true,true,true,true,true,true,true,true,true,true,false,false,false,false,false,false,false,false,false,false,false,false,false,false,false,false,false,false,false,false,false,false,false,false,false,false,false,false,false,false,false,false,false,false,false,false,false,false,false,false,false,false,false,false,false]
abbrev bA27_ : Array Bool := #[true,true,true,true,true,true,true,true,true,true,true,true,true,true,true,true,true,true,true,true,true,true,true,true,true,true,true,false,false,false,false,false,false,false,false,false,false,false,false,false,false,false,false,false,false,false,false,false,false,false,false,false,false,false,false,false,false,false,false,false,false,false,false,false,false,false,false,false,false,false,false]
abbrev bA28_ : Array Bool := #[true,true,true,true,true,true,true,true,true,true,true,true,true,true,true,true,true,true,true,true,true,true,true,true,true,true,true,true,false,false,false,false,false,false,false,false,false,false,false,false,false,false,false,false,false,false,false,false,false,false,false,false,false,false,false,false,false,false,false,false,false,false,false,false,false,false,false,false,false,false,false]
abbrev bA29_ : Array Bool := #[true,true,true,true,true,true,true,true,true,true,true,true,true,true,true,true,true,true,true,true,true,true,true,true,true,true,true,true,true,false,false,false,false,false,false,false,false,false,false,false,false,false,false,false,false,false,false,false,false,false,false,false,false,false,false,false,false,false,false,false,false,false,false,false,false,false,false,false,false,false,false]
abbrev bA30_ : Array Bool := #[true,true,true,true,true,true,true,true,true,true,true,true,true,true,true,true,true,true,true,true,true,true,true,true,true,true,true,true,true,true,false,false,false,false,false,false,false,false,false,false,false,false,false,false,false,false,false,false,false,false,false,false,false,false,false,false,false,false,false,false,false,false,false,false,false,false,false,false,false,false,false]
abbrev bA31_ : Array Bool := #[true,true,true,true,true,true,true,true,true,true,true,true,true,true,true,true,true,true,true,true,true,true,true,true,true,true,true,true,true,true,true,false,false,false,false,false,false,false,false,false,false,false,false,false,false,false,false,false,false,false,false,false,false,false,false,false,false,false,false,false,false,false,false,false,false,false,false,false,false,false,false]
abbrev bA32_ : Array Bool := #[true,true,true,true,true,true,true,true,true,true,true,true,true,true,true,true,true,true,true,true,true,true,true,true,true,true,true,true,true,true,true,true,false,false,false,false,false,false,false,false,false,false,false,false,false,false,false,false,false,false,false,false,false,false,false,false,false,false,false,false,false,false,false,false,false,false,false,false,false,false,false]
abbrev bA33_ : Array Bool := #[true,true,true,true,true,true,true,true,true,true,true,true,true,true,true,true,true,true,true,true,true,true,true,true,true,true,true,true,true,true,true,true,true,false,false,false,false,false,false,false,false,false,false,false,false,false,false,false,false,false,false,false,false,false,false,false,false,false,false,false,false,false,false,false,false,false,false,false,false,false,false]
abbrev bA34_ : Array Bool := #[true,true,true,true,true,true,true,true,true,true,true,true,true,true,true,true,true,true,true,true,true,true,true,true,true,true,true,true,true,true,true,true,true,true,false,false,false,false,false,false,false,false,false,false,false,false,false,false,false,false,false,false,false,false,false,false,false,false,false,false,false,false,false,false,false,false,false,false,false,false,false]
abbrev bA35_ : Array Bool := #[true,true,true,true,true,true,true,true,true,true,true,true,true,true,true,true,true,true,true,true,true,true,true,true,true,true,true,true,true,true,true,true,true,true,true,false,false,false,false,false,false,false,false,false,false,false,false,false,false,false,false,false,false,false,false,false,false,false,false,false,false,false,false,false,false,false,false,false,false,false,false]
abbrev bA36_ : Array Bool := #[true,true,true,true,true,true,true,true,true,true,true,true,true,true,true,true,true,true,true,true,true,true,true,true,true,true,true,true,true,true,true,true,true,true,true,true,false,false,false,false,false,false,false,false,false,false,false,false,false,false,false,false,false,false,false,false,false,false,false,false,false,false,false,false,false,false,false,false,false,false,false]
abbrev bA37_ : Array Bool := #[true,true,true,true,true,true,true,true,true,true,true,true,true,true,true,true,true,true,true,true,true,true,true,true,true,true,true,true,true,true,true,true,true,true,true,true,true,false,false,false,false,false,false,false,false,false,false,false,false,false,false,false,false,false,false,false,false,false,false,false,false,false,false,false,false,false,false,false,false,false,false]
abbrev bA38_ : Array Bool := #[true,true,true,true,true,true,true,true,true,true,true,true,true,true,true,true,true,true,true,true,true,true,true,true,true,true,true,true,true,true,true,true,true,true,true,true,true,true,false,false,false,false,false,false,false,false,false,false,false,false,false,false,false,false,false,false,false,false,false,false,false,false,false,false,false,false,false,false,false,false,false]
abbrev bA39_ : Array Bool := #[true,true,true,true,true,true,true,true,true,true,true,true,true,true,true,true,true,true,true,true,true,true,true,true,true,true,true,true,true,true,true,true,true,true,true,true,true,true,true,false,false,false,false,false,false,false,false,false,false,false,false,false,false,false,false,false,false,false,false,false,false,false,false,false,false,false,false,false,false,false,false]
abbrev bA40_ : Array Bool := #[true,true,true,true,true,true,true,true,true,true,true,true,true,true,true,true,true,true,true,true,true,true,true,true,true,true,true,true,true,true,true,true,true,true,true,true,true,true,true,true,false,false,false,false,false,false,false,false,false,false,false,false,false,false,false,false,false,false,false,false,false,false,false,false,false,false,false,false,false,false,false]
abbrev bA41_ : Array Bool := #[true,true,true,true,true,true,true,true,true,true,true,true,true,true,true,true,true,true,true,true,true,true,true,true,true,true,true,true,true,true,true,true,true,true,true,true,true,true,true,true,true,false,false,false,false,false,false,false,false,false,false,false,false,false,false,false,false,false,false,false,false,false,false,false,false,false,false,false,false,false,false]
abbrev bA42_ : Array Bool := #[true,true,true,true,true,true,true,true,true,true,true,true,true,true,true,true,true,true,true,true,true,true,true,true,true,true,true,true,true,true,true,true,true,true,true,true,true,true,true,true,true,true,false,false,false,false,false,false,false,false,false,false,false,false,false,false,false,false,false,false,false,false,false,false,false,false,false,false,false,false,false]
abbrev bA43_ : Array Bool := #[true,true,true,true,true,true,true,true,true,true,true,true,true,true,true,true,true,true,true,true,true,true,true,true,true,true,true,true,true,true,true,true,true,true,true,true,true,true,true,true,true,true,true,false,false,false,false,false,false,false,false,false,false,false,false,false,false,false,false,false,false,false,false,false,false,false,false,false,false,false,false]
abbrev bA44_ : Array Bool := #[true,true,true,true,true,true,true,true,true,true,true,true,true,true,true,true,true,true,true,true,true,true,true,true,true,true,true,true,true,true,true,true,true,true,true,true,true,true,true,true,true,true,true,true,false,false,false,false,false,false,false,false,false,false,false,false,false,false,false,false,false,false,false,false,false,false,false,false,false,false,false]
abbrev bA45_ : Array Bool := #[true,true,true,true,true,true,true,true,true,true,true,true,true,true,true,true,true,true,true,true,true,true,true,true,true,true,true,true,true,true,true,true,true,true,true,true,true,true,true,true,true,true,true,true,true,false,false,false,false,false,false,false,false,false,false,false,false,false,false,false,false,false,false,false,false,false,false,false,false,false,false]
abbrev bA46_ : Array Bool := #[true,true,true,true,true,true,true,true,true,true,true,true,true,true,true,true,true,true,true,true,true,true,true,true,true,true,true,true,true,true,true,true,true,true,true,true,true,true,true,true,true,true,true,true,true,true,false,false,false,false,false,false,false,false,false,false,false,false,false,false,false,false,false,false,false,false,false,false,false,false,false]
abbrev bA47_ : Array Bool := #[true,true,true,true,true,true,true,true,true,true,true,true,true,true,true,true,true,true,true,true,true,true,true,true,true,true,true,true,true,true,true,true,true,true,true,true,true,true,true,true,true,true,true,true,true,true,true,false,false,false,false,false,false,false,false,false,false,false,false,false,false,false,false,false,false,false,false,false,false,false,false]
abbrev bA48_ : Array Bool := #[true,true,true,true,true,true,true,true,true,true,true,true,true,true,true,true,true,true,true,true,true,true,true,true,true,true,true,true,true,true,true,true,true,true,true,true,true,true,true,true,true,true,true,true,true,true,true,true,false,false,false,false,false,false,false,false,false,false,false,false,false,false,false,false,false,false,false,false,false,false,false]
abbrev bA49_ : Array Bool := #[true,true,true,true,true,true,true,true,true,true,true,true,true,true,true,true,true,true,true,true,true,true,true,true,true,true,true,true,true,true,true,true,true,true,true,true,true,true,true,true,true,true,true,true,true,true,true,true,true,false,false,false,false,false,false,false,false,false,false,false,false,false,false,false,false,false,false,false,false,false,false]
abbrev bA50_ : Array Bool := #[true,true,true,true,true,true,true,true,true,true,true,true,true,true,true,true,true,true,true,true,true,true,true,true,true,true,true,true,true,true,true,true,true,true,true,true,true,true,true,true,true,true,true,true,true,true,true,true,true,true,false,false,false,false,false,false,false,false,false,false,false,false,false,false,false,false,false,false,false,false,false]
abbrev bA51_ : Array Bool := #[true,true,true,true,true,true,true,true,true,true,true,true,true,true,true,true,true,true,true,true,true,true,true,true,true,true,true,true,true,true,true,true,true,true,true,true,true,true,true,true,true,true,true,true,true,true,true,true,true,true,true,false,false,false,false,false,false,false,false,false,false,false,false,false,false,false,false,false,false,false,false]
abbrev bA52_ : Array Bool := #[true,true,true,true,true,true,true,true,true,true,true,true,true,true,true,true,true,true,true,true,true,true,true,true,true,true,true,true,true,true,true,true,true,true,true,true,true,true,true,true,true,true,true,true,true,true,true,true,true,true,true,true,false,false,false,false,false,false,false,false,false,false,false,false,false,false,false,false,false,false,false]
abbrev bA53_ : Array Bool := #[true,true,true,true,true,true,true,true,true,true,true,true,true,true,true,true,true,true,true,true,true,true,true,true,true,true,true,true,true,true,true,true,true,true,true,true,true,true,true,true,true,true,true,true,true,true,true,true,true,true,true,true,true,false,false,false,false,false,false,false,false,false,false,false,false,false,false,false,false,false,false]
abbrev bA54_ : Array Bool := #[true,true,true,true,true,true,true,true,true,true,true,true,true,true,true,true,true,true,true,true,true,true,true,true,true,true,true,true,true,true,true,true,true,true,true,true,true,true,true,true,true,true,true,true,true,true,true,true,true,true,true,true,true,true,false,false,false,false,false,false,false,false,false,false,false,false,false,false,false,false,false]
abbrev bA55_ : Array Bool := #[true,true,true,true,true,true,true,true,true,true,true,true,true,true,true,true,true,true,true,true,true,true,true,true,true,true,true,true,true,true,true,true,true,true,true,true,true,true,true,true,true,true,true,true,true,true,true,true,true,true,true,true,true,true,true,false,false,false,false,false,false,false,false,false,false,false,false,false,false,false,false]
abbrev bA56_ : Array Bool := #[true,true,true,true,true,true,true,true,true,true,true,true,true,true,true,true,true,true,true,true,true,true,true,true,true,true,true,true,true,true,true,true,true,true,true,true,true,true,true,true,true,true,true,true,true,true,true,true,true,true,true,true,true,true,true,true,false,false,false,false,false,false,false,false,false,false,false,false,false,false,false]
abbrev bA57_ : Array Bool := #[true,true,true,true,true,true,true,true,true,true,true,true,true,true,true,true,true,true,true,true,true,true,true,true,true,true,true,true,true,true,true,true,true,true,true,true,true,true,true,true,true,true,true,true,true,true,true,true,true,true,true,true,true,true,true,true,true,false,false,false,false,false,false,false,false,false,false,false,false,false,false]
abbrev bA58_ : Array Bool := #[true,true,true,true,true,true,true,true,true,true,true,true,true,true,true,true,true,true,true,true,true,true,true,true,true,true,true,true,true,true,true,true,true,true,true,true,true,true,true,true,true,true,true,true,true,true,true,true,true,true,true,true,true,true,true,true,true,true,false,false,false,false,false,false,false,false,false,false,false,false,false]
abbrev bA59_ : Array Bool := #[true,true,true,true,true,true,true,true,true,true,true,true,true,true,true,true,true,true,true,true,true,true,true,true,true,true,true,true,true,true,true,true,true,true,true,true,true,true,true,true,true,true,true,true,true,true,true,true,true,true,true,true,true,true,true,true,true,true,true,false,false,false,false,false,false,false,false,false,false,false,false]
abbrev bA60_ : Array Bool := #[true,true,true,true,true,true,true,true,true,true,true,true,true,true,true,true,true,true,true,true,true,true,true,true,true,true,true,true,true,true,true,true,true,true,true,true,true,true,true,true,true,true,true,true,true,true,true,true,true,true,true,true,true,true,true,true,true,true,true,true,false,false,false,false,false,false,false,false,false,false,false]
abbrev bA61_ : Array Bool := #[true,true,true,true,true,true,true,true,true,true,true,true,true,true,true,true,true,true,true,true,true,true,true,true,true,true,true,true,true,true,true,true,true,true,true,true,true,true,true,true,true,true,true,true,true,true,true,true,true,true,true,true,true,true,true,true,true,true,true,true,true,false,false,false,false,false,false,false,false,false,false]
abbrev bA62_ : Array Bool := #[true,true,true,true,true,true,true,true,true,true,true,true,true,true,true,true,true,true,true,true,true,true,true,true,true,true,true,true,true,true,true,true,true,true,true,true,true,true,true,true,true,true,true,true,true,true,true,true,true,true,true,true,true,true,true,true,true,true,true,true,true,true,false,false,false,false,false,false,false,false,false]
abbrev bA63_ : Array Bool := #[true,true,true,true,true,true,true,true,true,true,true,true,true,true,true,true,true,true,true,true,true,true,true,true,true,true,true,true,true,true,true,true,true,true,true,true,true,true,true,true,true,true,true,true,true,true,true,true,true,true,true,true,true,true,true,true,true,true,true,true,true,true,true,false,false,false,false,false,false,false,false]
abbrev bA64_ : Array Bool := #[true,true,true,true,true,true,true,true,true,true,true,true,true,true,true,true,true,true,true,true,true,true,true,true,true,true,true,true,true,true,true,true,true,true,true,true,true,true,true,true,true,true,true,true,true,true,true,true,true,true,true,true,true,true,true,true,true,true,true,true,true,true,true,true,false,false,false,false,false,false,false]
abbrev bA65_ : Array Bool := #[true,true,true,true,true,true,true,true,true,true,true,true,true,true,true,true,true,true,true,true,true,true,true,true,true,true,true,true,true,true,true,true,true,true,true,true,true,true,true,true,true,true,true,true,true,true,true,true,true,true,true,true,true,true,true,true,true,true,true,true,true,true,true,true,true,false,false,false,false,false,false]
abbrev bA66_ : Array Bool := #[true,true,true,true,true,true,true,true,true,true,true,true,true,true,true,true,true,true,true,true,true,true,true,true,true,true,true,true,true,true,true,true,true,true,true,true,true,true,true,true,true,true,true,true,true,true,true,true,true,true,true,true,true,true,true,true,true,true,true,true,true,true,true,true,true,true,false,false,false,false,false]
abbrev bA67_ : Array Bool := #[true,true,true,true,true,true,true,true,true,true,true,true,true,true,true,true,true,true,true,true,true,true,true,true,true,true,true,true,true,true,true,true,true,true,true,true,true,true,true,true,true,true,true,true,true,true,true,true,true,true,true,true,true,true,true,true,true,true,true,true,true,true,true,true,true,true,true,false,false,false,false]
abbrev bA68_ : Array Bool := #[true,true,true,true,true,true,true,true,true,true,true,true,true,true,true,true,true,true,true,true,true,true,true,true,true,true,true,true,true,true,true,true,true,true,true,true,true,true,true,true,true,true,true,true,true,true,true,true,true,true,true,true,true,true,true,true,true,true,true,true,true,true,true,true,true,true,true,true,false,false,false]
abbrev bA69_ : Array Bool := #[true,true,true,true,true,true,true,true,true,true,true,true,true,true,true,true,true,true,true,true,true,true,true,true,true,true,true,true,true,true,true,true,true,true,true,true,true,true,true,true,true,true,true,true,true,true,true,true,true,true,true,true,true,true,true,true,true,true,true,true,true,true,true,true,true,true,true,true,true,false,false]
abbrev bA70_ : Array Bool := #[true,true,true,true,true,true,true,true,true,true,true,true,true,true,true,true,true,true,true,true,true,true,true,true,true,true,true,true,true,true,true,true,true,true,true,true,true,true,true,true,true,true,true,true,true,true,true,true,true,true,true,true,true,true,true,true,true,true,true,true,true,true,true,true,true,true,true,true,true,true,false]
abbrev bA71_ : Array Bool := #[true,true,true,true,true,true,true,true,true,true,true,true,true,true,true,true,true,true,true,true,true,true,true,true,true,true,true,true,true,true,true,true,true,true,true,true,true,true,true,true,true,true,true,true,true,true,true,true,true,true,true,true,true,true,true,true,true,true,true,true,true,true,true,true,true,true,true,true,true,true,true]
abbrev bA72_ : Array Bool := #[true,true,true,true,true,true,true,true,true,false,true,false,false,false,false,false,false,false,false,false,false,false,false,false,false,false,false,false,false,false,false,false,false,false,false,false,false,false,false,false,false,false,false,false,false,false,false,false,false,false,false,false,false,false,false,false,false,false,false,false,false,false,false,false,false,false,false,false,false,false,false]
abbrev bA73_ : Array Bool := #[true,true,true,true,true,true,true,true,true,false,true,true,false,false,false,false,false,false,false,false,false,false,false,false,false,false,false,false,false,false,false,false,false,false,false,false,false,false,false,false,false,false,false,false,false,false,false,false,false,false,false,false,false,false,false,false,false,false,false,false,false,false,false,false,false,false,false,false,false,false,false]
abbrev bA74_ : Array Bool := #[true,true,true,true,true,true,true,true,true,true,true,true,true,true,true,true,true,true,true,true,true,true,true,true,true,true,true,false,true,false,false,false,false,false,false,false,false,false,false,false,false,false,false,false,false,false,false,false,false,false,false,false,false,false,false,false,false,false,false,false,false,false,false,false,false,false,false,false,false,false,false]
abbrev bA75_ : Array Bool := #[true,true,true,true,true,true,true,true,true,true,true,true,true,true,true,true,true,true,true,true,true,true,true,true,true,true,true,false,true,true,false,false,false,false,false,false,false,false,false,false,false,false,false,false,false,false,false,false,false,false,false,false,false,false,false,false,false,false,false,false,false,false,false,false,false,false,false,false,false,false,false]
abbrev bA76_ : Array Bool := #[true,true,true,true,true,true,true,true,true,true,true,true,true,true,true,true,true,true,true,true,true,true,true,true,true,true,true,true,true,true,true,true,true,true,true,true,true,true,false,false,true,false,false,false,false,false,false,false,false,false,false,false,false,false,false,false,false,false,false,false,false,false,false,false,false,false,false,false,false,false,false]
abbrev bA77_ : Array Bool := #[true,true,true,true,true,true,true,true,true,true,true,true,true,true,true,true,true,true,true,true,true,true,true,true,true,true,true,true,true,true,true,true,true,true,true,true,true,true,false,false,true,true,false,false,false,false,false,false,false,false,false,false,false,false,false,false,false,false,false,false,false,false,false,false,false,false,false,false,false,false,false]
abbrev bA78_ : Array Bool := #[true,true,true,true,true,true,true,true,true,true,true,true,true,true,true,true,true,true,true,true,true,true,true,true,true,true,true,true,true,true,true,true,true,true,true,true,true,true,false,false,true,true,true,false,false,false,false,false,false,false,false,false,false,false,false,false,false,false,false,false,false,false,false,false,false,false,false,false,false,false,false]
abbrev bA79_ : Array Bool := #[true,true,true,true,true,true,true,true,true,true,true,true,true,true,true,true,true,true,true,true,true,true,true,true,true,true,true,true,true,true,true,true,true,true,true,true,true,true,false,false,true,true,true,true,false,false,false,false,false,false,false,false,false,false,false,false,false,false,false,false,false,false,false,false,false,false,false,false,false,false,false]
abbrev bA80_ : Array Bool := #[true,true,true,true,true,true,true,true,true,true,true,true,true,true,true,true,true,true,true,true,true,true,true,true,true,true,true,true,true,true,true,true,true,true,true,true,true,true,true,false,true,true,true,true,false,false,false,false,false,false,false,false,false,false,false,false,false,false,false,false,false,false,false,false,false,false,false,false,false,false,false]
abbrev bA81_ : Array Bool := #[true,true,true,true,true,true,true,true,true,true,true,true,true,true,true,true,true,true,true,true,true,true,true,true,true,true,true,true,true,true,true,true,true,true,true,true,true,true,true,true,true,true,true,true,true,true,true,true,true,true,true,true,true,true,true,false,false,true,false,false,false,false,false,false,false,false,false,false,false,false,false]
abbrev bA82_ : Array Bool := #[true,true,true,true,true,true,true,true,true,true,true,true,true,true,true,true,true,true,true,true,true,true,true,true,true,true,true,true,true,true,true,true,true,true,true,true,true,true,true,true,true,true,true,true,true,true,true,true,true,true,true,true,true,true,true,false,false,true,true,false,false,false,false,false,false,false,false,false,false,false,false]
abbrev bA83_ : Array Bool := #[true,true,true,true,true,true,true,true,true,true,true,true,true,true,true,true,true,true,true,true,true,true,true,true,true,true,true,true,true,true,true,true,true,true,true,true,true,true,true,true,true,true,true,true,true,true,true,true,true,true,true,true,true,true,true,false,false,true,true,true,false,false,false,false,false,false,false,false,false,false,false]
abbrev bA84_ : Array Bool := #[true,true,true,true,true,true,true,true,true,true,true,true,true,true,true,true,true,true,true,true,true,true,true,true,true,true,true,true,true,true,true,true,true,true,true,true,true,true,true,true,true,true,true,true,true,true,true,true,true,true,true,true,true,true,true,false,false,true,true,true,true,false,false,false,false,false,false,false,false,false,false]
abbrev bA85_ : Array Bool := #[true,true,true,true,true,true,true,true,true,true,true,true,true,true,true,true,true,true,true,true,true,true,true,true,true,true,true,true,true,true,true,true,true,true,true,true,true,true,true,true,true,true,true,true,true,true,true,true,true,true,true,true,true,true,true,false,false,true,true,true,true,false,false,false,true,false,false,false,false,false,false]
abbrev bA86_ : Array Bool := #[true,true,true,true,true,true,true,true,true,true,true,true,true,true,true,true,true,true,true,true,true,true,true,true,true,true,true,true,true,true,true,true,true,true,true,true,true,true,true,true,true,true,true,true,true,true,true,true,true,true,true,true,true,true,true,false,false,true,true,true,true,false,false,false,true,true,false,false,false,false,false]
abbrev bA87_ : Array Bool := #[true,true,true,true,true,true,true,true,true,true,true,true,true,true,true,true,true,true,true,true,true,true,true,true,true,true,true,true,true,true,true,true,true,true,true,true,true,true,true,true,true,true,true,true,true,true,true,true,true,true,true,true,true,true,true,false,false,true,true,true,true,false,false,false,true,true,true,false,false,false,false]
abbrev bA88_ : Array Bool := #[true,true,true,true,true,true,true,true,true,true,true,true,true,true,true,true,true,true,true,true,true,true,true,true,true,true,true,true,true,true,true,true,true,true,true,true,true,true,true,true,true,true,true,true,true,true,true,true,true,true,true,true,true,true,true,false,false,true,true,true,true,false,false,false,true,true,true,true,false,false,false]
abbrev bA89_ : Array Bool := #[true,true,true,true,true,true,true,true,true,true,true,true,true,true,true,true,true,true,true,true,true,true,true,true,true,true,true,true,true,true,true,true,true,true,true,true,true,true,true,true,true,true,true,true,true,true,true,true,true,true,true,true,true,true,true,true,false,true,true,true,true,false,false,false,true,true,true,true,false,false,false]
abbrev bA90_ : Array Bool := #[true,true,true,true,true,true,true,true,true,true,true,true,true,true,true,true,true,true,true,true,true,true,true,true,true,true,true,true,true,true,true,true,true,true,true,true,true,true,true,true,true,true,true,true,true,true,true,true,true,true,true,true,true,true,true,true,true,true,true,true,true,false,false,false,true,true,true,true,false,false,false]
abbrev bA91_ : Array Bool := #[true,true,true,true,true,true,true,true,true,true,true,true,true,true,true,true,true,true,true,true,true,true,true,true,true,true,true,true,true,true,true,true,true,true,true,true,true,true,true,true,true,true,true,true,true,true,true,true,true,true,true,true,true,true,true,true,true,true,true,true,true,true,false,false,true,true,true,true,false,false,false]
abbrev bA92_ : Array Bool := #[true,true,true,true,true,true,true,true,true,true,true,true,true,true,true,true,true,true,true,true,true,true,true,true,true,true,true,true,true,true,true,true,true,true,true,true,true,true,true,true,true,true,true,true,true,true,true,true,true,true,true,true,true,true,true,true,true,true,true,true,true,true,true,false,true,true,true,true,false,false,false]
abbrev bA93_ : Array Bool := #[true,true,true,true,true,true,true,true,true,true,true,true,true,true,true,true,true,true,true,true,true,true,true,true,true,true,true,true,true,true,true,true,true,true,true,true,true,true,true,true,true,true,true,true,true,true,true,true,true,true,true,true,true,true,true,true,true,true,true,true,true,true,true,false,true,true,true,true,true,false,false]
theorem coppicerkeep_EndsRise.mono_l : ∀ k,(∀ y0 y1 y2 y3,LeO (coppicerkeep_EndsRise.j0 k y0 y1 y2 y3) (coppicerkeep_EndsRise.j0 (k + 1) y0 y1 y2 y3)) ∧ (∀ y0 y1 y2 y3,LeO (coppicerkeep_EndsRise.l0 k y0 y1 y2 y3) (coppicerkeep_EndsRise.l0 (k + 1) y0 y1 y2 y3)) ∧ (∀ y0 y1 y2 y3 y4,LeO (coppicerkeep_EndsRise.j2 k y0 y1 y2 y3 y4) (coppicerkeep_EndsRise.j2 (k + 1) y0 y1 y2 y3 y4))
 | 0=>⟨fun _ _ _ _ r h=>by simp [coppicerkeep_EndsRise.j0] at h,fun _ _ _ _ r h=>by simp [coppicerkeep_EndsRise.l0] at h,fun _ _ _ _ _ r h=>by simp [coppicerkeep_EndsRise.j2] at h⟩
 | k + 1=>by
  obtain ⟨ih0,ih1,ih2⟩:=coppicerkeep_EndsRise.mono_l k
  refine ⟨?_,?_,?_⟩
  ·intro y0 y1 y2 y3
   unfold coppicerkeep_EndsRise.j0
   repeat' first
   | (with_reducible exact ih0 _ _ _ _)
   | (with_reducible exact ih1 _ _ _ _)
   | (with_reducible exact ih2 _ _ _ _ _)
   | (with_reducible exact coppicerkeep_long.mono _ _)
   | (with_reducible exact coppicerref_Alike.mono _ _ _)
   | (with_reducible exact coppicerref_Less.mono _ _ _)
   | (with_reducible exact ends_Common.mono _ _)
   | (with_reducible exact LeO.refl _)
   | (with_reducible exact LeO.none _)
   | (with_reducible refine LeO.ite ?_ ?_)
   | (with_reducible refine LeO.bind ?_ (fun _=>?_))
   | exact ih0 _ _ _ _
   | exact ih1 _ _ _ _
   | exact ih2 _ _ _ _ _
   | exact coppicerkeep_long.mono _ _
   | exact coppicerref_Alike.mono _ _ _
   | exact coppicerref_Less.mono _ _ _
   | exact ends_Common.mono _ _
   | exact LeO.none _
   | refine LeO.ite ?_ ?_
   | refine LeO.bind ?_ (fun _=>?_)
  ·intro y0 y1 y2 y3
   unfold coppicerkeep_EndsRise.l0
   repeat' first
   | (with_reducible exact ih0 _ _ _ _)
   | (with_reducible exact ih1 _ _ _ _)
   | (with_reducible exact ih2 _ _ _ _ _)
   | (with_reducible exact coppicerkeep_long.mono _ _)
   | (with_reducible exact coppicerref_Alike.mono _ _ _)
   | (with_reducible exact coppicerref_Less.mono _ _ _)
   | (with_reducible exact ends_Common.mono _ _)
   | (with_reducible exact LeO.refl _)
   | (with_reducible exact LeO.none _)
   | (with_reducible refine LeO.ite ?_ ?_)
   | (with_reducible refine LeO.bind ?_ (fun _=>?_))
   | exact ih0 _ _ _ _
   | exact ih1 _ _ _ _
   | exact ih2 _ _ _ _ _
   | exact coppicerkeep_long.mono _ _
   | exact coppicerref_Alike.mono _ _ _
   | exact coppicerref_Less.mono _ _ _
   | exact ends_Common.mono _ _
   | exact LeO.none _
   | refine LeO.ite ?_ ?_
   | refine LeO.bind ?_ (fun _=>?_)
  ·intro y0 y1 y2 y3 y4
   unfold coppicerkeep_EndsRise.j2
   repeat' first
   | (with_reducible exact ih0 _ _ _ _)
   | (with_reducible exact ih1 _ _ _ _)
   | (with_reducible exact ih2 _ _ _ _ _)
   | (with_reducible exact coppicerkeep_long.mono _ _)
   | (with_reducible exact coppicerref_Alike.mono _ _ _)
   | (with_reducible exact coppicerref_Less.mono _ _ _)
   | (with_reducible exact ends_Common.mono _ _)
   | (with_reducible exact LeO.refl _)
   | (with_reducible exact LeO.none _)
   | (with_reducible refine LeO.ite ?_ ?_)
   | (with_reducible refine LeO.bind ?_ (fun _=>?_))
   | exact ih0 _ _ _ _
   | exact ih1 _ _ _ _
   | exact ih2 _ _ _ _ _
   | exact coppicerkeep_long.mono _ _
   | exact coppicerref_Alike.mono _ _ _
   | exact coppicerref_Less.mono _ _ _
   | exact ends_Common.mono _ _
   | exact LeO.none _
   | refine LeO.ite ?_ ?_
   | refine LeO.bind ?_ (fun _=>?_)
theorem coppicerkeep_EndsRise.mono : ∀ a0 k,LeO (coppicerkeep_EndsRise.f k a0) (coppicerkeep_EndsRise.f (k + 1) a0):=by
 intro a0 k
 obtain ⟨ih0,ih1,ih2⟩:=coppicerkeep_EndsRise.mono_l k
 unfold coppicerkeep_EndsRise.f
 repeat' first
   | (with_reducible exact ih0 _ _ _ _)
   | (with_reducible exact ih1 _ _ _ _)
   | (with_reducible exact ih2 _ _ _ _ _)
   | (with_reducible exact coppicerkeep_long.mono _ _)
   | (with_reducible exact coppicerref_Alike.mono _ _ _)
   | (with_reducible exact coppicerref_Less.mono _ _ _)
   | (with_reducible exact ends_Common.mono _ _)
   | (with_reducible exact LeO.refl _)
   | (with_reducible exact LeO.none _)
   | (with_reducible refine LeO.ite ?_ ?_)
   | (with_reducible refine LeO.bind ?_ (fun _=>?_))
   | exact ih0 _ _ _ _
   | exact ih1 _ _ _ _
   | exact ih2 _ _ _ _ _
   | exact coppicerkeep_long.mono _ _
   | exact coppicerref_Alike.mono _ _ _
   | exact coppicerref_Less.mono _ _ _
   | exact ends_Common.mono _ _
   | exact LeO.none _
   | refine LeO.ite ?_ ?_
   | refine LeO.bind ?_ (fun _=>?_)
def coppicerkeep_EndsRise.T10 : Bool × List (List Nat × List Nat):=(true,[([],[]),([],[]),([0,1],[0,1]),([2],[2]),([3],[3]),([4],[4]),([5],[5]),([5],[5]),([6,7,5],[5,6,7]),([8,5],[5,8]),([5],[5]),([10,5],[5,10]),([9,11,5],[5,9,11]),([5,12],[5,12]),([13,5],[13]),([14],[14]),([14],[14]),([16,14],[14,16]),([15,17,14],[14,15,17]),([18,14],[14,18]),([19,14],[14,19]),([14,20],[14,20]),([21,14],[21]),([22],[22]),([22],[22]),([24,22],[22,24]),([23,25,22],[22,23,25]),([26,22],[22,26]),([22],[22]),([28,22],[22,28]),([27,29,22],[22,27,29]),([22,30],[22,30]),([31,22],[31]),([32],[32]),([32],[32]),([32],[32]),([35,32],[32,35]),([34,36,32],[32,34,36]),([37,32],[32,37]),([33,38,32],[32,33,38]),([32],[32]),([32],[32]),([32],[32]),([41,42,32],[32,41,42]),([43,32],[32,43]),([40,44,32],[32,40,44]),([39,45,32,32],[32,39,45]),([46,32],[32,46]),([32,47],[32,47]),([48,46],[48]),([49],[49]),([49],[49]),([49],[49]),([52,49],[49,52]),([51,53,49],[49,51,53]),([54,49],[49,54]),([50,55,49],[49,50,55]),([49],[49]),([49],[49]),([49],[49]),([58,59,49],[49,58,59]),([60,49],[49,60]),([57,61,49],[49,57,61]),([56,62,49,49],[49,56,62]),([49],[49]),([49],[49]),([65,49],[49,65]),([64,66,49],[49,64,66]),([67,49],[49,67]),([63,68,49],[49,63,68]),([49,69],[49,69])])
def coppicerkeep_EndsRise.B10 : List Nat:=[0,0,3,7,15,31,63,63,255,511,63,1087,4095,8191,16383,32767,32767,98303,262143,524287,1048575,2097151,4194303,8388607,8388607,25165823,67108863,134217727,8388607,276824063,1073741823,2147483647,4294967295,8589934591,8589934591,8589934591,42949672959,128849018879,266287972351,549755813887,8589934591,8589934591,8589934591,6605659701247,15401752723455,34093450395647,70368744177663,140737488355327,281474976710655,562949953421311,1125899906842623,1125899906842623,1125899906842623,5629499534213119,16888498602639359,34902897112121343,72057594037927935,1125899906842623,1125899906842623,1125899906842623,865817028361977855,2018738532968824831,4468696730258374655,9223372036854775807,1125899906842623,1125899906842623,36894614047325945855,129128334415873703935,276702287005550116863,590295810358705651711,1180591620717411303423]
theorem coppicerkeep_EndsRise.tab10 : rtab .any (opsOf Try.f14 10) = coppicerkeep_EndsRise.T10:=by kernel_rfl
theorem coppicerkeep_EndsRise.bits10 : waitsOk coppicerkeep_EndsRise.T10.2 coppicerkeep_EndsRise.B10 = true:=by kernel_rfl
set_option maxHeartbeats 8000000 in
set_option maxRecDepth 100000 in
theorem coppicerkeep_EndsRise.calls (k : Nat) (P0_ : Nat → Prop) (A0 : Option Addr) (c0 : Nat) (l0 : List Int) (r : Bool) (w : World) (hs0 : Kd.V (Kd.int .u8) 5 w w.heap.size (fun k_=>P0_ k_) (.slice A0 l0.length c0) l0) (h : coppicerkeep_EndsRise.f k l0 = some r) :
  Calls Try.prog 14 #[.slice A0 l0.length c0] w fun e w'=>e = .returned (.bool r) ∧ Below w.heap.size w w':=by
 have HO0:=Aside0.mk (show Kd.V (Kd.int .u8) 5 w w.heap.size (fun k_=>(P0_ k_ ∨ w.heap.size ≤ k_)) (.slice A0 l0.length c0) l0 from Kd.V_mono hs0 (fun k_ hk=>.inl hk))
 have HB:=Aside0.mk (Below.refl w.heap.size w)
 have H : ((ends_Order.f l0).bind fun bt138=>((ends_Common.f k l0).bind fun bt142=>((coppicerkeep_long.f k (([l0] : List (List Int)))).bind fun t149=>(if t149 = true then (if bt138.2 = 0 then (some false) else (some (bt142.2 != 0))) else (if bt138.2 = 0 then (if bt142.2 = 0 then (if (bt138.1.length : Int) = (l0.length : Int) then (if (l0.length : Int) > 0 then (coppicerkeep_EndsRise.j0 k l0 bt138.1 bt142.1 ((bt142.1.length : Int) != (wrap64 ((l0.length : Int) - 1)))) else (coppicerkeep_EndsRise.j0 k l0 bt138.1 bt142.1 false)) else (coppicerkeep_EndsRise.j0 k l0 bt138.1 bt142.1 true)) else (coppicerkeep_EndsRise.j0 k l0 bt138.1 bt142.1 true)) else (coppicerkeep_EndsRise.j0 k l0 bt138.1 bt142.1 true)))))) = some r:=h
 clear h
 replace H:=Option.bind_eq_some_iff.mp H
 obtain ⟨⟨t138,t139⟩,A20,H⟩:=H
 replace H : ((ends_Common.f k l0).bind fun bt142=>((coppicerkeep_long.f k (([l0] : List (List Int)))).bind fun t149=>(if t149 = true then (if t139 = 0 then (some false) else (some (bt142.2 != 0))) else (if t139 = 0 then (if bt142.2 = 0 then (if (t138.length : Int) = (l0.length : Int) then (if (l0.length : Int) > 0 then (coppicerkeep_EndsRise.j0 k l0 t138 bt142.1 ((bt142.1.length : Int) != (wrap64 ((l0.length : Int) - 1)))) else (coppicerkeep_EndsRise.j0 k l0 t138 bt142.1 false)) else (coppicerkeep_EndsRise.j0 k l0 t138 bt142.1 true)) else (coppicerkeep_EndsRise.j0 k l0 t138 bt142.1 true)) else (coppicerkeep_EndsRise.j0 k l0 t138 bt142.1 true))))) = some r:=H
 have A2:=Aside0.mk A20
 clear A20
 replace H:=Option.bind_eq_some_iff.mp H
 obtain ⟨⟨t142,t143⟩,A30,H⟩:=H
 replace H : ((coppicerkeep_long.f k (([l0] : List (List Int)))).bind fun t149=>(if t149 = true then (if t139 = 0 then (some false) else (some (t143 != 0))) else (if t139 = 0 then (if t143 = 0 then (if (t138.length : Int) = (l0.length : Int) then (if (l0.length : Int) > 0 then (coppicerkeep_EndsRise.j0 k l0 t138 t142 ((t142.length : Int) != (wrap64 ((l0.length : Int) - 1)))) else (coppicerkeep_EndsRise.j0 k l0 t138 t142 false)) else (coppicerkeep_EndsRise.j0 k l0 t138 t142 true)) else (coppicerkeep_EndsRise.j0 k l0 t138 t142 true)) else (coppicerkeep_EndsRise.j0 k l0 t138 t142 true)))) = some r:=H
 have A3:=Aside0.mk A30
 clear A30
 obtain ⟨y146,hy146⟩ : ∃ y_ : List (List Int),y_ = (([l0] : List (List Int))):=⟨_,rfl⟩
 replace H : ((coppicerkeep_long.f k y146).bind fun t149=>(if t149 = true then (if t139 = 0 then (some false) else (some (t143 != 0))) else (if t139 = 0 then (if t143 = 0 then (if (t138.length : Int) = (l0.length : Int) then (if (l0.length : Int) > 0 then (coppicerkeep_EndsRise.j0 k l0 t138 t142 ((t142.length : Int) != (wrap64 ((l0.length : Int) - 1)))) else (coppicerkeep_EndsRise.j0 k l0 t138 t142 false)) else (coppicerkeep_EndsRise.j0 k l0 t138 t142 true)) else (coppicerkeep_EndsRise.j0 k l0 t138 t142 true)) else (coppicerkeep_EndsRise.j0 k l0 t138 t142 true)))) = some r:=by first|(rw [hy146];with_reducible exact H)|(have H2_:=(Option.bind_some _ _).symm.trans H;rw [hy146];with_reducible exact H2_)|(have H2_:=(Option.bind_some _ _).symm.trans H;with_reducible exact H2_)|with_reducible exact H|(rw [hy146];exact H)|exact H
 have Ny146:=Aside0.mk hy146
 clear hy146
 replace H:=Option.bind_eq_some_iff.mp H
 obtain ⟨t149,A40,H⟩:=H
 replace H : (if t149 = true then (if t139 = 0 then (some false) else (some (t143 != 0))) else (if t139 = 0 then (if t143 = 0 then (if (t138.length : Int) = (l0.length : Int) then (if (l0.length : Int) > 0 then (coppicerkeep_EndsRise.j0 k l0 t138 t142 ((t142.length : Int) != (wrap64 ((l0.length : Int) - 1)))) else (coppicerkeep_EndsRise.j0 k l0 t138 t142 false)) else (coppicerkeep_EndsRise.j0 k l0 t138 t142 true)) else (coppicerkeep_EndsRise.j0 k l0 t138 t142 true)) else (coppicerkeep_EndsRise.j0 k l0 t138 t142 true))) = some r:=H
 have A4:=Aside0.mk A40
 clear A40
 by_cases c5 : t149 = true
 ·subst c5
  have H1 : (if t139 = 0 then (some false) else (some (t143 != 0))) = some r:=by rw [if_pos rfl] at H;exact H
  clear H
  have H:=H1
  clear H1
  by_cases c6 : t139 = 0
  ·rw [if_pos c6] at H
   have c6b0 : (t139 == 0) = true:=beq_iff_eq.mpr c6
   have c6b1 : (t139 != 0) = false:=bne_eq_false_iff_eq.mpr c6
   clear c6
   obtain rfl:=Option.some.inj H
   go_enter Try.func14,Try.ntmps14
   go_wp2_with (first|((with_reducible refine gate_callee (f:=46) rfl ?_);refine goesL_ (some 10) rfl rfl Try.func46 (by kernel_rfl) rfl #[.slice A0 l0.length c0] rfl (by (try simp only [List.map_toArray,List.map_cons,List.map_nil]);first|done|rfl|(simp only [List.length_drop,List.length_take];rfl)) ?_;(with_reducible refine (ends_Order.calls _ _ l0 t138 t139 _ ?side1 ?side2 A2.out).mono ?_);(case side1=>repeat (first|exact (Kd.V_reads' HO0.out).2.2|(with_reducible refine Kd.C_alloc ?_ _)|(with_reducible refine Kd.C_drewN ?_ _)|(with_reducible refine Kd.C_drew ?_)));(case side2=>exact (Kd.V_reads' HO0.out).2.1);rintro e w7 ⟨v140,rfl,ho0,hb⟩;refine ⟨_,rfl,?_⟩;have n0_:=Aside0.mk (Kd.V_elder' (by (with_reducible repeat (first|apply Kd.V_alloc|apply Kd.V_drewN|apply Kd.V_drew));exact HO0.out) (Kd.R_base ho0) hb);have n1_:=Aside0.mk (Kd.R_lower (Kd.R_newM (M:=fun k_=>(w.heap.size ≤ k_)) ho0 (below_size (by repeat (first|(with_reducible first|exact HB.out|apply below_alloc|apply pw_below_drewN|apply below_drew1)|exact HB.out))) (fun k_ h_=>h_)) (below_size (by repeat (first|(with_reducible first|exact HB.out|apply below_alloc|apply pw_below_drewN|apply below_drew1)|exact HB.out))));have n2_:=Aside0.mk (below_step (by repeat (first|(with_reducible first|exact HB.out|apply below_alloc|apply pw_below_drewN|apply below_drew1)|exact HB.out)) hb);clear HO0;clear HB;have HO0:=n0_;have HO141:=n1_;have HB:=n2_;clear n0_ n1_ n2_;(try clear hb);(try clear hb2);(try clear hk);(try clear hi);(try clear ho0))|((with_reducible refine gate_callee (f:=47) rfl ?_);refine goesL_ (some 15) rfl rfl Try.func47 (by kernel_rfl) rfl #[.slice A0 l0.length c0] rfl (by (try simp only [List.map_toArray,List.map_cons,List.map_nil]);first|done|rfl|(simp only [List.length_drop,List.length_take];rfl)) ?_;(with_reducible refine (ends_Common.calls k _ _ l0 t142 t143 _ ?side1 ?side2 A3.out).mono ?_);(case side1=>repeat (first|exact (Kd.V_reads' HO0.out).2.2|(with_reducible refine Kd.C_alloc ?_ _)|(with_reducible refine Kd.C_drewN ?_ _)|(with_reducible refine Kd.C_drew ?_)));(case side2=>exact (Kd.V_reads' HO0.out).2.1);rintro e w8 ⟨v144,rfl,ho0,hb⟩;refine ⟨_,rfl,?_⟩;have n0_:=Aside0.mk (Kd.V_elder' (by (with_reducible repeat (first|apply Kd.V_alloc|apply Kd.V_drewN|apply Kd.V_drew));exact HO0.out) (Kd.R_base ho0) hb);have n1_:=Aside0.mk (Kd.R_elder' (by (with_reducible repeat (first|apply Kd.R_alloc|apply Kd.R_drewN|apply Kd.R_drew));exact HO141.out) (Kd.R_base ho0) hb);have n2_:=Aside0.mk (Kd.R_lower (Kd.R_new' (Kd.R_newM (M:=fun k_=>(w.heap.size ≤ k_)) ho0 (below_size (by repeat (first|(with_reducible first|exact HB.out|apply below_alloc|apply pw_below_drewN|apply below_drew1)|exact HB.out))) (fun k_ h_=>h_)) (Kd.R_lt (by (with_reducible repeat (first|apply Kd.R_alloc|apply Kd.R_drewN|apply Kd.R_drew));exact HO141.out))) (below_size (by repeat (first|(with_reducible first|exact HB.out|apply below_alloc|apply pw_below_drewN|apply below_drew1)|exact HB.out))));have n3_:=Aside0.mk (below_step (by repeat (first|(with_reducible first|exact HB.out|apply below_alloc|apply pw_below_drewN|apply below_drew1)|exact HB.out)) hb);clear HO0;clear HO141;clear HB;have HO0:=n0_;have HO141:=n1_;have HO145:=n2_;have HB:=n3_;clear n0_ n1_ n2_ n3_;(try clear hb);(try clear hb2);(try clear hk);(try clear hi);(try clear ho0))|((with_reducible refine gate_dst (N:=19) rfl ?_);(try (refine gate_guard (by rfl) ?_;dsimp only));refine Kd.N_lit (Kd.slice 5 (Kd.int .u8)) _ 31 ?hg (N':=19) ?hd (xs:=([l0] : List (List Int))) (inner:=[.slice A0 l0.length c0]) (ok:=(fun k_=>(P0_ k_ ∨ w.heap.size ≤ k_) ∧ some k_ ≠ (v140 : Value).ownBlock ∧ some k_ ≠ (v144 : Value).ownBlock)) (okp:=(fun k_=>(P0_ k_ ∨ w.heap.size ≤ k_) ∧ some k_ ≠ (v140 : Value).ownBlock ∧ some k_ ≠ (v144 : Value).ownBlock)) ?hr ?hp (fun _ hk=>hk) ((show ∀ k_,w8.heap.size ≤ k_ → (fun k_=>(P0_ k_ ∨ w.heap.size ≤ k_) ∧ some k_ ≠ (v140 : Value).ownBlock ∧ some k_ ≠ (v144 : Value).ownBlock) k_ from fun k_ hk=>⟨(.inr (Nat.le_trans (below_size (by repeat (first|(with_reducible first|exact HB.out|apply below_alloc|apply pw_below_drewN|apply below_drew1)|exact HB.out))) hk)),Kd.fresh' (Kd.R_lt (by (with_reducible repeat (first|apply Kd.R_alloc|apply Kd.R_drewN|apply Kd.R_drew));exact HO141.out)) k_ hk,Kd.fresh' (Kd.R_lt (by (with_reducible repeat (first|apply Kd.R_alloc|apply Kd.R_drewN|apply Kd.R_drew));exact HO145.out)) k_ hk⟩) _ (Nat.le_refl _)) (Below.refl _ _) (Nat.le_refl _) (by simp) ?_;(case hd=>rfl);(case hg=>rfl);(case hr=>first|(go_simp;done)|(go_simp;rfl));(case hp=>first|exact (Reps.one (show Kd.FK (Kd.slice 5 (Kd.int .u8)) _ _ l0 [.slice A0 l0.length c0] from (Kd.FK_slice_mk (Kd.V_reads' (Kd.V_mono (ok':=(fun k_=>(P0_ k_ ∨ w.heap.size ≤ k_) ∧ some k_ ≠ (v140 : Value).ownBlock ∧ some k_ ≠ (v144 : Value).ownBlock)) (HO0.out) (fun k_ hk=>⟨hk.1.1,⟨hk.1.2,hk.2⟩⟩))).2.1 (Kd.V_F (Kd.V_mono (ok':=(fun k_=>(P0_ k_ ∨ w.heap.size ≤ k_) ∧ some k_ ≠ (v140 : Value).ownBlock ∧ some k_ ≠ (v144 : Value).ownBlock)) (HO0.out) (fun k_ hk=>⟨hk.1.1,⟨hk.1.2,hk.2⟩⟩))))) (Reps.none _ _))|exact (Reps.one (show Kd.FK (Kd.slice 5 (Kd.int .u8)) _ _ l0 [.slice A0 l0.length c0] from (Kd.FK_slice_mk (Kd.V_reads' (Kd.V_mono (ok':=(fun k_=>(P0_ k_ ∨ w.heap.size ≤ k_) ∧ some k_ ≠ (v140 : Value).ownBlock ∧ some k_ ≠ (v144 : Value).ownBlock)) (HO0.out) (fun k_ hk=>⟨hk.1.1,⟨hk.1.2,hk.2⟩⟩))).2.1 (Kd.V_F (Kd.V_mono (ok':=(fun k_=>(P0_ k_ ∨ w.heap.size ≤ k_) ∧ some k_ ≠ (v140 : Value).ownBlock ∧ some k_ ≠ (v144 : Value).ownBlock)) (Kd.V_drewN HO0.out _) (fun k_ hk=>⟨hk.1.1,⟨hk.1.2,hk.2⟩⟩))))) (Reps.none _ _)));intro v147 w9 ho10 hb hg_ hnew_;clear hg_ hnew_;(first|rw [← Ny146.out] at ho10|(simp only [Int.reduceToNat] at ho10;rw [← Ny146.out] at ho10));have n0_:=Aside0.mk (Kd.V_elder' (by (with_reducible repeat (first|apply Kd.V_alloc|apply Kd.V_drewN|apply Kd.V_drew));exact HO0.out) (by first|exact Kd.N_base ho10|exact Kd.N_base (Kd.S_N ho10)) hb);have n1_:=Aside0.mk (Kd.R_below (by (with_reducible repeat (first|apply Kd.R_alloc|apply Kd.R_drewN|apply Kd.R_drew));exact HO141.out) hb);have n2_:=Aside0.mk (Kd.R_below (by (with_reducible repeat (first|apply Kd.R_alloc|apply Kd.R_drewN|apply Kd.R_drew));exact HO145.out) hb);have n3_:=Aside0.mk (Kd.N_lower ho10 (below_size (by repeat (first|(with_reducible first|exact HB.out|apply below_alloc|apply pw_below_drewN|apply below_drew1)|exact HB.out))));have n4_:=Aside0.mk (below_step (by repeat (first|(with_reducible first|exact HB.out|apply below_alloc|apply pw_below_drewN|apply below_drew1)|exact HB.out)) hb);clear HO0;clear HO141;clear HO145;clear HB;have HO0:=n0_;have HO141:=n1_;have HO145:=n2_;have HO148:=n3_;have HB:=n4_;clear n0_ n1_ n2_ n3_ n4_;clear hb ho10;obtain ⟨Ao11,co11,eo11⟩:=Kd.N_slice HO148.out;subst eo11)|((with_reducible refine gate_callee (f:=48) rfl ?_);refine goesL_ (some 20) rfl rfl Try.func48 (by kernel_rfl) rfl #[.slice Ao11 y146.length co11] rfl (by (try simp only [List.map_toArray,List.map_cons,List.map_nil]);first|done|rfl|(simp only [List.length_drop,List.length_take];rfl)) ?_;(with_reducible refine (coppicerkeep_long.calls k _ _ y146 true _ ?side1 ?side2 A4.out).mono ?_);(case side1=>repeat (first|exact (Kd.N_reads' HO148.out).2.2|(with_reducible refine Kd.C_alloc ?_ _)|(with_reducible refine Kd.C_drewN ?_ _)|(with_reducible refine Kd.C_drew ?_)));(case side2=>exact (Kd.N_reads' HO148.out).2.1);rintro e w' ⟨rfl,⟨nd,rfl⟩⟩;refine ⟨_,rfl,?_⟩))
   go_ret
   exact ⟨by first|rfl|(simp [errW_none,errW_some] <;> rfl)|(simp [*,errW_none,errW_some] <;> rfl),by repeat (first|(with_reducible first|exact HB.out|apply below_alloc|apply pw_below_drewN|apply below_drew1)|exact HB.out)⟩
  ·rw [if_neg c6] at H
   have c6b0 : (t139 == 0) = false:=beq_eq_false_iff_ne.mpr c6
   have c6b1 : (t139 != 0) = true:=bne_iff_ne.mpr c6
   obtain rfl:=Option.some.inj H
   go_enter Try.func14,Try.ntmps14
   go_wp2_with (first|((with_reducible refine gate_callee (f:=46) rfl ?_);refine goesL_ (some 10) rfl rfl Try.func46 (by kernel_rfl) rfl #[.slice A0 l0.length c0] rfl (by (try simp only [List.map_toArray,List.map_cons,List.map_nil]);first|done|rfl|(simp only [List.length_drop,List.length_take];rfl)) ?_;(with_reducible refine (ends_Order.calls _ _ l0 t138 t139 _ ?side1 ?side2 A2.out).mono ?_);(case side1=>repeat (first|exact (Kd.V_reads' HO0.out).2.2|(with_reducible refine Kd.C_alloc ?_ _)|(with_reducible refine Kd.C_drewN ?_ _)|(with_reducible refine Kd.C_drew ?_)));(case side2=>exact (Kd.V_reads' HO0.out).2.1);rintro e w12 ⟨v140,rfl,ho0,hb⟩;refine ⟨_,rfl,?_⟩;have n0_:=Aside0.mk (Kd.V_elder' (by (with_reducible repeat (first|apply Kd.V_alloc|apply Kd.V_drewN|apply Kd.V_drew));exact HO0.out) (Kd.R_base ho0) hb);have n1_:=Aside0.mk (Kd.R_lower (Kd.R_newM (M:=fun k_=>(w.heap.size ≤ k_)) ho0 (below_size (by repeat (first|(with_reducible first|exact HB.out|apply below_alloc|apply pw_below_drewN|apply below_drew1)|exact HB.out))) (fun k_ h_=>h_)) (below_size (by repeat (first|(with_reducible first|exact HB.out|apply below_alloc|apply pw_below_drewN|apply below_drew1)|exact HB.out))));have n2_:=Aside0.mk (below_step (by repeat (first|(with_reducible first|exact HB.out|apply below_alloc|apply pw_below_drewN|apply below_drew1)|exact HB.out)) hb);clear HO0;clear HB;have HO0:=n0_;have HO141:=n1_;have HB:=n2_;clear n0_ n1_ n2_;(try clear hb);(try clear hb2);(try clear hk);(try clear hi);(try clear ho0))|((with_reducible refine gate_callee (f:=47) rfl ?_);refine goesL_ (some 15) rfl rfl Try.func47 (by kernel_rfl) rfl #[.slice A0 l0.length c0] rfl (by (try simp only [List.map_toArray,List.map_cons,List.map_nil]);first|done|rfl|(simp only [List.length_drop,List.length_take];rfl)) ?_;(with_reducible refine (ends_Common.calls k _ _ l0 t142 t143 _ ?side1 ?side2 A3.out).mono ?_);(case side1=>repeat (first|exact (Kd.V_reads' HO0.out).2.2|(with_reducible refine Kd.C_alloc ?_ _)|(with_reducible refine Kd.C_drewN ?_ _)|(with_reducible refine Kd.C_drew ?_)));(case side2=>exact (Kd.V_reads' HO0.out).2.1);rintro e w13 ⟨v144,rfl,ho0,hb⟩;refine ⟨_,rfl,?_⟩;have n0_:=Aside0.mk (Kd.V_elder' (by (with_reducible repeat (first|apply Kd.V_alloc|apply Kd.V_drewN|apply Kd.V_drew));exact HO0.out) (Kd.R_base ho0) hb);have n1_:=Aside0.mk (Kd.R_elder' (by (with_reducible repeat (first|apply Kd.R_alloc|apply Kd.R_drewN|apply Kd.R_drew));exact HO141.out) (Kd.R_base ho0) hb);have n2_:=Aside0.mk (Kd.R_lower (Kd.R_new' (Kd.R_newM (M:=fun k_=>(w.heap.size ≤ k_)) ho0 (below_size (by repeat (first|(with_reducible first|exact HB.out|apply below_alloc|apply pw_below_drewN|apply below_drew1)|exact HB.out))) (fun k_ h_=>h_)) (Kd.R_lt (by (with_reducible repeat (first|apply Kd.R_alloc|apply Kd.R_drewN|apply Kd.R_drew));exact HO141.out))) (below_size (by repeat (first|(with_reducible first|exact HB.out|apply below_alloc|apply pw_below_drewN|apply below_drew1)|exact HB.out))));have n3_:=Aside0.mk (below_step (by repeat (first|(with_reducible first|exact HB.out|apply below_alloc|apply pw_below_drewN|apply below_drew1)|exact HB.out)) hb);clear HO0;clear HO141;clear HB;have HO0:=n0_;have HO141:=n1_;have HO145:=n2_;have HB:=n3_;clear n0_ n1_ n2_ n3_;(try clear hb);(try clear hb2);(try clear hk);(try clear hi);(try clear ho0))|((with_reducible refine gate_dst (N:=19) rfl ?_);(try (refine gate_guard (by rfl) ?_;dsimp only));refine Kd.N_lit (Kd.slice 5 (Kd.int .u8)) _ 31 ?hg (N':=19) ?hd (xs:=([l0] : List (List Int))) (inner:=[.slice A0 l0.length c0]) (ok:=(fun k_=>(P0_ k_ ∨ w.heap.size ≤ k_) ∧ some k_ ≠ (v140 : Value).ownBlock ∧ some k_ ≠ (v144 : Value).ownBlock)) (okp:=(fun k_=>(P0_ k_ ∨ w.heap.size ≤ k_) ∧ some k_ ≠ (v140 : Value).ownBlock ∧ some k_ ≠ (v144 : Value).ownBlock)) ?hr ?hp (fun _ hk=>hk) ((show ∀ k_,w13.heap.size ≤ k_ → (fun k_=>(P0_ k_ ∨ w.heap.size ≤ k_) ∧ some k_ ≠ (v140 : Value).ownBlock ∧ some k_ ≠ (v144 : Value).ownBlock) k_ from fun k_ hk=>⟨(.inr (Nat.le_trans (below_size (by repeat (first|(with_reducible first|exact HB.out|apply below_alloc|apply pw_below_drewN|apply below_drew1)|exact HB.out))) hk)),Kd.fresh' (Kd.R_lt (by (with_reducible repeat (first|apply Kd.R_alloc|apply Kd.R_drewN|apply Kd.R_drew));exact HO141.out)) k_ hk,Kd.fresh' (Kd.R_lt (by (with_reducible repeat (first|apply Kd.R_alloc|apply Kd.R_drewN|apply Kd.R_drew));exact HO145.out)) k_ hk⟩) _ (Nat.le_refl _)) (Below.refl _ _) (Nat.le_refl _) (by simp) ?_;(case hd=>rfl);(case hg=>rfl);(case hr=>first|(go_simp;done)|(go_simp;rfl));(case hp=>first|exact (Reps.one (show Kd.FK (Kd.slice 5 (Kd.int .u8)) _ _ l0 [.slice A0 l0.length c0] from (Kd.FK_slice_mk (Kd.V_reads' (Kd.V_mono (ok':=(fun k_=>(P0_ k_ ∨ w.heap.size ≤ k_) ∧ some k_ ≠ (v140 : Value).ownBlock ∧ some k_ ≠ (v144 : Value).ownBlock)) (HO0.out) (fun k_ hk=>⟨hk.1.1,⟨hk.1.2,hk.2⟩⟩))).2.1 (Kd.V_F (Kd.V_mono (ok':=(fun k_=>(P0_ k_ ∨ w.heap.size ≤ k_) ∧ some k_ ≠ (v140 : Value).ownBlock ∧ some k_ ≠ (v144 : Value).ownBlock)) (HO0.out) (fun k_ hk=>⟨hk.1.1,⟨hk.1.2,hk.2⟩⟩))))) (Reps.none _ _))|exact (Reps.one (show Kd.FK (Kd.slice 5 (Kd.int .u8)) _ _ l0 [.slice A0 l0.length c0] from (Kd.FK_slice_mk (Kd.V_reads' (Kd.V_mono (ok':=(fun k_=>(P0_ k_ ∨ w.heap.size ≤ k_) ∧ some k_ ≠ (v140 : Value).ownBlock ∧ some k_ ≠ (v144 : Value).ownBlock)) (HO0.out) (fun k_ hk=>⟨hk.1.1,⟨hk.1.2,hk.2⟩⟩))).2.1 (Kd.V_F (Kd.V_mono (ok':=(fun k_=>(P0_ k_ ∨ w.heap.size ≤ k_) ∧ some k_ ≠ (v140 : Value).ownBlock ∧ some k_ ≠ (v144 : Value).ownBlock)) (Kd.V_drewN HO0.out _) (fun k_ hk=>⟨hk.1.1,⟨hk.1.2,hk.2⟩⟩))))) (Reps.none _ _)));intro v147 w14 ho15 hb hg_ hnew_;clear hg_ hnew_;(first|rw [← Ny146.out] at ho15|(simp only [Int.reduceToNat] at ho15;rw [← Ny146.out] at ho15));have n0_:=Aside0.mk (Kd.V_elder' (by (with_reducible repeat (first|apply Kd.V_alloc|apply Kd.V_drewN|apply Kd.V_drew));exact HO0.out) (by first|exact Kd.N_base ho15|exact Kd.N_base (Kd.S_N ho15)) hb);have n1_:=Aside0.mk (Kd.R_below (by (with_reducible repeat (first|apply Kd.R_alloc|apply Kd.R_drewN|apply Kd.R_drew));exact HO141.out) hb);have n2_:=Aside0.mk (Kd.R_below (by (with_reducible repeat (first|apply Kd.R_alloc|apply Kd.R_drewN|apply Kd.R_drew));exact HO145.out) hb);have n3_:=Aside0.mk (Kd.N_lower ho15 (below_size (by repeat (first|(with_reducible first|exact HB.out|apply below_alloc|apply pw_below_drewN|apply below_drew1)|exact HB.out))));have n4_:=Aside0.mk (below_step (by repeat (first|(with_reducible first|exact HB.out|apply below_alloc|apply pw_below_drewN|apply below_drew1)|exact HB.out)) hb);clear HO0;clear HO141;clear HO145;clear HB;have HO0:=n0_;have HO141:=n1_;have HO145:=n2_;have HO148:=n3_;have HB:=n4_;clear n0_ n1_ n2_ n3_ n4_;clear hb ho15;obtain ⟨Ao16,co16,eo16⟩:=Kd.N_slice HO148.out;subst eo16)|((with_reducible refine gate_callee (f:=48) rfl ?_);refine goesL_ (some 20) rfl rfl Try.func48 (by kernel_rfl) rfl #[.slice Ao16 y146.length co16] rfl (by (try simp only [List.map_toArray,List.map_cons,List.map_nil]);first|done|rfl|(simp only [List.length_drop,List.length_take];rfl)) ?_;(with_reducible refine (coppicerkeep_long.calls k _ _ y146 true _ ?side1 ?side2 A4.out).mono ?_);(case side1=>repeat (first|exact (Kd.N_reads' HO148.out).2.2|(with_reducible refine Kd.C_alloc ?_ _)|(with_reducible refine Kd.C_drewN ?_ _)|(with_reducible refine Kd.C_drew ?_)));(case side2=>exact (Kd.N_reads' HO148.out).2.1);rintro e w' ⟨rfl,⟨nd,rfl⟩⟩;refine ⟨_,rfl,?_⟩))
   go_ret
   exact ⟨by first|rfl|(simp [errW_none,errW_some] <;> rfl)|(simp [*,errW_none,errW_some] <;> rfl),by repeat (first|(with_reducible first|exact HB.out|apply below_alloc|apply pw_below_drewN|apply below_drew1)|exact HB.out)⟩
 ·replace c5:=Bool.eq_false_iff.mpr c5
  subst c5
  have H1 : (if t139 = 0 then (if t143 = 0 then (if (t138.length : Int) = (l0.length : Int) then (if (l0.length : Int) > 0 then (coppicerkeep_EndsRise.j0 k l0 t138 t142 ((t142.length : Int) != (wrap64 ((l0.length : Int) - 1)))) else (coppicerkeep_EndsRise.j0 k l0 t138 t142 false)) else (coppicerkeep_EndsRise.j0 k l0 t138 t142 true)) else (coppicerkeep_EndsRise.j0 k l0 t138 t142 true)) else (coppicerkeep_EndsRise.j0 k l0 t138 t142 true)) = some r:=by rw [if_neg (show ¬ (false = true) by decide)] at H;exact H
  clear H
  have H:=H1
  clear H1
  have HC17:=Aside0.mk H
  clear H
  go_enter Try.func14,Try.ntmps14
  go_upto_region 5 with (first|((with_reducible refine gate_callee (f:=46) rfl ?_);refine goesL_ (some 10) rfl rfl Try.func46 (by kernel_rfl) rfl #[.slice A0 l0.length c0] rfl (by (try simp only [List.map_toArray,List.map_cons,List.map_nil]);first|done|rfl|(simp only [List.length_drop,List.length_take];rfl)) ?_;(with_reducible refine (ends_Order.calls _ _ l0 t138 t139 _ ?side1 ?side2 A2.out).mono ?_);(case side1=>repeat (first|exact (Kd.V_reads' HO0.out).2.2|(with_reducible refine Kd.C_alloc ?_ _)|(with_reducible refine Kd.C_drewN ?_ _)|(with_reducible refine Kd.C_drew ?_)));(case side2=>exact (Kd.V_reads' HO0.out).2.1);rintro e w18 ⟨v140,rfl,ho0,hb⟩;refine ⟨_,rfl,?_⟩;have n0_:=Aside0.mk (Kd.V_elder' (by (with_reducible repeat (first|apply Kd.V_alloc|apply Kd.V_drewN|apply Kd.V_drew));exact HO0.out) (Kd.R_base ho0) hb);have n1_:=Aside0.mk (Kd.R_lower (Kd.R_newM (M:=fun k_=>(w.heap.size ≤ k_)) ho0 (below_size (by repeat (first|(with_reducible first|exact HB.out|apply below_alloc|apply pw_below_drewN|apply below_drew1)|exact HB.out))) (fun k_ h_=>h_)) (below_size (by repeat (first|(with_reducible first|exact HB.out|apply below_alloc|apply pw_below_drewN|apply below_drew1)|exact HB.out))));have n2_:=Aside0.mk (below_step (by repeat (first|(with_reducible first|exact HB.out|apply below_alloc|apply pw_below_drewN|apply below_drew1)|exact HB.out)) hb);clear HO0;clear HB;have HO0:=n0_;have HO141:=n1_;have HB:=n2_;clear n0_ n1_ n2_;(try clear hb);(try clear hb2);(try clear hk);(try clear hi);(try clear ho0))|((with_reducible refine gate_callee (f:=47) rfl ?_);refine goesL_ (some 15) rfl rfl Try.func47 (by kernel_rfl) rfl #[.slice A0 l0.length c0] rfl (by (try simp only [List.map_toArray,List.map_cons,List.map_nil]);first|done|rfl|(simp only [List.length_drop,List.length_take];rfl)) ?_;(with_reducible refine (ends_Common.calls k _ _ l0 t142 t143 _ ?side1 ?side2 A3.out).mono ?_);(case side1=>repeat (first|exact (Kd.V_reads' HO0.out).2.2|(with_reducible refine Kd.C_alloc ?_ _)|(with_reducible refine Kd.C_drewN ?_ _)|(with_reducible refine Kd.C_drew ?_)));(case side2=>exact (Kd.V_reads' HO0.out).2.1);rintro e w19 ⟨v144,rfl,ho0,hb⟩;refine ⟨_,rfl,?_⟩;have n0_:=Aside0.mk (Kd.V_elder' (by (with_reducible repeat (first|apply Kd.V_alloc|apply Kd.V_drewN|apply Kd.V_drew));exact HO0.out) (Kd.R_base ho0) hb);have n1_:=Aside0.mk (Kd.R_elder' (by (with_reducible repeat (first|apply Kd.R_alloc|apply Kd.R_drewN|apply Kd.R_drew));exact HO141.out) (Kd.R_base ho0) hb);have n2_:=Aside0.mk (Kd.R_lower (Kd.R_new' (Kd.R_newM (M:=fun k_=>(w.heap.size ≤ k_)) ho0 (below_size (by repeat (first|(with_reducible first|exact HB.out|apply below_alloc|apply pw_below_drewN|apply below_drew1)|exact HB.out))) (fun k_ h_=>h_)) (Kd.R_lt (by (with_reducible repeat (first|apply Kd.R_alloc|apply Kd.R_drewN|apply Kd.R_drew));exact HO141.out))) (below_size (by repeat (first|(with_reducible first|exact HB.out|apply below_alloc|apply pw_below_drewN|apply below_drew1)|exact HB.out))));have n3_:=Aside0.mk (below_step (by repeat (first|(with_reducible first|exact HB.out|apply below_alloc|apply pw_below_drewN|apply below_drew1)|exact HB.out)) hb);clear HO0;clear HO141;clear HB;have HO0:=n0_;have HO141:=n1_;have HO145:=n2_;have HB:=n3_;clear n0_ n1_ n2_ n3_;(try clear hb);(try clear hb2);(try clear hk);(try clear hi);(try clear ho0))|((with_reducible refine gate_dst (N:=19) rfl ?_);(try (refine gate_guard (by rfl) ?_;dsimp only));refine Kd.N_lit (Kd.slice 5 (Kd.int .u8)) _ 31 ?hg (N':=19) ?hd (xs:=([l0] : List (List Int))) (inner:=[.slice A0 l0.length c0]) (ok:=(fun k_=>(P0_ k_ ∨ w.heap.size ≤ k_) ∧ some k_ ≠ (v140 : Value).ownBlock ∧ some k_ ≠ (v144 : Value).ownBlock)) (okp:=(fun k_=>(P0_ k_ ∨ w.heap.size ≤ k_) ∧ some k_ ≠ (v140 : Value).ownBlock ∧ some k_ ≠ (v144 : Value).ownBlock)) ?hr ?hp (fun _ hk=>hk) ((show ∀ k_,w19.heap.size ≤ k_ → (fun k_=>(P0_ k_ ∨ w.heap.size ≤ k_) ∧ some k_ ≠ (v140 : Value).ownBlock ∧ some k_ ≠ (v144 : Value).ownBlock) k_ from fun k_ hk=>⟨(.inr (Nat.le_trans (below_size (by repeat (first|(with_reducible first|exact HB.out|apply below_alloc|apply pw_below_drewN|apply below_drew1)|exact HB.out))) hk)),Kd.fresh' (Kd.R_lt (by (with_reducible repeat (first|apply Kd.R_alloc|apply Kd.R_drewN|apply Kd.R_drew));exact HO141.out)) k_ hk,Kd.fresh' (Kd.R_lt (by (with_reducible repeat (first|apply Kd.R_alloc|apply Kd.R_drewN|apply Kd.R_drew));exact HO145.out)) k_ hk⟩) _ (Nat.le_refl _)) (Below.refl _ _) (Nat.le_refl _) (by simp) ?_;(case hd=>rfl);(case hg=>rfl);(case hr=>first|(go_simp;done)|(go_simp;rfl));(case hp=>first|exact (Reps.one (show Kd.FK (Kd.slice 5 (Kd.int .u8)) _ _ l0 [.slice A0 l0.length c0] from (Kd.FK_slice_mk (Kd.V_reads' (Kd.V_mono (ok':=(fun k_=>(P0_ k_ ∨ w.heap.size ≤ k_) ∧ some k_ ≠ (v140 : Value).ownBlock ∧ some k_ ≠ (v144 : Value).ownBlock)) (HO0.out) (fun k_ hk=>⟨hk.1.1,⟨hk.1.2,hk.2⟩⟩))).2.1 (Kd.V_F (Kd.V_mono (ok':=(fun k_=>(P0_ k_ ∨ w.heap.size ≤ k_) ∧ some k_ ≠ (v140 : Value).ownBlock ∧ some k_ ≠ (v144 : Value).ownBlock)) (HO0.out) (fun k_ hk=>⟨hk.1.1,⟨hk.1.2,hk.2⟩⟩))))) (Reps.none _ _))|exact (Reps.one (show Kd.FK (Kd.slice 5 (Kd.int .u8)) _ _ l0 [.slice A0 l0.length c0] from (Kd.FK_slice_mk (Kd.V_reads' (Kd.V_mono (ok':=(fun k_=>(P0_ k_ ∨ w.heap.size ≤ k_) ∧ some k_ ≠ (v140 : Value).ownBlock ∧ some k_ ≠ (v144 : Value).ownBlock)) (HO0.out) (fun k_ hk=>⟨hk.1.1,⟨hk.1.2,hk.2⟩⟩))).2.1 (Kd.V_F (Kd.V_mono (ok':=(fun k_=>(P0_ k_ ∨ w.heap.size ≤ k_) ∧ some k_ ≠ (v140 : Value).ownBlock ∧ some k_ ≠ (v144 : Value).ownBlock)) (Kd.V_drewN HO0.out _) (fun k_ hk=>⟨hk.1.1,⟨hk.1.2,hk.2⟩⟩))))) (Reps.none _ _)));intro v147 w20 ho21 hb hg_ hnew_;clear hg_ hnew_;(first|rw [← Ny146.out] at ho21|(simp only [Int.reduceToNat] at ho21;rw [← Ny146.out] at ho21));have n0_:=Aside0.mk (Kd.V_elder' (by (with_reducible repeat (first|apply Kd.V_alloc|apply Kd.V_drewN|apply Kd.V_drew));exact HO0.out) (by first|exact Kd.N_base ho21|exact Kd.N_base (Kd.S_N ho21)) hb);have n1_:=Aside0.mk (Kd.R_below (by (with_reducible repeat (first|apply Kd.R_alloc|apply Kd.R_drewN|apply Kd.R_drew));exact HO141.out) hb);have n2_:=Aside0.mk (Kd.R_below (by (with_reducible repeat (first|apply Kd.R_alloc|apply Kd.R_drewN|apply Kd.R_drew));exact HO145.out) hb);have n3_:=Aside0.mk (Kd.N_lower ho21 (below_size (by repeat (first|(with_reducible first|exact HB.out|apply below_alloc|apply pw_below_drewN|apply below_drew1)|exact HB.out))));have n4_:=Aside0.mk (below_step (by repeat (first|(with_reducible first|exact HB.out|apply below_alloc|apply pw_below_drewN|apply below_drew1)|exact HB.out)) hb);clear HO0;clear HO141;clear HO145;clear HB;have HO0:=n0_;have HO141:=n1_;have HO145:=n2_;have HO148:=n3_;have HB:=n4_;clear n0_ n1_ n2_ n3_ n4_;clear hb ho21;obtain ⟨Ao22,co22,eo22⟩:=Kd.N_slice HO148.out;subst eo22)|((with_reducible refine gate_callee (f:=48) rfl ?_);refine goesL_ (some 20) rfl rfl Try.func48 (by kernel_rfl) rfl #[.slice Ao22 y146.length co22] rfl (by (try simp only [List.map_toArray,List.map_cons,List.map_nil]);first|done|rfl|(simp only [List.length_drop,List.length_take];rfl)) ?_;(with_reducible refine (coppicerkeep_long.calls k _ _ y146 false _ ?side1 ?side2 A4.out).mono ?_);(case side1=>repeat (first|exact (Kd.N_reads' HO148.out).2.2|(with_reducible refine Kd.C_alloc ?_ _)|(with_reducible refine Kd.C_drewN ?_ _)|(with_reducible refine Kd.C_drew ?_)));(case side2=>exact (Kd.N_reads' HO148.out).2.1);rintro e w' ⟨rfl,⟨nd,rfl⟩⟩;refine ⟨_,rfl,?_⟩))
  (try simp only [Act.put,lA_,lZ_,lS_])
  go_cut [52] (fun v52 wc=>∃ (kq : Nat) (x52_16 : Bool),v52 = .bool x52_16 ∧ Aside0 (coppicerkeep_EndsRise.j0 kq l0 t138 t142 x52_16 = some r) ∧ Aside0 (kq ≤ k) ∧ Aside0 (Kd.V (Kd.int .u8) 5 wc w.heap.size (fun k_=>(P0_ k_ ∨ w.heap.size ≤ k_) ∧ some k_ ≠ (v140 : Value).ownBlock ∧ some k_ ≠ (v144 : Value).ownBlock) (.slice A0 l0.length c0) l0) ∧ Aside0 (Kd.R (Kd.int .i64) 3 wc w.heap.size (fun k_=>(w.heap.size ≤ k_) ∧ some k_ ≠ (v144 : Value).ownBlock) v140 t138) ∧ Aside0 (Kd.R (Kd.int .i64) 3 wc w.heap.size (fun k_=>(w.heap.size ≤ k_) ∧ some k_ ≠ (v140 : Value).ownBlock) v144 t142) ∧ Aside0 (Below w.heap.size w wc))
  case first =>
   have H:=HC17.out
   clear HC17
   by_cases c23 : t139 = 0
   ·rw [if_pos c23] at H
    have c23b0 : (t139 == 0) = true:=beq_iff_eq.mpr c23
    have c23b1 : (t139 != 0) = false:=bne_eq_false_iff_eq.mpr c23
    clear c23
    (first|rw [c23b0]|(simp only [i64_w,i32_w];rw [c23b0])|skip)
    by_cases c24 : t143 = 0
    ·rw [if_pos c24] at H
     have c24b0 : (t143 == 0) = true:=beq_iff_eq.mpr c24
     have c24b1 : (t143 != 0) = false:=bne_eq_false_iff_eq.mpr c24
     clear c24
     by_cases c25 : (t138.length : Int) = (l0.length : Int)
     ·rw [if_pos c25] at H
      have c25b0 : ((t138.length : Int) == (l0.length : Int)) = true:=beq_iff_eq.mpr c25
      have c25b1 : ((t138.length : Int) != (l0.length : Int)) = false:=bne_eq_false_iff_eq.mpr c25
      have c25b2 : (t138.length == l0.length) = true:=by first|simpa using c25|(simp at c25 ⊢;omega)
      clear c25
      by_cases c26 : (l0.length : Int) > 0
      ·rw [if_pos c26] at H
       have c26b0 : decide (0 < (l0.length : Int)) = true:=decide_eq_true c26
       have c26b1 : decide (0 < l0.length) = true:=decide_eq_true (by omega)
       clear c26
       have H':=Aside0.mk H
       clear H
       obtain ⟨Ao27,co27,eo27⟩:=Kd.R_slice HO141.out
       subst eo27
       obtain ⟨Ao28,co28,eo28⟩:=Kd.R_slice HO145.out
       subst eo28
       go_wp2
       go_meet
       case rel=>exact ⟨_,(((t142.length : Int) != (wrap64 ((l0.length : Int) - 1)))),(by first|rfl|(simp;done)|(simp [*];done)),H',⟨by first|omega|exact Nat.le_refl _⟩,⟨by (with_reducible repeat (first|apply Kd.V_alloc|apply Kd.V_drewN|apply Kd.V_drew));exact Kd.V_mono HO0.out (fun _ hk=>⟨hk.1.1.1,⟨hk.1.1.2,hk.1.2⟩⟩)⟩,⟨by (with_reducible repeat (first|apply Kd.R_alloc|apply Kd.R_drewN|apply Kd.R_drew));exact Kd.R_mono HO141.out (fun _ hk=>⟨hk.1.1,hk.2⟩)⟩,⟨by (with_reducible repeat (first|apply Kd.R_alloc|apply Kd.R_drewN|apply Kd.R_drew));exact Kd.R_mono HO145.out (fun _ hk=>⟨hk.1.1,hk.2⟩)⟩,⟨by repeat (first|(with_reducible first|exact HB.out|apply below_alloc|apply pw_below_drewN|apply below_drew1)|exact HB.out)⟩⟩
      ·rw [if_neg c26] at H
       have c26b0 : decide (0 < (l0.length : Int)) = false:=decide_eq_false c26
       have c26b1 : decide (0 < l0.length) = false:=decide_eq_false (by omega)
       clear c26
       have H':=Aside0.mk H
       clear H
       obtain ⟨Ao29,co29,eo29⟩:=Kd.R_slice HO141.out
       subst eo29
       go_wp2
       go_meet
       case rel=>exact ⟨_,(false),(by first|rfl|(simp;done)|(simp [*];done)),H',⟨by first|omega|exact Nat.le_refl _⟩,⟨by (with_reducible repeat (first|apply Kd.V_alloc|apply Kd.V_drewN|apply Kd.V_drew));exact Kd.V_mono HO0.out (fun _ hk=>⟨hk.1.1.1,⟨hk.1.1.2,hk.1.2⟩⟩)⟩,⟨by (with_reducible repeat (first|apply Kd.R_alloc|apply Kd.R_drewN|apply Kd.R_drew));exact Kd.R_mono HO141.out (fun _ hk=>⟨hk.1.1,hk.2⟩)⟩,⟨by (with_reducible repeat (first|apply Kd.R_alloc|apply Kd.R_drewN|apply Kd.R_drew));exact Kd.R_mono HO145.out (fun _ hk=>⟨hk.1.1,hk.2⟩)⟩,⟨by repeat (first|(with_reducible first|exact HB.out|apply below_alloc|apply pw_below_drewN|apply below_drew1)|exact HB.out)⟩⟩
     ·rw [if_neg c25] at H
      have c25b0 : ((t138.length : Int) == (l0.length : Int)) = false:=beq_eq_false_iff_ne.mpr c25
      have c25b1 : ((t138.length : Int) != (l0.length : Int)) = true:=bne_iff_ne.mpr c25
      have c25b2 : (t138.length == l0.length) = false:=by first|simpa using c25|(simp at c25 ⊢;omega)
      have H':=Aside0.mk H
      clear H
      obtain ⟨Ao30,co30,eo30⟩:=Kd.R_slice HO141.out
      subst eo30
      go_wp2
      go_meet
      case rel=>exact ⟨_,(true),(by first|rfl|(simp;done)|(simp [*];done)),H',⟨by first|omega|exact Nat.le_refl _⟩,⟨by (with_reducible repeat (first|apply Kd.V_alloc|apply Kd.V_drewN|apply Kd.V_drew));exact Kd.V_mono HO0.out (fun _ hk=>⟨hk.1.1.1,⟨hk.1.1.2,hk.1.2⟩⟩)⟩,⟨by (with_reducible repeat (first|apply Kd.R_alloc|apply Kd.R_drewN|apply Kd.R_drew));exact Kd.R_mono HO141.out (fun _ hk=>⟨hk.1.1,hk.2⟩)⟩,⟨by (with_reducible repeat (first|apply Kd.R_alloc|apply Kd.R_drewN|apply Kd.R_drew));exact Kd.R_mono HO145.out (fun _ hk=>⟨hk.1.1,hk.2⟩)⟩,⟨by repeat (first|(with_reducible first|exact HB.out|apply below_alloc|apply pw_below_drewN|apply below_drew1)|exact HB.out)⟩⟩
    ·rw [if_neg c24] at H
     have c24b0 : (t143 == 0) = false:=beq_eq_false_iff_ne.mpr c24
     have c24b1 : (t143 != 0) = true:=bne_iff_ne.mpr c24
     have H':=Aside0.mk H
     clear H
     go_wp2
     go_meet
     case rel=>exact ⟨_,(true),(by first|rfl|(simp;done)|(simp [*];done)),H',⟨by first|omega|exact Nat.le_refl _⟩,⟨by (with_reducible repeat (first|apply Kd.V_alloc|apply Kd.V_drewN|apply Kd.V_drew));exact Kd.V_mono HO0.out (fun _ hk=>⟨hk.1.1.1,⟨hk.1.1.2,hk.1.2⟩⟩)⟩,⟨by (with_reducible repeat (first|apply Kd.R_alloc|apply Kd.R_drewN|apply Kd.R_drew));exact Kd.R_mono HO141.out (fun _ hk=>⟨hk.1.1,hk.2⟩)⟩,⟨by (with_reducible repeat (first|apply Kd.R_alloc|apply Kd.R_drewN|apply Kd.R_drew));exact Kd.R_mono HO145.out (fun _ hk=>⟨hk.1.1,hk.2⟩)⟩,⟨by repeat (first|(with_reducible first|exact HB.out|apply below_alloc|apply pw_below_drewN|apply below_drew1)|exact HB.out)⟩⟩
   ·rw [if_neg c23] at H
    have c23b0 : (t139 == 0) = false:=beq_eq_false_iff_ne.mpr c23
    have c23b1 : (t139 != 0) = true:=bne_iff_ne.mpr c23
    (first|rw [c23b0]|(simp only [i64_w,i32_w];rw [c23b0])|skip)
    have H':=Aside0.mk H
    clear H
    go_wp2
    go_meet
    case rel=>exact ⟨_,(true),(by first|rfl|(simp;done)|(simp [*];done)),H',⟨by first|omega|exact Nat.le_refl _⟩,⟨by (with_reducible repeat (first|apply Kd.V_alloc|apply Kd.V_drewN|apply Kd.V_drew));exact Kd.V_mono HO0.out (fun _ hk=>⟨hk.1.1.1,⟨hk.1.1.2,hk.1.2⟩⟩)⟩,⟨by (with_reducible repeat (first|apply Kd.R_alloc|apply Kd.R_drewN|apply Kd.R_drew));exact Kd.R_mono HO141.out (fun _ hk=>⟨hk.1.1,hk.2⟩)⟩,⟨by (with_reducible repeat (first|apply Kd.R_alloc|apply Kd.R_drewN|apply Kd.R_drew));exact Kd.R_mono HO145.out (fun _ hk=>⟨hk.1.1,hk.2⟩)⟩,⟨by repeat (first|(with_reducible first|exact HB.out|apply below_alloc|apply pw_below_drewN|apply below_drew1)|exact HB.out)⟩⟩
  case rest =>
   clear HC17
   try clear c1
   try clear c2
   try clear p2
   try clear c4
   try clear c5
   try clear c6
   try clear c6b0
   try clear c6b1
   try clear p6
   try clear c14
   try clear c23
   try clear c23b0
   try clear c23b1
   try clear c24
   try clear c24b0
   try clear c24b1
   try clear c25
   try clear c25b0
   try clear c25b1
   try clear c25b2
   try clear c26
   try clear c26b0
   try clear c26b1
   obtain ⟨kq,x52_16,rfl,HA,HJ16,HO_0,HO_3,HO_5,HB⟩:=hcut
   cases kq with
   | zero=>exact absurd HA.out (by simp [coppicerkeep_EndsRise.j0])
   | succ kj16 =>
    have H:=HA.out
    clear HA
    simp only [coppicerkeep_EndsRise.j0] at H
    by_cases c31 : x52_16 = true
    ·subst c31
     have H1 : (some false) = some r:=by rw [if_pos rfl] at H;exact H
     clear H
     have H:=H1
     clear H1
     obtain rfl:=Option.some.inj H
     go_wp2
     go_ret
     exact ⟨by first|rfl|(simp [errW_none,errW_some] <;> rfl)|(simp [*,errW_none,errW_some] <;> rfl),by repeat (first|(with_reducible first|exact HB.out|apply below_alloc|apply pw_below_drewN|apply below_drew1)|exact HB.out)⟩
    ·replace c31:=Bool.eq_false_iff.mpr c31
     subst c31
     have H1 : (coppicerkeep_EndsRise.l0 kj16 l0 t138 t142 1) = some r:=by rw [if_neg (show ¬ (false = true) by decide)] at H;exact H
     clear H
     have H:=H1
     clear H1
     have H':=Aside0.mk H
     clear H
     go_wp2
     go_loopg [7] kj16 (fun kq v7 w'=>∃ (x7_2 : Int),v7 = .int .i64 x7_2 ∧ Aside0 (coppicerkeep_EndsRise.l0 kq l0 t138 t142 x7_2 = some r) ∧ Aside0 (kq ≤ kj16) ∧ Aside0 (Kd.V (Kd.int .u8) 5 w' w.heap.size (fun k_=>(P0_ k_ ∨ w.heap.size ≤ k_) ∧ some k_ ≠ (v140 : Value).ownBlock ∧ some k_ ≠ (v144 : Value).ownBlock) (.slice A0 l0.length c0) l0) ∧ Aside0 (Kd.R (Kd.int .i64) 3 w' w.heap.size (fun k_=>(w.heap.size ≤ k_) ∧ some k_ ≠ (v144 : Value).ownBlock) v140 t138) ∧ Aside0 (Kd.R (Kd.int .i64) 3 w' w.heap.size (fun k_=>(w.heap.size ≤ k_) ∧ some k_ ≠ (v140 : Value).ownBlock) v144 t142) ∧ Aside0 (Below w.heap.size w w'))
     case atStart=>exact ⟨(1),(by first|rfl|(simp;done)|(simp [*];done)),H',⟨Nat.le_refl _⟩,⟨by (with_reducible repeat (first|apply Kd.V_alloc|apply Kd.V_drewN|apply Kd.V_drew));exact HO_0.out⟩,⟨by (with_reducible repeat (first|apply Kd.R_alloc|apply Kd.R_drewN|apply Kd.R_drew));exact HO_3.out⟩,⟨by (with_reducible repeat (first|apply Kd.R_alloc|apply Kd.R_drewN|apply Kd.R_drew));exact HO_5.out⟩,⟨by repeat (first|(with_reducible first|exact HB.out|apply below_alloc|apply pw_below_drewN|apply below_drew1)|exact HB.out)⟩⟩
     case round =>
      clear H'
      try clear c1
      try clear c2
      try clear p2
      try clear c3
      try clear c4
      try clear c5
      try clear c6
      try clear c6b0
      try clear c6b1
      try clear p6
      try clear c14
      try clear c23
      try clear c23b0
      try clear c23b1
      try clear c24
      try clear c24b0
      try clear c24b1
      try clear c25
      try clear c25b0
      try clear c25b1
      try clear c25b2
      try clear c26
      try clear c26b0
      try clear c26b1
      try clear c31
      try clear p2
      try clear p6
      obtain ⟨x7_2,rfl,HA,HK2,HO_0,HO_3,HO_5,HB⟩:=hrel
      cases gk with
      | zero=>exact absurd HA.out (by simp [coppicerkeep_EndsRise.l0])
      | succ k2 =>
       have H:=HA.out
       clear HA
       simp only [coppicerkeep_EndsRise.l0] at H
       by_cases c32 : x7_2 < (t138.length : Int)
       ·rw [if_pos c32] at H
        have c32b0 : decide (x7_2 < (t138.length : Int)) = true:=decide_eq_true c32
        clear c32
        have HC33:=Aside0.mk H
        clear H
        obtain ⟨Ao34,co34,eo34⟩:=Kd.R_slice HO_3.out
        subst eo34
        go_upto_region 10 with (fail)
        go_cut [129] (fun v129 wc=>∃ (kq : Nat) (x129_32 : Bool),v129 = .bool x129_32 ∧ Aside0 (coppicerkeep_EndsRise.j2 kq l0 t138 t142 x7_2 x129_32 = some r) ∧ Aside0 (kq ≤ k2) ∧ Aside0 (Kd.V (Kd.int .u8) 5 wc w.heap.size (fun k_=>(P0_ k_ ∨ w.heap.size ≤ k_) ∧ some k_ ≠ ((.slice Ao34 t138.length co34) : Value).ownBlock ∧ some k_ ≠ (v144 : Value).ownBlock) (.slice A0 l0.length c0) l0) ∧ Aside0 (Kd.R (Kd.int .i64) 3 wc w.heap.size (fun k_=>(w.heap.size ≤ k_) ∧ some k_ ≠ (v144 : Value).ownBlock) (.slice Ao34 t138.length co34) t138) ∧ Aside0 (Kd.R (Kd.int .i64) 3 wc w.heap.size (fun k_=>(w.heap.size ≤ k_) ∧ some k_ ≠ ((.slice Ao34 t138.length co34) : Value).ownBlock) v144 t142) ∧ Aside0 (Below w.heap.size w wc))
        case first =>
         have H:=HC33.out
         clear HC33
         by_cases c35 : 0 ≤ x7_2
         ·rw [if_pos c35] at H
          have c35b0 : decide (0 ≤ x7_2) = true:=decide_eq_true c35
          clear c35
          (first|rw [c35b0]|(simp only [i64_w,i32_w];rw [c35b0])|skip)
          by_cases c36 : (rd t138 x7_2) < 0
          ·rw [if_pos c36] at H
           have c36b0 : decide ((rd t138 x7_2) < 0) = true:=decide_eq_true c36
           clear c36
           have H':=Aside0.mk H
           clear H
           try go_wp2
           have n0_:=Aside0.mk (Kd.V_drew HO_0.out)
           have n1_:=Aside0.mk (Kd.R_drew HO_3.out)
           have n2_:=Aside0.mk (Kd.R_drew HO_5.out)
           have n3_:=Aside0.mk (below_drew1 HB.out)
           clear HO_0
           clear HO_3
           clear HO_5
           clear HB
           have HO_0:=n0_
           have HO_3:=n1_
           have HO_5:=n2_
           have HB:=n3_
           clear n0_ n1_ n2_ n3_
           have p150 : 0 ≤ (x7_2 : Int):=of_decide_eq_true (by first|(with_reducible assumption)|assumption)
           have q150 : x7_2 < (t138.length : Int):=of_decide_eq_true (by first|(with_reducible assumption)|assumption)
           obtain ⟨ad150,e150,hx150_0⟩:=Kd.at_int (Kd.R_reads' HO_3.out).2.2 x7_2 p150 q150
           cases e150
           replace p150:=eq_true p150
           replace q150:=eq_true q150
           refine start_ (n:=71) (S:=fun w'=>w'.cell? (ad150.add (x7_2).toNat) = some (.int .i64 (rd t138 x7_2))) (ds:=[]) bA0_ (by kernel_rfl) rfl rfl (hx150_0) (fun hHeld=>?_);refine with_tabW coppicerkeep_EndsRise.tab10 coppicerkeep_EndsRise.bits10 (fun HT_ HW_=>?_)
           generalize wr.drew = w37 at HO_0 HO_3 HO_5 HB hx150_0 hHeld ⊢
           refine pure_ (i:=0) (N:=some 59) (v:=?_) (a':=?_) bA1_ rfl rfl (any_of HT_.out (by kernel_rfl)) (fun _ _ _ h=>h) (Or.inl ⟨by rfl,?_⟩) ?_ ?_
           rotate_left
           ·intro w'
            go_simp
            with_reducible rfl
           rotate_left
           ·simp only [Act.put,lA_,lZ_,lS_,i64_w,i32_w]
            rfl
           refine pure_ (i:=1) (N:=some 60) (v:=?_) (a':=?_) bA2_ rfl rfl (any_of HT_.out (by kernel_rfl)) (fun _ _ _ h=>h) (Or.inl ⟨by rfl,?_⟩) ?_ ?_
           rotate_left
           ·intro w'
            go_simp
            with_reducible rfl
           rotate_left
           ·simp only [Act.put,lA_,lZ_,lS_,i64_w,i32_w]
            rfl
           refine pure_ (i:=2) (N:=some 61) (v:=?_) (a':=?_) bA3_ rfl rfl (any_of HT_.out (by kernel_rfl)) (fun _ _ _ h=>h) (Or.inl ⟨by rfl,?_⟩) ?_ ?_
           rotate_left
           ·intro w'
            go_simp
            with_reducible rfl
           rotate_left
           ·simp only [Act.put,lA_,lZ_,lS_,i64_w,i32_w]
            rfl
           refine take_ (i:=3) (N:=some 62) (v:=?_) (a':=?_) bA4_ rfl rfl (take_ofW HT_.out HW_.out (by kernel_rfl)) (fun _ _ _ h=>h) (Or.inl ⟨by rfl,?_⟩) hHeld ?_ ?_
           rotate_left
           ·intro w' s0
            go_simp
            with_reducible rfl
           rotate_left
           ·simp only [Act.put,lA_,lZ_,lS_,i64_w,i32_w]
            rfl
           refine pure_ (i:=4) (N:=some 63) (v:=?_) (a':=?_) bA5_ rfl rfl (any_of HT_.out (by kernel_rfl)) (fun _ _ _ h=>h) (Or.inl ⟨by rfl,?_⟩) ?_ ?_
           rotate_left
           ·intro w'
            go_simp
            with_reducible rfl
           rotate_left
           ·simp only [Act.put,lA_,lZ_,lS_,i64_w,i32_w]
            rfl
           refine pure_ (i:=5) (N:=some 64) (v:=?_) (a':=?_) bA6_ rfl rfl (any_of HT_.out (by kernel_rfl)) (fun _ _ _ h=>h) (Or.inl ⟨by rfl,?_⟩) ?_ ?_
           rotate_left
           ·intro w'
            go_simp
            with_reducible rfl
           rotate_left
           ·simp only [Act.put,lA_,lZ_,lS_,i64_w,i32_w]
            rfl
           refine pure_ (i:=6) (N:=some 65) (v:=undef) (a':=?_) bA7_ rfl rfl (any_of HT_.out (by kernel_rfl)) (fun _ _ _ h=>h) (Or.inr ⟨by rfl,rfl⟩) ?_ ?_
           rotate_left
           ·simp only [Act.put,lA_,lZ_,lS_,i64_w,i32_w]
            rfl
           refine pure_ (i:=7) (N:=some 66) (v:=undef) (a':=?_) bA8_ rfl rfl (any_of HT_.out (by kernel_rfl)) (fun _ _ _ h=>h) (Or.inr ⟨by rfl,rfl⟩) ?_ ?_
           rotate_left
           ·simp only [Act.put,lA_,lZ_,lS_,i64_w,i32_w]
            rfl
           refine pure_ (i:=8) (N:=some 67) (v:=undef) (a':=?_) bA9_ rfl rfl (any_of HT_.out (by kernel_rfl)) (fun _ _ _ h=>h) (Or.inr ⟨by rfl,rfl⟩) ?_ ?_
           rotate_left
           ·simp only [Act.put,lA_,lZ_,lS_,i64_w,i32_w]
            rfl
           refine pure_ (i:=9) (N:=some 68) (v:=undef) (a':=?_) bA10_ rfl rfl (any_of HT_.out (by kernel_rfl)) (fun _ _ _ h=>h) (Or.inr ⟨by rfl,rfl⟩) ?_ ?_
           rotate_left
           ·simp only [Act.put,lA_,lZ_,lS_,i64_w,i32_w]
            rfl
           refine pure_ (i:=10) (N:=some 69) (v:=undef) (a':=?_) bA11_ rfl rfl (any_of HT_.out (by kernel_rfl)) (fun _ _ _ h=>h) (Or.inr ⟨by rfl,rfl⟩) ?_ ?_
           rotate_left
           ·simp only [Act.put,lA_,lZ_,lS_,i64_w,i32_w]
            rfl
           refine pure_ (i:=11) (N:=some 70) (v:=undef) (a':=?_) bA12_ rfl rfl (any_of HT_.out (by kernel_rfl)) (fun _ _ _ h=>h) (Or.inr ⟨by rfl,rfl⟩) ?_ ?_
           rotate_left
           ·simp only [Act.put,lA_,lZ_,lS_,i64_w,i32_w]
            rfl
           refine pure_ (i:=12) (N:=some 71) (v:=undef) (a':=?_) bA13_ rfl rfl (any_of HT_.out (by kernel_rfl)) (fun _ _ _ h=>h) (Or.inr ⟨by rfl,rfl⟩) ?_ ?_
           rotate_left
           ·simp only [Act.put,lA_,lZ_,lS_,i64_w,i32_w]
            rfl
           refine pure_ (i:=13) (N:=some 72) (v:=?_) (a':=?_) bA14_ rfl rfl (any_of HT_.out (by kernel_rfl)) (fun _ _ _ h=>h) (Or.inl ⟨by rfl,?_⟩) ?_ ?_
           rotate_left
           ·intro w'
            go_simp
            with_reducible rfl
           rotate_left
           ·simp only [Act.put,lA_,lZ_,lS_,i64_w,i32_w]
            rfl
           refine pure_ (i:=14) (N:=some 73) (v:=?_) (a':=?_) bA15_ rfl rfl (any_of HT_.out (by kernel_rfl)) (fun _ _ _ h=>h) (Or.inl ⟨by rfl,?_⟩) ?_ ?_
           rotate_left
           ·intro w'
            go_simp
            with_reducible rfl
           rotate_left
           ·simp only [Act.put,lA_,lZ_,lS_,i64_w,i32_w]
            rfl
           refine pure_ (i:=15) (N:=some 74) (v:=undef) (a':=?_) bA16_ rfl rfl (any_of HT_.out (by kernel_rfl)) (fun _ _ _ h=>h) (Or.inr ⟨by rfl,rfl⟩) ?_ ?_
           rotate_left
           ·simp only [Act.put,lA_,lZ_,lS_,i64_w,i32_w]
            rfl
           refine pure_ (i:=16) (N:=some 75) (v:=undef) (a':=?_) bA17_ rfl rfl (any_of HT_.out (by kernel_rfl)) (fun _ _ _ h=>h) (Or.inr ⟨by rfl,rfl⟩) ?_ ?_
           rotate_left
           ·simp only [Act.put,lA_,lZ_,lS_,i64_w,i32_w]
            rfl
           refine pure_ (i:=17) (N:=some 76) (v:=undef) (a':=?_) bA18_ rfl rfl (any_of HT_.out (by kernel_rfl)) (fun _ _ _ h=>h) (Or.inr ⟨by rfl,rfl⟩) ?_ ?_
           rotate_left
           ·simp only [Act.put,lA_,lZ_,lS_,i64_w,i32_w]
            rfl
           refine pure_ (i:=18) (N:=some 77) (v:=undef) (a':=?_) bA19_ rfl rfl (any_of HT_.out (by kernel_rfl)) (fun _ _ _ h=>h) (Or.inr ⟨by rfl,rfl⟩) ?_ ?_
           rotate_left
           ·simp only [Act.put,lA_,lZ_,lS_,i64_w,i32_w]
            rfl
           refine pure_ (i:=19) (N:=some 78) (v:=undef) (a':=?_) bA20_ rfl rfl (any_of HT_.out (by kernel_rfl)) (fun _ _ _ h=>h) (Or.inr ⟨by rfl,rfl⟩) ?_ ?_
           rotate_left
           ·simp only [Act.put,lA_,lZ_,lS_,i64_w,i32_w]
            rfl
           refine pure_ (i:=20) (N:=some 79) (v:=undef) (a':=?_) bA21_ rfl rfl (any_of HT_.out (by kernel_rfl)) (fun _ _ _ h=>h) (Or.inr ⟨by rfl,rfl⟩) ?_ ?_
           rotate_left
           ·simp only [Act.put,lA_,lZ_,lS_,i64_w,i32_w]
            rfl
           refine pure_ (i:=21) (N:=some 80) (v:=?_) (a':=?_) bA22_ rfl rfl (any_of HT_.out (by kernel_rfl)) (fun _ _ _ h=>h) (Or.inl ⟨by rfl,?_⟩) ?_ ?_
           rotate_left
           ·intro w'
            go_simp
            with_reducible rfl
           rotate_left
           ·simp only [Act.put,lA_,lZ_,lS_,i64_w,i32_w]
            rfl
           refine pure_ (i:=22) (N:=some 81) (v:=?_) (a':=?_) bA23_ rfl rfl (any_of HT_.out (by kernel_rfl)) (fun _ _ _ h=>h) (Or.inl ⟨by rfl,?_⟩) ?_ ?_
           rotate_left
           ·intro w'
            go_simp
            with_reducible rfl
           rotate_left
           ·simp only [Act.put,lA_,lZ_,lS_,i64_w,i32_w]
            rfl
           refine pure_ (i:=23) (N:=some 82) (v:=undef) (a':=?_) bA24_ rfl rfl (any_of HT_.out (by kernel_rfl)) (fun _ _ _ h=>h) (Or.inr ⟨by rfl,rfl⟩) ?_ ?_
           rotate_left
           ·simp only [Act.put,lA_,lZ_,lS_,i64_w,i32_w]
            rfl
           refine pure_ (i:=24) (N:=some 83) (v:=undef) (a':=?_) bA25_ rfl rfl (any_of HT_.out (by kernel_rfl)) (fun _ _ _ h=>h) (Or.inr ⟨by rfl,rfl⟩) ?_ ?_
           rotate_left
           ·simp only [Act.put,lA_,lZ_,lS_,i64_w,i32_w]
            rfl
           refine pure_ (i:=25) (N:=some 84) (v:=undef) (a':=?_) bA26_ rfl rfl (any_of HT_.out (by kernel_rfl)) (fun _ _ _ h=>h) (Or.inr ⟨by rfl,rfl⟩) ?_ ?_
           rotate_left
           ·simp only [Act.put,lA_,lZ_,lS_,i64_w,i32_w]
            rfl
           refine pure_ (i:=26) (N:=some 85) (v:=undef) (a':=?_) bA27_ rfl rfl (any_of HT_.out (by kernel_rfl)) (fun _ _ _ h=>h) (Or.inr ⟨by rfl,rfl⟩) ?_ ?_
           rotate_left
           ·simp only [Act.put,lA_,lZ_,lS_,i64_w,i32_w]
            rfl
           refine pure_ (i:=27) (N:=some 86) (v:=undef) (a':=?_) bA28_ rfl rfl (any_of HT_.out (by kernel_rfl)) (fun _ _ _ h=>h) (Or.inr ⟨by rfl,rfl⟩) ?_ ?_
           rotate_left
           ·simp only [Act.put,lA_,lZ_,lS_,i64_w,i32_w]
            rfl
           refine pure_ (i:=28) (N:=some 87) (v:=undef) (a':=?_) bA29_ rfl rfl (any_of HT_.out (by kernel_rfl)) (fun _ _ _ h=>h) (Or.inr ⟨by rfl,rfl⟩) ?_ ?_
           rotate_left
           ·simp only [Act.put,lA_,lZ_,lS_,i64_w,i32_w]
            rfl
           refine pure_ (i:=29) (N:=some 88) (v:=undef) (a':=?_) bA30_ rfl rfl (any_of HT_.out (by kernel_rfl)) (fun _ _ _ h=>h) (Or.inr ⟨by rfl,rfl⟩) ?_ ?_
           rotate_left
           ·simp only [Act.put,lA_,lZ_,lS_,i64_w,i32_w]
            rfl
           refine pure_ (i:=30) (N:=some 89) (v:=undef) (a':=?_) bA31_ rfl rfl (any_of HT_.out (by kernel_rfl)) (fun _ _ _ h=>h) (Or.inr ⟨by rfl,rfl⟩) ?_ ?_
           rotate_left
           ·simp only [Act.put,lA_,lZ_,lS_,i64_w,i32_w]
            rfl
           refine pure_ (i:=31) (N:=some 90) (v:=?_) (a':=?_) bA32_ rfl rfl (any_of HT_.out (by kernel_rfl)) (fun _ _ _ h=>h) (Or.inl ⟨by rfl,?_⟩) ?_ ?_
           rotate_left
           ·intro w'
            go_simp
            with_reducible rfl
           rotate_left
           ·simp only [Act.put,lA_,lZ_,lS_,i64_w,i32_w]
            rfl
           refine pure_ (i:=32) (N:=some 91) (v:=?_) (a':=?_) bA33_ rfl rfl (any_of HT_.out (by kernel_rfl)) (fun _ _ _ h=>h) (Or.inl ⟨by rfl,?_⟩) ?_ ?_
           rotate_left
           ·intro w'
            go_simp
            with_reducible rfl
           rotate_left
           ·simp only [Act.put,lA_,lZ_,lS_,i64_w,i32_w]
            rfl
           refine pure_ (i:=33) (N:=some 92) (v:=undef) (a':=?_) bA34_ rfl rfl (any_of HT_.out (by kernel_rfl)) (fun _ _ _ h=>h) (Or.inr ⟨by rfl,rfl⟩) ?_ ?_
           rotate_left
           ·simp only [Act.put,lA_,lZ_,lS_,i64_w,i32_w]
            rfl
           refine pure_ (i:=34) (N:=some 93) (v:=undef) (a':=?_) bA35_ rfl rfl (any_of HT_.out (by kernel_rfl)) (fun _ _ _ h=>h) (Or.inr ⟨by rfl,rfl⟩) ?_ ?_
           rotate_left
           ·simp only [Act.put,lA_,lZ_,lS_,i64_w,i32_w]
            rfl
           refine pure_ (i:=35) (N:=some 94) (v:=undef) (a':=?_) bA36_ rfl rfl (any_of HT_.out (by kernel_rfl)) (fun _ _ _ h=>h) (Or.inr ⟨by rfl,rfl⟩) ?_ ?_
           rotate_left
           ·simp only [Act.put,lA_,lZ_,lS_,i64_w,i32_w]
            rfl
           refine pure_ (i:=36) (N:=some 95) (v:=undef) (a':=?_) bA37_ rfl rfl (any_of HT_.out (by kernel_rfl)) (fun _ _ _ h=>h) (Or.inr ⟨by rfl,rfl⟩) ?_ ?_
           rotate_left
           ·simp only [Act.put,lA_,lZ_,lS_,i64_w,i32_w]
            rfl
           refine pure_ (i:=37) (N:=some 96) (v:=undef) (a':=?_) bA38_ rfl rfl (any_of HT_.out (by kernel_rfl)) (fun _ _ _ h=>h) (Or.inr ⟨by rfl,rfl⟩) ?_ ?_
           rotate_left
           ·simp only [Act.put,lA_,lZ_,lS_,i64_w,i32_w]
            rfl
           refine pure_ (i:=38) (N:=some 97) (v:=undef) (a':=?_) bA39_ rfl rfl (any_of HT_.out (by kernel_rfl)) (fun _ _ _ h=>h) (Or.inr ⟨by rfl,rfl⟩) ?_ ?_
           rotate_left
           ·simp only [Act.put,lA_,lZ_,lS_,i64_w,i32_w]
            rfl
           refine pure_ (i:=39) (N:=some 98) (v:=undef) (a':=?_) bA40_ rfl rfl (any_of HT_.out (by kernel_rfl)) (fun _ _ _ h=>h) (Or.inr ⟨by rfl,rfl⟩) ?_ ?_
           rotate_left
           ·simp only [Act.put,lA_,lZ_,lS_,i64_w,i32_w]
            rfl
           refine pure_ (i:=40) (N:=some 99) (v:=undef) (a':=?_) bA41_ rfl rfl (any_of HT_.out (by kernel_rfl)) (fun _ _ _ h=>h) (Or.inr ⟨by rfl,rfl⟩) ?_ ?_
           rotate_left
           ·simp only [Act.put,lA_,lZ_,lS_,i64_w,i32_w]
            rfl
           refine pure_ (i:=41) (N:=some 100) (v:=undef) (a':=?_) bA42_ rfl rfl (any_of HT_.out (by kernel_rfl)) (fun _ _ _ h=>h) (Or.inr ⟨by rfl,rfl⟩) ?_ ?_
           rotate_left
           ·simp only [Act.put,lA_,lZ_,lS_,i64_w,i32_w]
            rfl
           refine pure_ (i:=42) (N:=some 101) (v:=undef) (a':=?_) bA43_ rfl rfl (any_of HT_.out (by kernel_rfl)) (fun _ _ _ h=>h) (Or.inr ⟨by rfl,rfl⟩) ?_ ?_
           rotate_left
           ·simp only [Act.put,lA_,lZ_,lS_,i64_w,i32_w]
            rfl
           refine pure_ (i:=43) (N:=some 102) (v:=undef) (a':=?_) bA44_ rfl rfl (any_of HT_.out (by kernel_rfl)) (fun _ _ _ h=>h) (Or.inr ⟨by rfl,rfl⟩) ?_ ?_
           rotate_left
           ·simp only [Act.put,lA_,lZ_,lS_,i64_w,i32_w]
            rfl
           refine pure_ (i:=44) (N:=some 103) (v:=undef) (a':=?_) bA45_ rfl rfl (any_of HT_.out (by kernel_rfl)) (fun _ _ _ h=>h) (Or.inr ⟨by rfl,rfl⟩) ?_ ?_
           rotate_left
           ·simp only [Act.put,lA_,lZ_,lS_,i64_w,i32_w]
            rfl
           refine pure_ (i:=45) (N:=some 104) (v:=undef) (a':=?_) bA46_ rfl rfl (any_of HT_.out (by kernel_rfl)) (fun _ _ _ h=>h) (Or.inr ⟨by rfl,rfl⟩) ?_ ?_
           rotate_left
           ·simp only [Act.put,lA_,lZ_,lS_,i64_w,i32_w]
            rfl
           refine pure_ (i:=46) (N:=some 105) (v:=undef) (a':=?_) bA47_ rfl rfl (any_of HT_.out (by kernel_rfl)) (fun _ _ _ h=>h) (Or.inr ⟨by rfl,rfl⟩) ?_ ?_
           rotate_left
           ·simp only [Act.put,lA_,lZ_,lS_,i64_w,i32_w]
            rfl
           refine pure_ (i:=47) (N:=some 106) (v:=undef) (a':=?_) bA48_ rfl rfl (any_of HT_.out (by kernel_rfl)) (fun _ _ _ h=>h) (Or.inr ⟨by rfl,rfl⟩) ?_ ?_
           rotate_left
           ·simp only [Act.put,lA_,lZ_,lS_,i64_w,i32_w]
            rfl
           refine pure_ (i:=48) (N:=some 107) (v:=?_) (a':=?_) bA49_ rfl rfl (any_of HT_.out (by kernel_rfl)) (fun _ _ _ h=>h) (Or.inl ⟨by rfl,?_⟩) ?_ ?_
           rotate_left
           ·intro w'
            go_simp
            with_reducible rfl
           rotate_left
           ·simp only [Act.put,lA_,lZ_,lS_,i64_w,i32_w]
            rfl
           refine pure_ (i:=49) (N:=some 108) (v:=?_) (a':=?_) bA50_ rfl rfl (any_of HT_.out (by kernel_rfl)) (fun _ _ _ h=>h) (Or.inl ⟨by rfl,?_⟩) ?_ ?_
           rotate_left
           ·intro w'
            go_simp
            with_reducible rfl
           rotate_left
           ·simp only [Act.put,lA_,lZ_,lS_,i64_w,i32_w]
            rfl
           refine pure_ (i:=50) (N:=some 109) (v:=undef) (a':=?_) bA51_ rfl rfl (any_of HT_.out (by kernel_rfl)) (fun _ _ _ h=>h) (Or.inr ⟨by rfl,rfl⟩) ?_ ?_
           rotate_left
           ·simp only [Act.put,lA_,lZ_,lS_,i64_w,i32_w]
            rfl
           refine pure_ (i:=51) (N:=some 110) (v:=undef) (a':=?_) bA52_ rfl rfl (any_of HT_.out (by kernel_rfl)) (fun _ _ _ h=>h) (Or.inr ⟨by rfl,rfl⟩) ?_ ?_
           rotate_left
           ·simp only [Act.put,lA_,lZ_,lS_,i64_w,i32_w]
            rfl
           refine pure_ (i:=52) (N:=some 111) (v:=undef) (a':=?_) bA53_ rfl rfl (any_of HT_.out (by kernel_rfl)) (fun _ _ _ h=>h) (Or.inr ⟨by rfl,rfl⟩) ?_ ?_
           rotate_left
           ·simp only [Act.put,lA_,lZ_,lS_,i64_w,i32_w]
            rfl
           refine pure_ (i:=53) (N:=some 112) (v:=undef) (a':=?_) bA54_ rfl rfl (any_of HT_.out (by kernel_rfl)) (fun _ _ _ h=>h) (Or.inr ⟨by rfl,rfl⟩) ?_ ?_
           rotate_left
           ·simp only [Act.put,lA_,lZ_,lS_,i64_w,i32_w]
            rfl
           refine pure_ (i:=54) (N:=some 113) (v:=undef) (a':=?_) bA55_ rfl rfl (any_of HT_.out (by kernel_rfl)) (fun _ _ _ h=>h) (Or.inr ⟨by rfl,rfl⟩) ?_ ?_
           rotate_left
           ·simp only [Act.put,lA_,lZ_,lS_,i64_w,i32_w]
            rfl
           refine pure_ (i:=55) (N:=some 114) (v:=undef) (a':=?_) bA56_ rfl rfl (any_of HT_.out (by kernel_rfl)) (fun _ _ _ h=>h) (Or.inr ⟨by rfl,rfl⟩) ?_ ?_
           rotate_left
           ·simp only [Act.put,lA_,lZ_,lS_,i64_w,i32_w]
            rfl
           refine pure_ (i:=56) (N:=some 115) (v:=undef) (a':=?_) bA57_ rfl rfl (any_of HT_.out (by kernel_rfl)) (fun _ _ _ h=>h) (Or.inr ⟨by rfl,rfl⟩) ?_ ?_
           rotate_left
           ·simp only [Act.put,lA_,lZ_,lS_,i64_w,i32_w]
            rfl
           refine pure_ (i:=57) (N:=some 116) (v:=undef) (a':=?_) bA58_ rfl rfl (any_of HT_.out (by kernel_rfl)) (fun _ _ _ h=>h) (Or.inr ⟨by rfl,rfl⟩) ?_ ?_
           rotate_left
           ·simp only [Act.put,lA_,lZ_,lS_,i64_w,i32_w]
            rfl
           refine pure_ (i:=58) (N:=some 117) (v:=undef) (a':=?_) bA59_ rfl rfl (any_of HT_.out (by kernel_rfl)) (fun _ _ _ h=>h) (Or.inr ⟨by rfl,rfl⟩) ?_ ?_
           rotate_left
           ·simp only [Act.put,lA_,lZ_,lS_,i64_w,i32_w]
            rfl
           refine pure_ (i:=59) (N:=some 118) (v:=undef) (a':=?_) bA60_ rfl rfl (any_of HT_.out (by kernel_rfl)) (fun _ _ _ h=>h) (Or.inr ⟨by rfl,rfl⟩) ?_ ?_
           rotate_left
           ·simp only [Act.put,lA_,lZ_,lS_,i64_w,i32_w]
            rfl
           refine pure_ (i:=60) (N:=some 119) (v:=undef) (a':=?_) bA61_ rfl rfl (any_of HT_.out (by kernel_rfl)) (fun _ _ _ h=>h) (Or.inr ⟨by rfl,rfl⟩) ?_ ?_
           rotate_left
           ·simp only [Act.put,lA_,lZ_,lS_,i64_w,i32_w]
            rfl
           refine pure_ (i:=61) (N:=some 120) (v:=undef) (a':=?_) bA62_ rfl rfl (any_of HT_.out (by kernel_rfl)) (fun _ _ _ h=>h) (Or.inr ⟨by rfl,rfl⟩) ?_ ?_
           rotate_left
           ·simp only [Act.put,lA_,lZ_,lS_,i64_w,i32_w]
            rfl
           refine pure_ (i:=62) (N:=some 121) (v:=undef) (a':=?_) bA63_ rfl rfl (any_of HT_.out (by kernel_rfl)) (fun _ _ _ h=>h) (Or.inr ⟨by rfl,rfl⟩) ?_ ?_
           rotate_left
           ·simp only [Act.put,lA_,lZ_,lS_,i64_w,i32_w]
            rfl
           refine pure_ (i:=63) (N:=some 122) (v:=undef) (a':=?_) bA64_ rfl rfl (any_of HT_.out (by kernel_rfl)) (fun _ _ _ h=>h) (Or.inr ⟨by rfl,rfl⟩) ?_ ?_
           rotate_left
           ·simp only [Act.put,lA_,lZ_,lS_,i64_w,i32_w]
            rfl
           refine pure_ (i:=64) (N:=some 123) (v:=undef) (a':=?_) bA65_ rfl rfl (any_of HT_.out (by kernel_rfl)) (fun _ _ _ h=>h) (Or.inr ⟨by rfl,rfl⟩) ?_ ?_
           rotate_left
           ·simp only [Act.put,lA_,lZ_,lS_,i64_w,i32_w]
            rfl
           refine pure_ (i:=65) (N:=some 124) (v:=undef) (a':=?_) bA66_ rfl rfl (any_of HT_.out (by kernel_rfl)) (fun _ _ _ h=>h) (Or.inr ⟨by rfl,rfl⟩) ?_ ?_
           rotate_left
           ·simp only [Act.put,lA_,lZ_,lS_,i64_w,i32_w]
            rfl
           refine pure_ (i:=66) (N:=some 125) (v:=undef) (a':=?_) bA67_ rfl rfl (any_of HT_.out (by kernel_rfl)) (fun _ _ _ h=>h) (Or.inr ⟨by rfl,rfl⟩) ?_ ?_
           rotate_left
           ·simp only [Act.put,lA_,lZ_,lS_,i64_w,i32_w]
            rfl
           refine pure_ (i:=67) (N:=some 126) (v:=undef) (a':=?_) bA68_ rfl rfl (any_of HT_.out (by kernel_rfl)) (fun _ _ _ h=>h) (Or.inr ⟨by rfl,rfl⟩) ?_ ?_
           rotate_left
           ·simp only [Act.put,lA_,lZ_,lS_,i64_w,i32_w]
            rfl
           refine pure_ (i:=68) (N:=some 127) (v:=undef) (a':=?_) bA69_ rfl rfl (any_of HT_.out (by kernel_rfl)) (fun _ _ _ h=>h) (Or.inr ⟨by rfl,rfl⟩) ?_ ?_
           rotate_left
           ·simp only [Act.put,lA_,lZ_,lS_,i64_w,i32_w]
            rfl
           refine pure_ (i:=69) (N:=some 128) (v:=undef) (a':=?_) bA70_ rfl rfl (any_of HT_.out (by kernel_rfl)) (fun _ _ _ h=>h) (Or.inr ⟨by rfl,rfl⟩) ?_ ?_
           rotate_left
           ·simp only [Act.put,lA_,lZ_,lS_,i64_w,i32_w]
            rfl
           refine pure_ (i:=70) (N:=some 129) (v:=?_) (a':=?_) bA71_ rfl rfl (any_of HT_.out (by kernel_rfl)) (fun _ _ _ h=>h) (Or.inl ⟨by rfl,?_⟩) ?_ ?_
           rotate_left
           ·intro w'
            go_simp
            with_reducible rfl
           rotate_left
           ·simp only [Act.put,lA_,lZ_,lS_,i64_w,i32_w]
            rfl
           refine done_ (done_of HT_.out (by kernel_rfl)) ?_
           try go_wp2
           go_meet
           case rel=>exact ⟨_,(true),(by first|rfl|(simp;done)|(simp [*];done)),H',⟨by have:=HJ16.out;have:=HK2.out;first|omega|exact Nat.le_refl _⟩,⟨by (with_reducible repeat (first|apply Kd.V_alloc|apply Kd.V_drewN|apply Kd.V_drew));exact HO_0.out⟩,⟨by (with_reducible repeat (first|apply Kd.R_alloc|apply Kd.R_drewN|apply Kd.R_drew));exact HO_3.out⟩,⟨by (with_reducible repeat (first|apply Kd.R_alloc|apply Kd.R_drewN|apply Kd.R_drew));exact HO_5.out⟩,⟨by repeat (first|(with_reducible first|exact HB.out|apply below_alloc|apply pw_below_drewN|apply below_drew1)|exact HB.out)⟩⟩
          ·rw [if_neg c36] at H
           have c36b0 : decide ((rd t138 x7_2) < 0) = false:=decide_eq_false c36
           clear c36
           by_cases c38 : (rd t138 x7_2) ≥ (l0.length : Int)
           ·rw [if_pos c38] at H
            have c38b0 : decide ((l0.length : Int) ≤ (rd t138 x7_2)) = true:=decide_eq_true c38
            clear c38
            have H':=Aside0.mk H
            clear H
            try go_wp2
            have n0_:=Aside0.mk (Kd.V_drew HO_0.out)
            have n1_:=Aside0.mk (Kd.R_drew HO_3.out)
            have n2_:=Aside0.mk (Kd.R_drew HO_5.out)
            have n3_:=Aside0.mk (below_drew1 HB.out)
            clear HO_0
            clear HO_3
            clear HO_5
            clear HB
            have HO_0:=n0_
            have HO_3:=n1_
            have HO_5:=n2_
            have HB:=n3_
            clear n0_ n1_ n2_ n3_
            have p150 : 0 ≤ (x7_2 : Int):=of_decide_eq_true (by first|(with_reducible assumption)|assumption)
            have q150 : x7_2 < (t138.length : Int):=of_decide_eq_true (by first|(with_reducible assumption)|assumption)
            obtain ⟨ad150,e150,hx150_0⟩:=Kd.at_int (Kd.R_reads' HO_3.out).2.2 x7_2 p150 q150
            cases e150
            replace p150:=eq_true p150
            replace q150:=eq_true q150
            have p151 : 0 ≤ (x7_2 : Int):=of_decide_eq_true (by first|(with_reducible assumption)|assumption)
            have q151 : x7_2 < (t138.length : Int):=of_decide_eq_true (by first|(with_reducible assumption)|assumption)
            obtain ⟨ad151,e151,hx151_0⟩:=Kd.at_int (Kd.R_reads' HO_3.out).2.2 x7_2 p151 q151
            obtain rfl : ad150 = ad151:=(by injection e151)
            replace p151:=eq_true p151
            replace q151:=eq_true q151
            refine start_ (n:=71) (S:=fun w'=>w'.cell? (ad150.add (x7_2).toNat) = some (.int .i64 (rd t138 x7_2)) ∧ w'.cell? (ad150.add (x7_2).toNat) = some (.int .i64 (rd t138 x7_2))) (ds:=[]) bA0_ (by kernel_rfl) rfl rfl ⟨hx150_0,hx151_0⟩ (fun hHeld=>?_);refine with_tabW coppicerkeep_EndsRise.tab10 coppicerkeep_EndsRise.bits10 (fun HT_ HW_=>?_)
            generalize wr.drew = w39 at HO_0 HO_3 HO_5 HB hx150_0 hx151_0 hHeld ⊢
            refine pure_ (i:=0) (N:=some 59) (v:=?_) (a':=?_) bA1_ rfl rfl (any_of HT_.out (by kernel_rfl)) (fun _ _ _ h=>h) (Or.inl ⟨by rfl,?_⟩) ?_ ?_
            rotate_left
            ·intro w'
             go_simp
             with_reducible rfl
            rotate_left
            ·simp only [Act.put,lA_,lZ_,lS_,i64_w,i32_w]
             rfl
            refine pure_ (i:=1) (N:=some 60) (v:=?_) (a':=?_) bA2_ rfl rfl (any_of HT_.out (by kernel_rfl)) (fun _ _ _ h=>h) (Or.inl ⟨by rfl,?_⟩) ?_ ?_
            rotate_left
            ·intro w'
             go_simp
             with_reducible rfl
            rotate_left
            ·simp only [Act.put,lA_,lZ_,lS_,i64_w,i32_w]
             rfl
            refine pure_ (i:=2) (N:=some 61) (v:=?_) (a':=?_) bA3_ rfl rfl (any_of HT_.out (by kernel_rfl)) (fun _ _ _ h=>h) (Or.inl ⟨by rfl,?_⟩) ?_ ?_
            rotate_left
            ·intro w'
             go_simp
             with_reducible rfl
            rotate_left
            ·simp only [Act.put,lA_,lZ_,lS_,i64_w,i32_w]
             rfl
            refine take_ (i:=3) (N:=some 62) (v:=?_) (a':=?_) bA4_ rfl rfl (take_ofW HT_.out HW_.out (by kernel_rfl)) (fun _ _ _ h=>h) (Or.inl ⟨by rfl,?_⟩) hHeld ?_ ?_
            rotate_left
            ·rintro w' ⟨s0,s1⟩
             go_simp
             with_reducible rfl
            rotate_left
            ·simp only [Act.put,lA_,lZ_,lS_,i64_w,i32_w]
             rfl
            refine pure_ (i:=4) (N:=some 63) (v:=?_) (a':=?_) bA5_ rfl rfl (any_of HT_.out (by kernel_rfl)) (fun _ _ _ h=>h) (Or.inl ⟨by rfl,?_⟩) ?_ ?_
            rotate_left
            ·intro w'
             go_simp
             with_reducible rfl
            rotate_left
            ·simp only [Act.put,lA_,lZ_,lS_,i64_w,i32_w]
             rfl
            refine pure_ (i:=5) (N:=some 64) (v:=?_) (a':=?_) bA6_ rfl rfl (any_of HT_.out (by kernel_rfl)) (fun _ _ _ h=>h) (Or.inl ⟨by rfl,?_⟩) ?_ ?_
            rotate_left
            ·intro w'
             go_simp
             with_reducible rfl
            rotate_left
            ·simp only [Act.put,lA_,lZ_,lS_,i64_w,i32_w]
             rfl
            refine pure_ (i:=6) (N:=some 65) (v:=?_) (a':=?_) bA7_ rfl rfl (any_of HT_.out (by kernel_rfl)) (fun _ _ _ h=>h) (Or.inl ⟨by rfl,?_⟩) ?_ ?_
            rotate_left
            ·intro w'
             go_simp
             with_reducible rfl
            rotate_left
            ·simp only [Act.put,lA_,lZ_,lS_,i64_w,i32_w]
             rfl
            refine pure_ (i:=7) (N:=some 66) (v:=?_) (a':=?_) bA8_ rfl rfl (any_of HT_.out (by kernel_rfl)) (fun _ _ _ h=>h) (Or.inl ⟨by rfl,?_⟩) ?_ ?_
            rotate_left
            ·intro w'
             go_simp
             with_reducible rfl
            rotate_left
            ·simp only [Act.put,lA_,lZ_,lS_,i64_w,i32_w]
             rfl
            refine pure_ (i:=8) (N:=some 67) (v:=?_) (a':=?_) bA9_ rfl rfl (any_of HT_.out (by kernel_rfl)) (fun _ _ _ h=>h) (Or.inl ⟨by rfl,?_⟩) ?_ ?_
            rotate_left
            ·intro w'
             go_simp
             with_reducible rfl
            rotate_left
            ·simp only [Act.put,lA_,lZ_,lS_,i64_w,i32_w]
             rfl
            refine pure_ (i:=10) (N:=some 69) (v:=?_) (a':=?_) bA72_ rfl rfl (any_of HT_.out (by kernel_rfl)) (fun _ _ _ h=>h) (Or.inl ⟨by rfl,?_⟩) ?_ ?_
            rotate_left
            ·intro w'
             go_simp
             with_reducible rfl
            rotate_left
            ·simp only [Act.put,lA_,lZ_,lS_,i64_w,i32_w]
             rfl
            refine pure_ (i:=11) (N:=some 70) (v:=?_) (a':=?_) bA73_ rfl rfl (any_of HT_.out (by kernel_rfl)) (fun _ _ _ h=>h) (Or.inl ⟨by rfl,?_⟩) ?_ ?_
            rotate_left
            ·intro w'
             go_simp
             with_reducible rfl
            rotate_left
            ·simp only [Act.put,lA_,lZ_,lS_,i64_w,i32_w]
             rfl
            refine take_ (i:=9) (N:=some 68) (v:=?_) (a':=?_) bA12_ rfl rfl (take_ofW HT_.out HW_.out (by kernel_rfl)) (fun _ _ _ h=>h) (Or.inl ⟨by rfl,?_⟩) hHeld ?_ ?_
            rotate_left
            ·rintro w' ⟨s0,s1⟩
             go_simp
             with_reducible rfl
            rotate_left
            ·simp only [Act.put,lA_,lZ_,lS_,i64_w,i32_w]
             rfl
            refine pure_ (i:=12) (N:=some 71) (v:=?_) (a':=?_) bA13_ rfl rfl (any_of HT_.out (by kernel_rfl)) (fun _ _ _ h=>h) (Or.inl ⟨by rfl,?_⟩) ?_ ?_
            rotate_left
            ·intro w'
             go_simp
             with_reducible rfl
            rotate_left
            ·simp only [Act.put,lA_,lZ_,lS_,i64_w,i32_w]
             rfl
            refine pure_ (i:=13) (N:=some 72) (v:=?_) (a':=?_) bA14_ rfl rfl (any_of HT_.out (by kernel_rfl)) (fun _ _ _ h=>h) (Or.inl ⟨by rfl,?_⟩) ?_ ?_
            rotate_left
            ·intro w'
             go_simp
             with_reducible rfl
            rotate_left
            ·simp only [Act.put,lA_,lZ_,lS_,i64_w,i32_w]
             rfl
            refine pure_ (i:=14) (N:=some 73) (v:=?_) (a':=?_) bA15_ rfl rfl (any_of HT_.out (by kernel_rfl)) (fun _ _ _ h=>h) (Or.inl ⟨by rfl,?_⟩) ?_ ?_
            rotate_left
            ·intro w'
             go_simp
             with_reducible rfl
            rotate_left
            ·simp only [Act.put,lA_,lZ_,lS_,i64_w,i32_w]
             rfl
            refine pure_ (i:=15) (N:=some 74) (v:=undef) (a':=?_) bA16_ rfl rfl (any_of HT_.out (by kernel_rfl)) (fun _ _ _ h=>h) (Or.inr ⟨by rfl,rfl⟩) ?_ ?_
            rotate_left
            ·simp only [Act.put,lA_,lZ_,lS_,i64_w,i32_w]
             rfl
            refine pure_ (i:=16) (N:=some 75) (v:=undef) (a':=?_) bA17_ rfl rfl (any_of HT_.out (by kernel_rfl)) (fun _ _ _ h=>h) (Or.inr ⟨by rfl,rfl⟩) ?_ ?_
            rotate_left
            ·simp only [Act.put,lA_,lZ_,lS_,i64_w,i32_w]
             rfl
            refine pure_ (i:=17) (N:=some 76) (v:=undef) (a':=?_) bA18_ rfl rfl (any_of HT_.out (by kernel_rfl)) (fun _ _ _ h=>h) (Or.inr ⟨by rfl,rfl⟩) ?_ ?_
            rotate_left
            ·simp only [Act.put,lA_,lZ_,lS_,i64_w,i32_w]
             rfl
            refine pure_ (i:=18) (N:=some 77) (v:=undef) (a':=?_) bA19_ rfl rfl (any_of HT_.out (by kernel_rfl)) (fun _ _ _ h=>h) (Or.inr ⟨by rfl,rfl⟩) ?_ ?_
            rotate_left
            ·simp only [Act.put,lA_,lZ_,lS_,i64_w,i32_w]
             rfl
            refine pure_ (i:=19) (N:=some 78) (v:=undef) (a':=?_) bA20_ rfl rfl (any_of HT_.out (by kernel_rfl)) (fun _ _ _ h=>h) (Or.inr ⟨by rfl,rfl⟩) ?_ ?_
            rotate_left
            ·simp only [Act.put,lA_,lZ_,lS_,i64_w,i32_w]
             rfl
            refine pure_ (i:=20) (N:=some 79) (v:=undef) (a':=?_) bA21_ rfl rfl (any_of HT_.out (by kernel_rfl)) (fun _ _ _ h=>h) (Or.inr ⟨by rfl,rfl⟩) ?_ ?_
            rotate_left
            ·simp only [Act.put,lA_,lZ_,lS_,i64_w,i32_w]
             rfl
            refine pure_ (i:=21) (N:=some 80) (v:=?_) (a':=?_) bA22_ rfl rfl (any_of HT_.out (by kernel_rfl)) (fun _ _ _ h=>h) (Or.inl ⟨by rfl,?_⟩) ?_ ?_
            rotate_left
            ·intro w'
             go_simp
             with_reducible rfl
            rotate_left
            ·simp only [Act.put,lA_,lZ_,lS_,i64_w,i32_w]
             rfl
            refine pure_ (i:=22) (N:=some 81) (v:=?_) (a':=?_) bA23_ rfl rfl (any_of HT_.out (by kernel_rfl)) (fun _ _ _ h=>h) (Or.inl ⟨by rfl,?_⟩) ?_ ?_
            rotate_left
            ·intro w'
             go_simp
             with_reducible rfl
            rotate_left
            ·simp only [Act.put,lA_,lZ_,lS_,i64_w,i32_w]
             rfl
            refine pure_ (i:=23) (N:=some 82) (v:=undef) (a':=?_) bA24_ rfl rfl (any_of HT_.out (by kernel_rfl)) (fun _ _ _ h=>h) (Or.inr ⟨by rfl,rfl⟩) ?_ ?_
            rotate_left
            ·simp only [Act.put,lA_,lZ_,lS_,i64_w,i32_w]
             rfl
            refine pure_ (i:=24) (N:=some 83) (v:=undef) (a':=?_) bA25_ rfl rfl (any_of HT_.out (by kernel_rfl)) (fun _ _ _ h=>h) (Or.inr ⟨by rfl,rfl⟩) ?_ ?_
            rotate_left
            ·simp only [Act.put,lA_,lZ_,lS_,i64_w,i32_w]
             rfl
            refine pure_ (i:=25) (N:=some 84) (v:=undef) (a':=?_) bA26_ rfl rfl (any_of HT_.out (by kernel_rfl)) (fun _ _ _ h=>h) (Or.inr ⟨by rfl,rfl⟩) ?_ ?_
            rotate_left
            ·simp only [Act.put,lA_,lZ_,lS_,i64_w,i32_w]
             rfl
            refine pure_ (i:=26) (N:=some 85) (v:=undef) (a':=?_) bA27_ rfl rfl (any_of HT_.out (by kernel_rfl)) (fun _ _ _ h=>h) (Or.inr ⟨by rfl,rfl⟩) ?_ ?_
            rotate_left
            ·simp only [Act.put,lA_,lZ_,lS_,i64_w,i32_w]
             rfl
            refine pure_ (i:=27) (N:=some 86) (v:=undef) (a':=?_) bA28_ rfl rfl (any_of HT_.out (by kernel_rfl)) (fun _ _ _ h=>h) (Or.inr ⟨by rfl,rfl⟩) ?_ ?_
            rotate_left
            ·simp only [Act.put,lA_,lZ_,lS_,i64_w,i32_w]
             rfl
            refine pure_ (i:=28) (N:=some 87) (v:=undef) (a':=?_) bA29_ rfl rfl (any_of HT_.out (by kernel_rfl)) (fun _ _ _ h=>h) (Or.inr ⟨by rfl,rfl⟩) ?_ ?_
            rotate_left
            ·simp only [Act.put,lA_,lZ_,lS_,i64_w,i32_w]
             rfl
            refine pure_ (i:=29) (N:=some 88) (v:=undef) (a':=?_) bA30_ rfl rfl (any_of HT_.out (by kernel_rfl)) (fun _ _ _ h=>h) (Or.inr ⟨by rfl,rfl⟩) ?_ ?_
            rotate_left
            ·simp only [Act.put,lA_,lZ_,lS_,i64_w,i32_w]
             rfl
            refine pure_ (i:=30) (N:=some 89) (v:=undef) (a':=?_) bA31_ rfl rfl (any_of HT_.out (by kernel_rfl)) (fun _ _ _ h=>h) (Or.inr ⟨by rfl,rfl⟩) ?_ ?_
            rotate_left
            ·simp only [Act.put,lA_,lZ_,lS_,i64_w,i32_w]
             rfl
            refine pure_ (i:=31) (N:=some 90) (v:=?_) (a':=?_) bA32_ rfl rfl (any_of HT_.out (by kernel_rfl)) (fun _ _ _ h=>h) (Or.inl ⟨by rfl,?_⟩) ?_ ?_
            rotate_left
            ·intro w'
             go_simp
             with_reducible rfl
            rotate_left
            ·simp only [Act.put,lA_,lZ_,lS_,i64_w,i32_w]
             rfl
            refine pure_ (i:=32) (N:=some 91) (v:=?_) (a':=?_) bA33_ rfl rfl (any_of HT_.out (by kernel_rfl)) (fun _ _ _ h=>h) (Or.inl ⟨by rfl,?_⟩) ?_ ?_
            rotate_left
            ·intro w'
             go_simp
             with_reducible rfl
            rotate_left
            ·simp only [Act.put,lA_,lZ_,lS_,i64_w,i32_w]
             rfl
            refine pure_ (i:=33) (N:=some 92) (v:=undef) (a':=?_) bA34_ rfl rfl (any_of HT_.out (by kernel_rfl)) (fun _ _ _ h=>h) (Or.inr ⟨by rfl,rfl⟩) ?_ ?_
            rotate_left
            ·simp only [Act.put,lA_,lZ_,lS_,i64_w,i32_w]
             rfl
            refine pure_ (i:=34) (N:=some 93) (v:=undef) (a':=?_) bA35_ rfl rfl (any_of HT_.out (by kernel_rfl)) (fun _ _ _ h=>h) (Or.inr ⟨by rfl,rfl⟩) ?_ ?_
            rotate_left
            ·simp only [Act.put,lA_,lZ_,lS_,i64_w,i32_w]
             rfl
            refine pure_ (i:=35) (N:=some 94) (v:=undef) (a':=?_) bA36_ rfl rfl (any_of HT_.out (by kernel_rfl)) (fun _ _ _ h=>h) (Or.inr ⟨by rfl,rfl⟩) ?_ ?_
            rotate_left
            ·simp only [Act.put,lA_,lZ_,lS_,i64_w,i32_w]
             rfl
            refine pure_ (i:=36) (N:=some 95) (v:=undef) (a':=?_) bA37_ rfl rfl (any_of HT_.out (by kernel_rfl)) (fun _ _ _ h=>h) (Or.inr ⟨by rfl,rfl⟩) ?_ ?_
            rotate_left
            ·simp only [Act.put,lA_,lZ_,lS_,i64_w,i32_w]
             rfl
            refine pure_ (i:=37) (N:=some 96) (v:=undef) (a':=?_) bA38_ rfl rfl (any_of HT_.out (by kernel_rfl)) (fun _ _ _ h=>h) (Or.inr ⟨by rfl,rfl⟩) ?_ ?_
            rotate_left
            ·simp only [Act.put,lA_,lZ_,lS_,i64_w,i32_w]
             rfl
            refine pure_ (i:=38) (N:=some 97) (v:=undef) (a':=?_) bA39_ rfl rfl (any_of HT_.out (by kernel_rfl)) (fun _ _ _ h=>h) (Or.inr ⟨by rfl,rfl⟩) ?_ ?_
            rotate_left
            ·simp only [Act.put,lA_,lZ_,lS_,i64_w,i32_w]
             rfl
            refine pure_ (i:=39) (N:=some 98) (v:=undef) (a':=?_) bA40_ rfl rfl (any_of HT_.out (by kernel_rfl)) (fun _ _ _ h=>h) (Or.inr ⟨by rfl,rfl⟩) ?_ ?_
            rotate_left
            ·simp only [Act.put,lA_,lZ_,lS_,i64_w,i32_w]
             rfl
            refine pure_ (i:=40) (N:=some 99) (v:=undef) (a':=?_) bA41_ rfl rfl (any_of HT_.out (by kernel_rfl)) (fun _ _ _ h=>h) (Or.inr ⟨by rfl,rfl⟩) ?_ ?_
            rotate_left
            ·simp only [Act.put,lA_,lZ_,lS_,i64_w,i32_w]
             rfl
            refine pure_ (i:=41) (N:=some 100) (v:=undef) (a':=?_) bA42_ rfl rfl (any_of HT_.out (by kernel_rfl)) (fun _ _ _ h=>h) (Or.inr ⟨by rfl,rfl⟩) ?_ ?_
            rotate_left
            ·simp only [Act.put,lA_,lZ_,lS_,i64_w,i32_w]
             rfl
            refine pure_ (i:=42) (N:=some 101) (v:=undef) (a':=?_) bA43_ rfl rfl (any_of HT_.out (by kernel_rfl)) (fun _ _ _ h=>h) (Or.inr ⟨by rfl,rfl⟩) ?_ ?_
            rotate_left
            ·simp only [Act.put,lA_,lZ_,lS_,i64_w,i32_w]
             rfl
            refine pure_ (i:=43) (N:=some 102) (v:=undef) (a':=?_) bA44_ rfl rfl (any_of HT_.out (by kernel_rfl)) (fun _ _ _ h=>h) (Or.inr ⟨by rfl,rfl⟩) ?_ ?_
            rotate_left
            ·simp only [Act.put,lA_,lZ_,lS_,i64_w,i32_w]
             rfl
            refine pure_ (i:=44) (N:=some 103) (v:=undef) (a':=?_) bA45_ rfl rfl (any_of HT_.out (by kernel_rfl)) (fun _ _ _ h=>h) (Or.inr ⟨by rfl,rfl⟩) ?_ ?_
            rotate_left
            ·simp only [Act.put,lA_,lZ_,lS_,i64_w,i32_w]
             rfl
            refine pure_ (i:=45) (N:=some 104) (v:=undef) (a':=?_) bA46_ rfl rfl (any_of HT_.out (by kernel_rfl)) (fun _ _ _ h=>h) (Or.inr ⟨by rfl,rfl⟩) ?_ ?_
            rotate_left
            ·simp only [Act.put,lA_,lZ_,lS_,i64_w,i32_w]
             rfl
            refine pure_ (i:=46) (N:=some 105) (v:=undef) (a':=?_) bA47_ rfl rfl (any_of HT_.out (by kernel_rfl)) (fun _ _ _ h=>h) (Or.inr ⟨by rfl,rfl⟩) ?_ ?_
            rotate_left
            ·simp only [Act.put,lA_,lZ_,lS_,i64_w,i32_w]
             rfl
            refine pure_ (i:=47) (N:=some 106) (v:=undef) (a':=?_) bA48_ rfl rfl (any_of HT_.out (by kernel_rfl)) (fun _ _ _ h=>h) (Or.inr ⟨by rfl,rfl⟩) ?_ ?_
            rotate_left
            ·simp only [Act.put,lA_,lZ_,lS_,i64_w,i32_w]
             rfl
            refine pure_ (i:=48) (N:=some 107) (v:=?_) (a':=?_) bA49_ rfl rfl (any_of HT_.out (by kernel_rfl)) (fun _ _ _ h=>h) (Or.inl ⟨by rfl,?_⟩) ?_ ?_
            rotate_left
            ·intro w'
             go_simp
             with_reducible rfl
            rotate_left
            ·simp only [Act.put,lA_,lZ_,lS_,i64_w,i32_w]
             rfl
            refine pure_ (i:=49) (N:=some 108) (v:=?_) (a':=?_) bA50_ rfl rfl (any_of HT_.out (by kernel_rfl)) (fun _ _ _ h=>h) (Or.inl ⟨by rfl,?_⟩) ?_ ?_
            rotate_left
            ·intro w'
             go_simp
             with_reducible rfl
            rotate_left
            ·simp only [Act.put,lA_,lZ_,lS_,i64_w,i32_w]
             rfl
            refine pure_ (i:=50) (N:=some 109) (v:=undef) (a':=?_) bA51_ rfl rfl (any_of HT_.out (by kernel_rfl)) (fun _ _ _ h=>h) (Or.inr ⟨by rfl,rfl⟩) ?_ ?_
            rotate_left
            ·simp only [Act.put,lA_,lZ_,lS_,i64_w,i32_w]
             rfl
            refine pure_ (i:=51) (N:=some 110) (v:=undef) (a':=?_) bA52_ rfl rfl (any_of HT_.out (by kernel_rfl)) (fun _ _ _ h=>h) (Or.inr ⟨by rfl,rfl⟩) ?_ ?_
            rotate_left
            ·simp only [Act.put,lA_,lZ_,lS_,i64_w,i32_w]
             rfl
            refine pure_ (i:=52) (N:=some 111) (v:=undef) (a':=?_) bA53_ rfl rfl (any_of HT_.out (by kernel_rfl)) (fun _ _ _ h=>h) (Or.inr ⟨by rfl,rfl⟩) ?_ ?_
            rotate_left
            ·simp only [Act.put,lA_,lZ_,lS_,i64_w,i32_w]
             rfl
            refine pure_ (i:=53) (N:=some 112) (v:=undef) (a':=?_) bA54_ rfl rfl (any_of HT_.out (by kernel_rfl)) (fun _ _ _ h=>h) (Or.inr ⟨by rfl,rfl⟩) ?_ ?_
            rotate_left
            ·simp only [Act.put,lA_,lZ_,lS_,i64_w,i32_w]
             rfl
            refine pure_ (i:=54) (N:=some 113) (v:=undef) (a':=?_) bA55_ rfl rfl (any_of HT_.out (by kernel_rfl)) (fun _ _ _ h=>h) (Or.inr ⟨by rfl,rfl⟩) ?_ ?_
            rotate_left
            ·simp only [Act.put,lA_,lZ_,lS_,i64_w,i32_w]
             rfl
            refine pure_ (i:=55) (N:=some 114) (v:=undef) (a':=?_) bA56_ rfl rfl (any_of HT_.out (by kernel_rfl)) (fun _ _ _ h=>h) (Or.inr ⟨by rfl,rfl⟩) ?_ ?_
            rotate_left
            ·simp only [Act.put,lA_,lZ_,lS_,i64_w,i32_w]
             rfl
            refine pure_ (i:=56) (N:=some 115) (v:=undef) (a':=?_) bA57_ rfl rfl (any_of HT_.out (by kernel_rfl)) (fun _ _ _ h=>h) (Or.inr ⟨by rfl,rfl⟩) ?_ ?_
            rotate_left
            ·simp only [Act.put,lA_,lZ_,lS_,i64_w,i32_w]
             rfl
            refine pure_ (i:=57) (N:=some 116) (v:=undef) (a':=?_) bA58_ rfl rfl (any_of HT_.out (by kernel_rfl)) (fun _ _ _ h=>h) (Or.inr ⟨by rfl,rfl⟩) ?_ ?_
            rotate_left
            ·simp only [Act.put,lA_,lZ_,lS_,i64_w,i32_w]
             rfl
            refine pure_ (i:=58) (N:=some 117) (v:=undef) (a':=?_) bA59_ rfl rfl (any_of HT_.out (by kernel_rfl)) (fun _ _ _ h=>h) (Or.inr ⟨by rfl,rfl⟩) ?_ ?_
            rotate_left
            ·simp only [Act.put,lA_,lZ_,lS_,i64_w,i32_w]
             rfl
            refine pure_ (i:=59) (N:=some 118) (v:=undef) (a':=?_) bA60_ rfl rfl (any_of HT_.out (by kernel_rfl)) (fun _ _ _ h=>h) (Or.inr ⟨by rfl,rfl⟩) ?_ ?_
            rotate_left
            ·simp only [Act.put,lA_,lZ_,lS_,i64_w,i32_w]
             rfl
            refine pure_ (i:=60) (N:=some 119) (v:=undef) (a':=?_) bA61_ rfl rfl (any_of HT_.out (by kernel_rfl)) (fun _ _ _ h=>h) (Or.inr ⟨by rfl,rfl⟩) ?_ ?_
            rotate_left
            ·simp only [Act.put,lA_,lZ_,lS_,i64_w,i32_w]
             rfl
            refine pure_ (i:=61) (N:=some 120) (v:=undef) (a':=?_) bA62_ rfl rfl (any_of HT_.out (by kernel_rfl)) (fun _ _ _ h=>h) (Or.inr ⟨by rfl,rfl⟩) ?_ ?_
            rotate_left
            ·simp only [Act.put,lA_,lZ_,lS_,i64_w,i32_w]
             rfl
            refine pure_ (i:=62) (N:=some 121) (v:=undef) (a':=?_) bA63_ rfl rfl (any_of HT_.out (by kernel_rfl)) (fun _ _ _ h=>h) (Or.inr ⟨by rfl,rfl⟩) ?_ ?_
            rotate_left
            ·simp only [Act.put,lA_,lZ_,lS_,i64_w,i32_w]
             rfl
            refine pure_ (i:=63) (N:=some 122) (v:=undef) (a':=?_) bA64_ rfl rfl (any_of HT_.out (by kernel_rfl)) (fun _ _ _ h=>h) (Or.inr ⟨by rfl,rfl⟩) ?_ ?_
            rotate_left
            ·simp only [Act.put,lA_,lZ_,lS_,i64_w,i32_w]
             rfl
            refine pure_ (i:=64) (N:=some 123) (v:=undef) (a':=?_) bA65_ rfl rfl (any_of HT_.out (by kernel_rfl)) (fun _ _ _ h=>h) (Or.inr ⟨by rfl,rfl⟩) ?_ ?_
            rotate_left
            ·simp only [Act.put,lA_,lZ_,lS_,i64_w,i32_w]
             rfl
            refine pure_ (i:=65) (N:=some 124) (v:=undef) (a':=?_) bA66_ rfl rfl (any_of HT_.out (by kernel_rfl)) (fun _ _ _ h=>h) (Or.inr ⟨by rfl,rfl⟩) ?_ ?_
            rotate_left
            ·simp only [Act.put,lA_,lZ_,lS_,i64_w,i32_w]
             rfl
            refine pure_ (i:=66) (N:=some 125) (v:=undef) (a':=?_) bA67_ rfl rfl (any_of HT_.out (by kernel_rfl)) (fun _ _ _ h=>h) (Or.inr ⟨by rfl,rfl⟩) ?_ ?_
            rotate_left
            ·simp only [Act.put,lA_,lZ_,lS_,i64_w,i32_w]
             rfl
            refine pure_ (i:=67) (N:=some 126) (v:=undef) (a':=?_) bA68_ rfl rfl (any_of HT_.out (by kernel_rfl)) (fun _ _ _ h=>h) (Or.inr ⟨by rfl,rfl⟩) ?_ ?_
            rotate_left
            ·simp only [Act.put,lA_,lZ_,lS_,i64_w,i32_w]
             rfl
            refine pure_ (i:=68) (N:=some 127) (v:=undef) (a':=?_) bA69_ rfl rfl (any_of HT_.out (by kernel_rfl)) (fun _ _ _ h=>h) (Or.inr ⟨by rfl,rfl⟩) ?_ ?_
            rotate_left
            ·simp only [Act.put,lA_,lZ_,lS_,i64_w,i32_w]
             rfl
            refine pure_ (i:=69) (N:=some 128) (v:=undef) (a':=?_) bA70_ rfl rfl (any_of HT_.out (by kernel_rfl)) (fun _ _ _ h=>h) (Or.inr ⟨by rfl,rfl⟩) ?_ ?_
            rotate_left
            ·simp only [Act.put,lA_,lZ_,lS_,i64_w,i32_w]
             rfl
            refine pure_ (i:=70) (N:=some 129) (v:=?_) (a':=?_) bA71_ rfl rfl (any_of HT_.out (by kernel_rfl)) (fun _ _ _ h=>h) (Or.inl ⟨by rfl,?_⟩) ?_ ?_
            rotate_left
            ·intro w'
             go_simp
             with_reducible rfl
            rotate_left
            ·simp only [Act.put,lA_,lZ_,lS_,i64_w,i32_w]
             rfl
            refine done_ (done_of HT_.out (by kernel_rfl)) ?_
            try go_wp2
            go_meet
            case rel=>exact ⟨_,(true),(by first|rfl|(simp;done)|(simp [*];done)),H',⟨by have:=HJ16.out;have:=HK2.out;first|omega|exact Nat.le_refl _⟩,⟨by (with_reducible repeat (first|apply Kd.V_alloc|apply Kd.V_drewN|apply Kd.V_drew));exact HO_0.out⟩,⟨by (with_reducible repeat (first|apply Kd.R_alloc|apply Kd.R_drewN|apply Kd.R_drew));exact HO_3.out⟩,⟨by (with_reducible repeat (first|apply Kd.R_alloc|apply Kd.R_drewN|apply Kd.R_drew));exact HO_5.out⟩,⟨by repeat (first|(with_reducible first|exact HB.out|apply below_alloc|apply pw_below_drewN|apply below_drew1)|exact HB.out)⟩⟩
           ·rw [if_neg c38] at H
            have c38b0 : decide ((l0.length : Int) ≤ (rd t138 x7_2)) = false:=decide_eq_false c38
            clear c38
            obtain ⟨ji40,hji40⟩ : ∃ j_ : Int,(wrap64 (x7_2 - 1)) = j_:=⟨_,rfl⟩
            replace H : (if 0 ≤ (ji40) then (if (ji40) < (t138.length : Int) then (if (rd t138 (ji40)) < 0 then (coppicerkeep_EndsRise.j2 k2 l0 t138 t142 x7_2 true) else (if (rd t138 (ji40)) ≥ (l0.length : Int) then (coppicerkeep_EndsRise.j2 k2 l0 t138 t142 x7_2 true) else (if 0 ≤ (rd t138 (ji40)) then (if (rd t138 (ji40)) ≤ (l0.length : Int) then (if 0 ≤ (rd t138 x7_2) then (if (rd t138 x7_2) ≤ (l0.length : Int) then ((coppicerref_Less.f k2 (l0.drop ((rd t138 (ji40)) : Int).toNat) (l0.drop ((rd t138 x7_2) : Int).toNat)).bind fun t166=>(if t166 = true then ((coppicerref_Alike.f k2 (l0.drop ((rd t138 (ji40)) : Int).toNat) (l0.drop ((rd t138 x7_2) : Int).toNat)).bind fun t179=>(if (ji40) < (t142.length : Int) then (coppicerkeep_EndsRise.j2 k2 l0 t138 t142 x7_2 (t179 != (rd t142 (ji40)))) else (none))) else (coppicerkeep_EndsRise.j2 k2 l0 t138 t142 x7_2 true))) else (none)) else (none)) else (none)) else (none)))) else (none)) else (none)) = some r:=by first|(rw [hji40] at H;exact H)|(simp only [hji40] at H ⊢;exact H)
            have hji40w : (IntKind.i64.wrap (x7_2 - 1)) = ji40:=(i64_w _).trans hji40
            by_cases c41 : 0 ≤ (ji40)
            ·rw [if_pos c41] at H
             have c41b0 : decide (0 ≤ (ji40)) = true:=decide_eq_true c41
             clear c41
             by_cases c42 : (ji40) < (t138.length : Int)
             ·rw [if_pos c42] at H
              have c42b0 : decide ((ji40) < (t138.length : Int)) = true:=decide_eq_true c42
              clear c42
              by_cases c43 : (rd t138 (ji40)) < 0
              ·rw [if_pos c43] at H
               have c43b0 : decide ((rd t138 (ji40)) < 0) = true:=decide_eq_true c43
               clear c43
               have H':=Aside0.mk H
               clear H
               try go_wp2
               have n0_:=Aside0.mk (Kd.V_drew HO_0.out)
               have n1_:=Aside0.mk (Kd.R_drew HO_3.out)
               have n2_:=Aside0.mk (Kd.R_drew HO_5.out)
               have n3_:=Aside0.mk (below_drew1 HB.out)
               clear HO_0
               clear HO_3
               clear HO_5
               clear HB
               have HO_0:=n0_
               have HO_3:=n1_
               have HO_5:=n2_
               have HB:=n3_
               clear n0_ n1_ n2_ n3_
               have p150 : 0 ≤ (x7_2 : Int):=of_decide_eq_true (by first|(with_reducible assumption)|assumption)
               have q150 : x7_2 < (t138.length : Int):=of_decide_eq_true (by first|(with_reducible assumption)|assumption)
               obtain ⟨ad150,e150,hx150_0⟩:=Kd.at_int (Kd.R_reads' HO_3.out).2.2 x7_2 p150 q150
               cases e150
               replace p150:=eq_true p150
               replace q150:=eq_true q150
               have p151 : 0 ≤ (x7_2 : Int):=of_decide_eq_true (by first|(with_reducible assumption)|assumption)
               have q151 : x7_2 < (t138.length : Int):=of_decide_eq_true (by first|(with_reducible assumption)|assumption)
               obtain ⟨ad151,e151,hx151_0⟩:=Kd.at_int (Kd.R_reads' HO_3.out).2.2 x7_2 p151 q151
               obtain rfl : ad150 = ad151:=(by injection e151)
               replace p151:=eq_true p151
               replace q151:=eq_true q151
               have p152 : 0 ≤ ((ji40) : Int):=of_decide_eq_true (by first|(with_reducible assumption)|assumption)
               have q152 : (ji40) < (t138.length : Int):=of_decide_eq_true (by first|(with_reducible assumption)|assumption)
               obtain ⟨ad152,e152,hx152_0⟩:=Kd.at_int (Kd.R_reads' HO_3.out).2.2 (ji40) p152 q152
               obtain rfl : ad150 = ad152:=(by injection e152)
               replace p152:=eq_true p152
               replace q152:=eq_true q152
               refine start_ (n:=71) (S:=fun w'=>w'.cell? (ad150.add (x7_2).toNat) = some (.int .i64 (rd t138 x7_2)) ∧ w'.cell? (ad150.add (x7_2).toNat) = some (.int .i64 (rd t138 x7_2)) ∧ w'.cell? (ad150.add ((ji40)).toNat) = some (.int .i64 (rd t138 (ji40)))) (ds:=[]) bA0_ (by kernel_rfl) rfl rfl ⟨hx150_0,hx151_0,hx152_0⟩ (fun hHeld=>?_);refine with_tabW coppicerkeep_EndsRise.tab10 coppicerkeep_EndsRise.bits10 (fun HT_ HW_=>?_)
               generalize wr.drew = w44 at HO_0 HO_3 HO_5 HB hx150_0 hx151_0 hx152_0 hHeld ⊢
               refine pure_ (i:=0) (N:=some 59) (v:=?_) (a':=?_) bA1_ rfl rfl (any_of HT_.out (by kernel_rfl)) (fun _ _ _ h=>h) (Or.inl ⟨by rfl,?_⟩) ?_ ?_
               rotate_left
               ·intro w'
                go_simp
                with_reducible rfl
               rotate_left
               ·simp only [Act.put,lA_,lZ_,lS_,i64_w,i32_w]
                rfl
               refine pure_ (i:=1) (N:=some 60) (v:=?_) (a':=?_) bA2_ rfl rfl (any_of HT_.out (by kernel_rfl)) (fun _ _ _ h=>h) (Or.inl ⟨by rfl,?_⟩) ?_ ?_
               rotate_left
               ·intro w'
                go_simp
                with_reducible rfl
               rotate_left
               ·simp only [Act.put,lA_,lZ_,lS_,i64_w,i32_w]
                rfl
               refine pure_ (i:=2) (N:=some 61) (v:=?_) (a':=?_) bA3_ rfl rfl (any_of HT_.out (by kernel_rfl)) (fun _ _ _ h=>h) (Or.inl ⟨by rfl,?_⟩) ?_ ?_
               rotate_left
               ·intro w'
                go_simp
                with_reducible rfl
               rotate_left
               ·simp only [Act.put,lA_,lZ_,lS_,i64_w,i32_w]
                rfl
               refine take_ (i:=3) (N:=some 62) (v:=?_) (a':=?_) bA4_ rfl rfl (take_ofW HT_.out HW_.out (by kernel_rfl)) (fun _ _ _ h=>h) (Or.inl ⟨by rfl,?_⟩) hHeld ?_ ?_
               rotate_left
               ·rintro w' ⟨s0,s1,s2⟩
                go_simp
                with_reducible rfl
               rotate_left
               ·simp only [Act.put,lA_,lZ_,lS_,i64_w,i32_w]
                rfl
               refine pure_ (i:=4) (N:=some 63) (v:=?_) (a':=?_) bA5_ rfl rfl (any_of HT_.out (by kernel_rfl)) (fun _ _ _ h=>h) (Or.inl ⟨by rfl,?_⟩) ?_ ?_
               rotate_left
               ·intro w'
                go_simp
                with_reducible rfl
               rotate_left
               ·simp only [Act.put,lA_,lZ_,lS_,i64_w,i32_w]
                rfl
               refine pure_ (i:=5) (N:=some 64) (v:=?_) (a':=?_) bA6_ rfl rfl (any_of HT_.out (by kernel_rfl)) (fun _ _ _ h=>h) (Or.inl ⟨by rfl,?_⟩) ?_ ?_
               rotate_left
               ·intro w'
                go_simp
                with_reducible rfl
               rotate_left
               ·simp only [Act.put,lA_,lZ_,lS_,i64_w,i32_w]
                rfl
               refine pure_ (i:=6) (N:=some 65) (v:=?_) (a':=?_) bA7_ rfl rfl (any_of HT_.out (by kernel_rfl)) (fun _ _ _ h=>h) (Or.inl ⟨by rfl,?_⟩) ?_ ?_
               rotate_left
               ·intro w'
                go_simp
                with_reducible rfl
               rotate_left
               ·simp only [Act.put,lA_,lZ_,lS_,i64_w,i32_w]
                rfl
               refine pure_ (i:=7) (N:=some 66) (v:=?_) (a':=?_) bA8_ rfl rfl (any_of HT_.out (by kernel_rfl)) (fun _ _ _ h=>h) (Or.inl ⟨by rfl,?_⟩) ?_ ?_
               rotate_left
               ·intro w'
                go_simp
                with_reducible rfl
               rotate_left
               ·simp only [Act.put,lA_,lZ_,lS_,i64_w,i32_w]
                rfl
               refine pure_ (i:=8) (N:=some 67) (v:=?_) (a':=?_) bA9_ rfl rfl (any_of HT_.out (by kernel_rfl)) (fun _ _ _ h=>h) (Or.inl ⟨by rfl,?_⟩) ?_ ?_
               rotate_left
               ·intro w'
                go_simp
                with_reducible rfl
               rotate_left
               ·simp only [Act.put,lA_,lZ_,lS_,i64_w,i32_w]
                rfl
               refine pure_ (i:=10) (N:=some 69) (v:=?_) (a':=?_) bA72_ rfl rfl (any_of HT_.out (by kernel_rfl)) (fun _ _ _ h=>h) (Or.inl ⟨by rfl,?_⟩) ?_ ?_
               rotate_left
               ·intro w'
                go_simp
                with_reducible rfl
               rotate_left
               ·simp only [Act.put,lA_,lZ_,lS_,i64_w,i32_w]
                rfl
               refine pure_ (i:=11) (N:=some 70) (v:=?_) (a':=?_) bA73_ rfl rfl (any_of HT_.out (by kernel_rfl)) (fun _ _ _ h=>h) (Or.inl ⟨by rfl,?_⟩) ?_ ?_
               rotate_left
               ·intro w'
                go_simp
                with_reducible rfl
               rotate_left
               ·simp only [Act.put,lA_,lZ_,lS_,i64_w,i32_w]
                rfl
               refine take_ (i:=9) (N:=some 68) (v:=?_) (a':=?_) bA12_ rfl rfl (take_ofW HT_.out HW_.out (by kernel_rfl)) (fun _ _ _ h=>h) (Or.inl ⟨by rfl,?_⟩) hHeld ?_ ?_
               rotate_left
               ·rintro w' ⟨s0,s1,s2⟩
                go_simp
                with_reducible rfl
               rotate_left
               ·simp only [Act.put,lA_,lZ_,lS_,i64_w,i32_w]
                rfl
               refine pure_ (i:=12) (N:=some 71) (v:=?_) (a':=?_) bA13_ rfl rfl (any_of HT_.out (by kernel_rfl)) (fun _ _ _ h=>h) (Or.inl ⟨by rfl,?_⟩) ?_ ?_
               rotate_left
               ·intro w'
                go_simp
                with_reducible rfl
               rotate_left
               ·simp only [Act.put,lA_,lZ_,lS_,i64_w,i32_w]
                rfl
               refine pure_ (i:=13) (N:=some 72) (v:=?_) (a':=?_) bA14_ rfl rfl (any_of HT_.out (by kernel_rfl)) (fun _ _ _ h=>h) (Or.inl ⟨by rfl,?_⟩) ?_ ?_
               rotate_left
               ·intro w'
                go_simp
                with_reducible rfl
               rotate_left
               ·simp only [Act.put,lA_,lZ_,lS_,i64_w,i32_w]
                rfl
               refine pure_ (i:=14) (N:=some 73) (v:=?_) (a':=?_) bA15_ rfl rfl (any_of HT_.out (by kernel_rfl)) (fun _ _ _ h=>h) (Or.inl ⟨by rfl,?_⟩) ?_ ?_
               rotate_left
               ·intro w'
                go_simp
                with_reducible rfl
               rotate_left
               ·simp only [Act.put,lA_,lZ_,lS_,i64_w,i32_w]
                rfl
               refine pure_ (i:=15) (N:=some 74) (v:=?_) (a':=?_) bA16_ rfl rfl (any_of HT_.out (by kernel_rfl)) (fun _ _ _ h=>h) (Or.inl ⟨by rfl,?_⟩) ?_ ?_
               rotate_left
               ·intro w'
                go_simp
                with_reducible rfl
               rotate_left
               ·simp only [Act.put,lA_,lZ_,lS_,i64_w,i32_w]
                rfl
               refine pure_ (i:=16) (N:=some 75) (v:=?_) (a':=?_) bA17_ rfl rfl (any_of HT_.out (by kernel_rfl)) (fun _ _ _ h=>h) (Or.inl ⟨by rfl,?_⟩) ?_ ?_
               rotate_left
               ·intro w'
                go_simp
                with_reducible rfl
               rotate_left
               ·simp only [Act.put,lA_,lZ_,lS_,i64_w,i32_w]
                rfl
               refine pure_ (i:=17) (N:=some 76) (v:=?_) (a':=?_) bA18_ rfl rfl (any_of HT_.out (by kernel_rfl)) (fun _ _ _ h=>h) (Or.inl ⟨by rfl,?_⟩) ?_ ?_
               rotate_left
               ·intro w'
                go_simp
                with_reducible rfl
               rotate_left
               ·simp only [Act.put,lA_,lZ_,lS_,i64_w,i32_w]
                rfl
               refine pure_ (i:=18) (N:=some 77) (v:=?_) (a':=?_) bA19_ rfl rfl (any_of HT_.out (by kernel_rfl)) (fun _ _ _ h=>h) (Or.inl ⟨by rfl,?_⟩) ?_ ?_
               rotate_left
               ·intro w'
                go_simp
                with_reducible rfl
               rotate_left
               ·simp only [Act.put,lA_,lZ_,lS_,i64_w,i32_w]
                rfl
               refine take_ (i:=19) (N:=some 78) (v:=?_) (a':=?_) bA20_ rfl rfl (take_ofW HT_.out HW_.out (by kernel_rfl)) (fun _ _ _ h=>h) (Or.inl ⟨by rfl,?_⟩) hHeld ?_ ?_
               rotate_left
               ·rintro w' ⟨s0,s1,s2⟩
                go_simp
                with_reducible rfl
               rotate_left
               ·simp only [Act.put,lA_,lZ_,lS_,i64_w,i32_w]
                rfl
               refine pure_ (i:=20) (N:=some 79) (v:=?_) (a':=?_) bA21_ rfl rfl (any_of HT_.out (by kernel_rfl)) (fun _ _ _ h=>h) (Or.inl ⟨by rfl,?_⟩) ?_ ?_
               rotate_left
               ·intro w'
                go_simp
                with_reducible rfl
               rotate_left
               ·simp only [Act.put,lA_,lZ_,lS_,i64_w,i32_w]
                rfl
               refine pure_ (i:=21) (N:=some 80) (v:=?_) (a':=?_) bA22_ rfl rfl (any_of HT_.out (by kernel_rfl)) (fun _ _ _ h=>h) (Or.inl ⟨by rfl,?_⟩) ?_ ?_
               rotate_left
               ·intro w'
                go_simp
                with_reducible rfl
               rotate_left
               ·simp only [Act.put,lA_,lZ_,lS_,i64_w,i32_w]
                rfl
               refine pure_ (i:=22) (N:=some 81) (v:=?_) (a':=?_) bA23_ rfl rfl (any_of HT_.out (by kernel_rfl)) (fun _ _ _ h=>h) (Or.inl ⟨by rfl,?_⟩) ?_ ?_
               rotate_left
               ·intro w'
                go_simp
                with_reducible rfl
               rotate_left
               ·simp only [Act.put,lA_,lZ_,lS_,i64_w,i32_w]
                rfl
               refine pure_ (i:=23) (N:=some 82) (v:=undef) (a':=?_) bA24_ rfl rfl (any_of HT_.out (by kernel_rfl)) (fun _ _ _ h=>h) (Or.inr ⟨by rfl,rfl⟩) ?_ ?_
               rotate_left
               ·simp only [Act.put,lA_,lZ_,lS_,i64_w,i32_w]
                rfl
               refine pure_ (i:=24) (N:=some 83) (v:=undef) (a':=?_) bA25_ rfl rfl (any_of HT_.out (by kernel_rfl)) (fun _ _ _ h=>h) (Or.inr ⟨by rfl,rfl⟩) ?_ ?_
               rotate_left
               ·simp only [Act.put,lA_,lZ_,lS_,i64_w,i32_w]
                rfl
               refine pure_ (i:=25) (N:=some 84) (v:=undef) (a':=?_) bA26_ rfl rfl (any_of HT_.out (by kernel_rfl)) (fun _ _ _ h=>h) (Or.inr ⟨by rfl,rfl⟩) ?_ ?_
               rotate_left
               ·simp only [Act.put,lA_,lZ_,lS_,i64_w,i32_w]
                rfl
               refine pure_ (i:=26) (N:=some 85) (v:=undef) (a':=?_) bA27_ rfl rfl (any_of HT_.out (by kernel_rfl)) (fun _ _ _ h=>h) (Or.inr ⟨by rfl,rfl⟩) ?_ ?_
               rotate_left
               ·simp only [Act.put,lA_,lZ_,lS_,i64_w,i32_w]
                rfl
               refine pure_ (i:=27) (N:=some 86) (v:=undef) (a':=?_) bA28_ rfl rfl (any_of HT_.out (by kernel_rfl)) (fun _ _ _ h=>h) (Or.inr ⟨by rfl,rfl⟩) ?_ ?_
               rotate_left
               ·simp only [Act.put,lA_,lZ_,lS_,i64_w,i32_w]
                rfl
               refine pure_ (i:=28) (N:=some 87) (v:=undef) (a':=?_) bA29_ rfl rfl (any_of HT_.out (by kernel_rfl)) (fun _ _ _ h=>h) (Or.inr ⟨by rfl,rfl⟩) ?_ ?_
               rotate_left
               ·simp only [Act.put,lA_,lZ_,lS_,i64_w,i32_w]
                rfl
               refine pure_ (i:=29) (N:=some 88) (v:=undef) (a':=?_) bA30_ rfl rfl (any_of HT_.out (by kernel_rfl)) (fun _ _ _ h=>h) (Or.inr ⟨by rfl,rfl⟩) ?_ ?_
               rotate_left
               ·simp only [Act.put,lA_,lZ_,lS_,i64_w,i32_w]
                rfl
               refine pure_ (i:=30) (N:=some 89) (v:=undef) (a':=?_) bA31_ rfl rfl (any_of HT_.out (by kernel_rfl)) (fun _ _ _ h=>h) (Or.inr ⟨by rfl,rfl⟩) ?_ ?_
               rotate_left
               ·simp only [Act.put,lA_,lZ_,lS_,i64_w,i32_w]
                rfl
               refine pure_ (i:=31) (N:=some 90) (v:=?_) (a':=?_) bA32_ rfl rfl (any_of HT_.out (by kernel_rfl)) (fun _ _ _ h=>h) (Or.inl ⟨by rfl,?_⟩) ?_ ?_
               rotate_left
               ·intro w'
                go_simp
                with_reducible rfl
               rotate_left
               ·simp only [Act.put,lA_,lZ_,lS_,i64_w,i32_w]
                rfl
               refine pure_ (i:=32) (N:=some 91) (v:=?_) (a':=?_) bA33_ rfl rfl (any_of HT_.out (by kernel_rfl)) (fun _ _ _ h=>h) (Or.inl ⟨by rfl,?_⟩) ?_ ?_
               rotate_left
               ·intro w'
                go_simp
                with_reducible rfl
               rotate_left
               ·simp only [Act.put,lA_,lZ_,lS_,i64_w,i32_w]
                rfl
               refine pure_ (i:=33) (N:=some 92) (v:=undef) (a':=?_) bA34_ rfl rfl (any_of HT_.out (by kernel_rfl)) (fun _ _ _ h=>h) (Or.inr ⟨by rfl,rfl⟩) ?_ ?_
               rotate_left
               ·simp only [Act.put,lA_,lZ_,lS_,i64_w,i32_w]
                rfl
               refine pure_ (i:=34) (N:=some 93) (v:=undef) (a':=?_) bA35_ rfl rfl (any_of HT_.out (by kernel_rfl)) (fun _ _ _ h=>h) (Or.inr ⟨by rfl,rfl⟩) ?_ ?_
               rotate_left
               ·simp only [Act.put,lA_,lZ_,lS_,i64_w,i32_w]
                rfl
               refine pure_ (i:=35) (N:=some 94) (v:=undef) (a':=?_) bA36_ rfl rfl (any_of HT_.out (by kernel_rfl)) (fun _ _ _ h=>h) (Or.inr ⟨by rfl,rfl⟩) ?_ ?_
               rotate_left
               ·simp only [Act.put,lA_,lZ_,lS_,i64_w,i32_w]
                rfl
               refine pure_ (i:=36) (N:=some 95) (v:=undef) (a':=?_) bA37_ rfl rfl (any_of HT_.out (by kernel_rfl)) (fun _ _ _ h=>h) (Or.inr ⟨by rfl,rfl⟩) ?_ ?_
               rotate_left
               ·simp only [Act.put,lA_,lZ_,lS_,i64_w,i32_w]
                rfl
               refine pure_ (i:=37) (N:=some 96) (v:=undef) (a':=?_) bA38_ rfl rfl (any_of HT_.out (by kernel_rfl)) (fun _ _ _ h=>h) (Or.inr ⟨by rfl,rfl⟩) ?_ ?_
               rotate_left
               ·simp only [Act.put,lA_,lZ_,lS_,i64_w,i32_w]
                rfl
               refine pure_ (i:=38) (N:=some 97) (v:=undef) (a':=?_) bA39_ rfl rfl (any_of HT_.out (by kernel_rfl)) (fun _ _ _ h=>h) (Or.inr ⟨by rfl,rfl⟩) ?_ ?_
               rotate_left
               ·simp only [Act.put,lA_,lZ_,lS_,i64_w,i32_w]
                rfl
               refine pure_ (i:=39) (N:=some 98) (v:=undef) (a':=?_) bA40_ rfl rfl (any_of HT_.out (by kernel_rfl)) (fun _ _ _ h=>h) (Or.inr ⟨by rfl,rfl⟩) ?_ ?_
               rotate_left
               ·simp only [Act.put,lA_,lZ_,lS_,i64_w,i32_w]
                rfl
               refine pure_ (i:=40) (N:=some 99) (v:=undef) (a':=?_) bA41_ rfl rfl (any_of HT_.out (by kernel_rfl)) (fun _ _ _ h=>h) (Or.inr ⟨by rfl,rfl⟩) ?_ ?_
               rotate_left
               ·simp only [Act.put,lA_,lZ_,lS_,i64_w,i32_w]
                rfl
               refine pure_ (i:=41) (N:=some 100) (v:=undef) (a':=?_) bA42_ rfl rfl (any_of HT_.out (by kernel_rfl)) (fun _ _ _ h=>h) (Or.inr ⟨by rfl,rfl⟩) ?_ ?_
               rotate_left
               ·simp only [Act.put,lA_,lZ_,lS_,i64_w,i32_w]
                rfl
               refine pure_ (i:=42) (N:=some 101) (v:=undef) (a':=?_) bA43_ rfl rfl (any_of HT_.out (by kernel_rfl)) (fun _ _ _ h=>h) (Or.inr ⟨by rfl,rfl⟩) ?_ ?_
               rotate_left
               ·simp only [Act.put,lA_,lZ_,lS_,i64_w,i32_w]
                rfl
               refine pure_ (i:=43) (N:=some 102) (v:=undef) (a':=?_) bA44_ rfl rfl (any_of HT_.out (by kernel_rfl)) (fun _ _ _ h=>h) (Or.inr ⟨by rfl,rfl⟩) ?_ ?_
               rotate_left
               ·simp only [Act.put,lA_,lZ_,lS_,i64_w,i32_w]
                rfl
               refine pure_ (i:=44) (N:=some 103) (v:=undef) (a':=?_) bA45_ rfl rfl (any_of HT_.out (by kernel_rfl)) (fun _ _ _ h=>h) (Or.inr ⟨by rfl,rfl⟩) ?_ ?_
               rotate_left
               ·simp only [Act.put,lA_,lZ_,lS_,i64_w,i32_w]
                rfl
               refine pure_ (i:=45) (N:=some 104) (v:=undef) (a':=?_) bA46_ rfl rfl (any_of HT_.out (by kernel_rfl)) (fun _ _ _ h=>h) (Or.inr ⟨by rfl,rfl⟩) ?_ ?_
               rotate_left
               ·simp only [Act.put,lA_,lZ_,lS_,i64_w,i32_w]
                rfl
               refine pure_ (i:=46) (N:=some 105) (v:=undef) (a':=?_) bA47_ rfl rfl (any_of HT_.out (by kernel_rfl)) (fun _ _ _ h=>h) (Or.inr ⟨by rfl,rfl⟩) ?_ ?_
               rotate_left
               ·simp only [Act.put,lA_,lZ_,lS_,i64_w,i32_w]
                rfl
               refine pure_ (i:=47) (N:=some 106) (v:=undef) (a':=?_) bA48_ rfl rfl (any_of HT_.out (by kernel_rfl)) (fun _ _ _ h=>h) (Or.inr ⟨by rfl,rfl⟩) ?_ ?_
               rotate_left
               ·simp only [Act.put,lA_,lZ_,lS_,i64_w,i32_w]
                rfl
               refine pure_ (i:=48) (N:=some 107) (v:=?_) (a':=?_) bA49_ rfl rfl (any_of HT_.out (by kernel_rfl)) (fun _ _ _ h=>h) (Or.inl ⟨by rfl,?_⟩) ?_ ?_
               rotate_left
               ·intro w'
                go_simp
                with_reducible rfl
               rotate_left
               ·simp only [Act.put,lA_,lZ_,lS_,i64_w,i32_w]
                rfl
               refine pure_ (i:=49) (N:=some 108) (v:=?_) (a':=?_) bA50_ rfl rfl (any_of HT_.out (by kernel_rfl)) (fun _ _ _ h=>h) (Or.inl ⟨by rfl,?_⟩) ?_ ?_
               rotate_left
               ·intro w'
                go_simp
                with_reducible rfl
               rotate_left
               ·simp only [Act.put,lA_,lZ_,lS_,i64_w,i32_w]
                rfl
               refine pure_ (i:=50) (N:=some 109) (v:=undef) (a':=?_) bA51_ rfl rfl (any_of HT_.out (by kernel_rfl)) (fun _ _ _ h=>h) (Or.inr ⟨by rfl,rfl⟩) ?_ ?_
               rotate_left
               ·simp only [Act.put,lA_,lZ_,lS_,i64_w,i32_w]
                rfl
               refine pure_ (i:=51) (N:=some 110) (v:=undef) (a':=?_) bA52_ rfl rfl (any_of HT_.out (by kernel_rfl)) (fun _ _ _ h=>h) (Or.inr ⟨by rfl,rfl⟩) ?_ ?_
               rotate_left
               ·simp only [Act.put,lA_,lZ_,lS_,i64_w,i32_w]
                rfl
               refine pure_ (i:=52) (N:=some 111) (v:=undef) (a':=?_) bA53_ rfl rfl (any_of HT_.out (by kernel_rfl)) (fun _ _ _ h=>h) (Or.inr ⟨by rfl,rfl⟩) ?_ ?_
               rotate_left
               ·simp only [Act.put,lA_,lZ_,lS_,i64_w,i32_w]
                rfl
               refine pure_ (i:=53) (N:=some 112) (v:=undef) (a':=?_) bA54_ rfl rfl (any_of HT_.out (by kernel_rfl)) (fun _ _ _ h=>h) (Or.inr ⟨by rfl,rfl⟩) ?_ ?_
               rotate_left
               ·simp only [Act.put,lA_,lZ_,lS_,i64_w,i32_w]
                rfl
               refine pure_ (i:=54) (N:=some 113) (v:=undef) (a':=?_) bA55_ rfl rfl (any_of HT_.out (by kernel_rfl)) (fun _ _ _ h=>h) (Or.inr ⟨by rfl,rfl⟩) ?_ ?_
               rotate_left
               ·simp only [Act.put,lA_,lZ_,lS_,i64_w,i32_w]
                rfl
               refine pure_ (i:=55) (N:=some 114) (v:=undef) (a':=?_) bA56_ rfl rfl (any_of HT_.out (by kernel_rfl)) (fun _ _ _ h=>h) (Or.inr ⟨by rfl,rfl⟩) ?_ ?_
               rotate_left
               ·simp only [Act.put,lA_,lZ_,lS_,i64_w,i32_w]
                rfl
               refine pure_ (i:=56) (N:=some 115) (v:=undef) (a':=?_) bA57_ rfl rfl (any_of HT_.out (by kernel_rfl)) (fun _ _ _ h=>h) (Or.inr ⟨by rfl,rfl⟩) ?_ ?_
               rotate_left
               ·simp only [Act.put,lA_,lZ_,lS_,i64_w,i32_w]
                rfl
               refine pure_ (i:=57) (N:=some 116) (v:=undef) (a':=?_) bA58_ rfl rfl (any_of HT_.out (by kernel_rfl)) (fun _ _ _ h=>h) (Or.inr ⟨by rfl,rfl⟩) ?_ ?_
               rotate_left
               ·simp only [Act.put,lA_,lZ_,lS_,i64_w,i32_w]
                rfl
               refine pure_ (i:=58) (N:=some 117) (v:=undef) (a':=?_) bA59_ rfl rfl (any_of HT_.out (by kernel_rfl)) (fun _ _ _ h=>h) (Or.inr ⟨by rfl,rfl⟩) ?_ ?_
               rotate_left
               ·simp only [Act.put,lA_,lZ_,lS_,i64_w,i32_w]
                rfl
               refine pure_ (i:=59) (N:=some 118) (v:=undef) (a':=?_) bA60_ rfl rfl (any_of HT_.out (by kernel_rfl)) (fun _ _ _ h=>h) (Or.inr ⟨by rfl,rfl⟩) ?_ ?_
               rotate_left
               ·simp only [Act.put,lA_,lZ_,lS_,i64_w,i32_w]
                rfl
               refine pure_ (i:=60) (N:=some 119) (v:=undef) (a':=?_) bA61_ rfl rfl (any_of HT_.out (by kernel_rfl)) (fun _ _ _ h=>h) (Or.inr ⟨by rfl,rfl⟩) ?_ ?_
               rotate_left
               ·simp only [Act.put,lA_,lZ_,lS_,i64_w,i32_w]
                rfl
               refine pure_ (i:=61) (N:=some 120) (v:=undef) (a':=?_) bA62_ rfl rfl (any_of HT_.out (by kernel_rfl)) (fun _ _ _ h=>h) (Or.inr ⟨by rfl,rfl⟩) ?_ ?_
               rotate_left
               ·simp only [Act.put,lA_,lZ_,lS_,i64_w,i32_w]
                rfl
               refine pure_ (i:=62) (N:=some 121) (v:=undef) (a':=?_) bA63_ rfl rfl (any_of HT_.out (by kernel_rfl)) (fun _ _ _ h=>h) (Or.inr ⟨by rfl,rfl⟩) ?_ ?_
               rotate_left
               ·simp only [Act.put,lA_,lZ_,lS_,i64_w,i32_w]
                rfl
               refine pure_ (i:=63) (N:=some 122) (v:=undef) (a':=?_) bA64_ rfl rfl (any_of HT_.out (by kernel_rfl)) (fun _ _ _ h=>h) (Or.inr ⟨by rfl,rfl⟩) ?_ ?_
               rotate_left
               ·simp only [Act.put,lA_,lZ_,lS_,i64_w,i32_w]
                rfl
               refine pure_ (i:=64) (N:=some 123) (v:=undef) (a':=?_) bA65_ rfl rfl (any_of HT_.out (by kernel_rfl)) (fun _ _ _ h=>h) (Or.inr ⟨by rfl,rfl⟩) ?_ ?_
               rotate_left
               ·simp only [Act.put,lA_,lZ_,lS_,i64_w,i32_w]
                rfl
               refine pure_ (i:=65) (N:=some 124) (v:=undef) (a':=?_) bA66_ rfl rfl (any_of HT_.out (by kernel_rfl)) (fun _ _ _ h=>h) (Or.inr ⟨by rfl,rfl⟩) ?_ ?_
               rotate_left
               ·simp only [Act.put,lA_,lZ_,lS_,i64_w,i32_w]
                rfl
               refine pure_ (i:=66) (N:=some 125) (v:=undef) (a':=?_) bA67_ rfl rfl (any_of HT_.out (by kernel_rfl)) (fun _ _ _ h=>h) (Or.inr ⟨by rfl,rfl⟩) ?_ ?_
               rotate_left
               ·simp only [Act.put,lA_,lZ_,lS_,i64_w,i32_w]
                rfl
               refine pure_ (i:=67) (N:=some 126) (v:=undef) (a':=?_) bA68_ rfl rfl (any_of HT_.out (by kernel_rfl)) (fun _ _ _ h=>h) (Or.inr ⟨by rfl,rfl⟩) ?_ ?_
               rotate_left
               ·simp only [Act.put,lA_,lZ_,lS_,i64_w,i32_w]
                rfl
               refine pure_ (i:=68) (N:=some 127) (v:=undef) (a':=?_) bA69_ rfl rfl (any_of HT_.out (by kernel_rfl)) (fun _ _ _ h=>h) (Or.inr ⟨by rfl,rfl⟩) ?_ ?_
               rotate_left
               ·simp only [Act.put,lA_,lZ_,lS_,i64_w,i32_w]
                rfl
               refine pure_ (i:=69) (N:=some 128) (v:=undef) (a':=?_) bA70_ rfl rfl (any_of HT_.out (by kernel_rfl)) (fun _ _ _ h=>h) (Or.inr ⟨by rfl,rfl⟩) ?_ ?_
               rotate_left
               ·simp only [Act.put,lA_,lZ_,lS_,i64_w,i32_w]
                rfl
               refine pure_ (i:=70) (N:=some 129) (v:=?_) (a':=?_) bA71_ rfl rfl (any_of HT_.out (by kernel_rfl)) (fun _ _ _ h=>h) (Or.inl ⟨by rfl,?_⟩) ?_ ?_
               rotate_left
               ·intro w'
                go_simp
                with_reducible rfl
               rotate_left
               ·simp only [Act.put,lA_,lZ_,lS_,i64_w,i32_w]
                rfl
               refine done_ (done_of HT_.out (by kernel_rfl)) ?_
               try go_wp2
               first|go_meet|((simp only [← hji40]);go_meet)
               case rel=>exact ⟨_,(true),(by first|rfl|(simp;done)|(simp [*];done)),(by first|exact H'|((simp only [hji40]);exact H')|(have h_:=H'.out;simp only [← hji40] at h_ ⊢;exact ⟨h_⟩)),⟨by have:=HJ16.out;have:=HK2.out;first|omega|exact Nat.le_refl _⟩,⟨by (with_reducible repeat (first|apply Kd.V_alloc|apply Kd.V_drewN|apply Kd.V_drew));exact HO_0.out⟩,⟨by (with_reducible repeat (first|apply Kd.R_alloc|apply Kd.R_drewN|apply Kd.R_drew));exact HO_3.out⟩,⟨by (with_reducible repeat (first|apply Kd.R_alloc|apply Kd.R_drewN|apply Kd.R_drew));exact HO_5.out⟩,⟨by repeat (first|(with_reducible first|exact HB.out|apply below_alloc|apply pw_below_drewN|apply below_drew1)|exact HB.out)⟩⟩
              ·rw [if_neg c43] at H
               have c43b0 : decide ((rd t138 (ji40)) < 0) = false:=decide_eq_false c43
               clear c43
               by_cases c45 : (rd t138 (ji40)) ≥ (l0.length : Int)
               ·rw [if_pos c45] at H
                have c45b0 : decide ((l0.length : Int) ≤ (rd t138 (ji40))) = true:=decide_eq_true c45
                clear c45
                have H':=Aside0.mk H
                clear H
                try go_wp2
                have n0_:=Aside0.mk (Kd.V_drew HO_0.out)
                have n1_:=Aside0.mk (Kd.R_drew HO_3.out)
                have n2_:=Aside0.mk (Kd.R_drew HO_5.out)
                have n3_:=Aside0.mk (below_drew1 HB.out)
                clear HO_0
                clear HO_3
                clear HO_5
                clear HB
                have HO_0:=n0_
                have HO_3:=n1_
                have HO_5:=n2_
                have HB:=n3_
                clear n0_ n1_ n2_ n3_
                have p150 : 0 ≤ (x7_2 : Int):=of_decide_eq_true (by first|(with_reducible assumption)|assumption)
                have q150 : x7_2 < (t138.length : Int):=of_decide_eq_true (by first|(with_reducible assumption)|assumption)
                obtain ⟨ad150,e150,hx150_0⟩:=Kd.at_int (Kd.R_reads' HO_3.out).2.2 x7_2 p150 q150
                cases e150
                replace p150:=eq_true p150
                replace q150:=eq_true q150
                have p151 : 0 ≤ (x7_2 : Int):=of_decide_eq_true (by first|(with_reducible assumption)|assumption)
                have q151 : x7_2 < (t138.length : Int):=of_decide_eq_true (by first|(with_reducible assumption)|assumption)
                obtain ⟨ad151,e151,hx151_0⟩:=Kd.at_int (Kd.R_reads' HO_3.out).2.2 x7_2 p151 q151
                obtain rfl : ad150 = ad151:=(by injection e151)
                replace p151:=eq_true p151
                replace q151:=eq_true q151
                have p152 : 0 ≤ ((ji40) : Int):=of_decide_eq_true (by first|(with_reducible assumption)|assumption)
                have q152 : (ji40) < (t138.length : Int):=of_decide_eq_true (by first|(with_reducible assumption)|assumption)
                obtain ⟨ad152,e152,hx152_0⟩:=Kd.at_int (Kd.R_reads' HO_3.out).2.2 (ji40) p152 q152
                obtain rfl : ad150 = ad152:=(by injection e152)
                replace p152:=eq_true p152
                replace q152:=eq_true q152
                have p153 : 0 ≤ ((ji40) : Int):=of_decide_eq_true (by first|(with_reducible assumption)|assumption)
                have q153 : (ji40) < (t138.length : Int):=of_decide_eq_true (by first|(with_reducible assumption)|assumption)
                obtain ⟨ad153,e153,hx153_0⟩:=Kd.at_int (Kd.R_reads' HO_3.out).2.2 (ji40) p153 q153
                obtain rfl : ad150 = ad153:=(by injection e153)
                replace p153:=eq_true p153
                replace q153:=eq_true q153
                refine start_ (n:=71) (S:=fun w'=>w'.cell? (ad150.add (x7_2).toNat) = some (.int .i64 (rd t138 x7_2)) ∧ w'.cell? (ad150.add (x7_2).toNat) = some (.int .i64 (rd t138 x7_2)) ∧ w'.cell? (ad150.add ((ji40)).toNat) = some (.int .i64 (rd t138 (ji40))) ∧ w'.cell? (ad150.add ((ji40)).toNat) = some (.int .i64 (rd t138 (ji40)))) (ds:=[]) bA0_ (by kernel_rfl) rfl rfl ⟨hx150_0,hx151_0,hx152_0,hx153_0⟩ (fun hHeld=>?_);refine with_tabW coppicerkeep_EndsRise.tab10 coppicerkeep_EndsRise.bits10 (fun HT_ HW_=>?_)
                generalize wr.drew = w46 at HO_0 HO_3 HO_5 HB hx150_0 hx151_0 hx152_0 hx153_0 hHeld ⊢
                refine pure_ (i:=0) (N:=some 59) (v:=?_) (a':=?_) bA1_ rfl rfl (any_of HT_.out (by kernel_rfl)) (fun _ _ _ h=>h) (Or.inl ⟨by rfl,?_⟩) ?_ ?_
                rotate_left
                ·intro w'
                 go_simp
                 with_reducible rfl
                rotate_left
                ·simp only [Act.put,lA_,lZ_,lS_,i64_w,i32_w]
                 rfl
                refine pure_ (i:=1) (N:=some 60) (v:=?_) (a':=?_) bA2_ rfl rfl (any_of HT_.out (by kernel_rfl)) (fun _ _ _ h=>h) (Or.inl ⟨by rfl,?_⟩) ?_ ?_
                rotate_left
                ·intro w'
                 go_simp
                 with_reducible rfl
                rotate_left
                ·simp only [Act.put,lA_,lZ_,lS_,i64_w,i32_w]
                 rfl
                refine pure_ (i:=2) (N:=some 61) (v:=?_) (a':=?_) bA3_ rfl rfl (any_of HT_.out (by kernel_rfl)) (fun _ _ _ h=>h) (Or.inl ⟨by rfl,?_⟩) ?_ ?_
                rotate_left
                ·intro w'
                 go_simp
                 with_reducible rfl
                rotate_left
                ·simp only [Act.put,lA_,lZ_,lS_,i64_w,i32_w]
                 rfl
                refine take_ (i:=3) (N:=some 62) (v:=?_) (a':=?_) bA4_ rfl rfl (take_ofW HT_.out HW_.out (by kernel_rfl)) (fun _ _ _ h=>h) (Or.inl ⟨by rfl,?_⟩) hHeld ?_ ?_
                rotate_left
                ·rintro w' ⟨s0,s1,s2,s3⟩
                 go_simp
                 with_reducible rfl
                rotate_left
                ·simp only [Act.put,lA_,lZ_,lS_,i64_w,i32_w]
                 rfl
                refine pure_ (i:=4) (N:=some 63) (v:=?_) (a':=?_) bA5_ rfl rfl (any_of HT_.out (by kernel_rfl)) (fun _ _ _ h=>h) (Or.inl ⟨by rfl,?_⟩) ?_ ?_
                rotate_left
                ·intro w'
                 go_simp
                 with_reducible rfl
                rotate_left
                ·simp only [Act.put,lA_,lZ_,lS_,i64_w,i32_w]
                 rfl
                refine pure_ (i:=5) (N:=some 64) (v:=?_) (a':=?_) bA6_ rfl rfl (any_of HT_.out (by kernel_rfl)) (fun _ _ _ h=>h) (Or.inl ⟨by rfl,?_⟩) ?_ ?_
                rotate_left
                ·intro w'
                 go_simp
                 with_reducible rfl
                rotate_left
                ·simp only [Act.put,lA_,lZ_,lS_,i64_w,i32_w]
                 rfl
                refine pure_ (i:=6) (N:=some 65) (v:=?_) (a':=?_) bA7_ rfl rfl (any_of HT_.out (by kernel_rfl)) (fun _ _ _ h=>h) (Or.inl ⟨by rfl,?_⟩) ?_ ?_
                rotate_left
                ·intro w'
                 go_simp
                 with_reducible rfl
                rotate_left
                ·simp only [Act.put,lA_,lZ_,lS_,i64_w,i32_w]
                 rfl
                refine pure_ (i:=7) (N:=some 66) (v:=?_) (a':=?_) bA8_ rfl rfl (any_of HT_.out (by kernel_rfl)) (fun _ _ _ h=>h) (Or.inl ⟨by rfl,?_⟩) ?_ ?_
                rotate_left
                ·intro w'
                 go_simp
                 with_reducible rfl
                rotate_left
                ·simp only [Act.put,lA_,lZ_,lS_,i64_w,i32_w]
                 rfl
                refine pure_ (i:=8) (N:=some 67) (v:=?_) (a':=?_) bA9_ rfl rfl (any_of HT_.out (by kernel_rfl)) (fun _ _ _ h=>h) (Or.inl ⟨by rfl,?_⟩) ?_ ?_
                rotate_left
                ·intro w'
                 go_simp
                 with_reducible rfl
                rotate_left
                ·simp only [Act.put,lA_,lZ_,lS_,i64_w,i32_w]
                 rfl
                refine pure_ (i:=10) (N:=some 69) (v:=?_) (a':=?_) bA72_ rfl rfl (any_of HT_.out (by kernel_rfl)) (fun _ _ _ h=>h) (Or.inl ⟨by rfl,?_⟩) ?_ ?_
                rotate_left
                ·intro w'
                 go_simp
                 with_reducible rfl
                rotate_left
                ·simp only [Act.put,lA_,lZ_,lS_,i64_w,i32_w]
                 rfl
                refine pure_ (i:=11) (N:=some 70) (v:=?_) (a':=?_) bA73_ rfl rfl (any_of HT_.out (by kernel_rfl)) (fun _ _ _ h=>h) (Or.inl ⟨by rfl,?_⟩) ?_ ?_
                rotate_left
                ·intro w'
                 go_simp
                 with_reducible rfl
                rotate_left
                ·simp only [Act.put,lA_,lZ_,lS_,i64_w,i32_w]
                 rfl
                refine take_ (i:=9) (N:=some 68) (v:=?_) (a':=?_) bA12_ rfl rfl (take_ofW HT_.out HW_.out (by kernel_rfl)) (fun _ _ _ h=>h) (Or.inl ⟨by rfl,?_⟩) hHeld ?_ ?_
                rotate_left
                ·rintro w' ⟨s0,s1,s2,s3⟩
                 go_simp
                 with_reducible rfl
                rotate_left
                ·simp only [Act.put,lA_,lZ_,lS_,i64_w,i32_w]
                 rfl
                refine pure_ (i:=12) (N:=some 71) (v:=?_) (a':=?_) bA13_ rfl rfl (any_of HT_.out (by kernel_rfl)) (fun _ _ _ h=>h) (Or.inl ⟨by rfl,?_⟩) ?_ ?_
                rotate_left
                ·intro w'
                 go_simp
                 with_reducible rfl
                rotate_left
                ·simp only [Act.put,lA_,lZ_,lS_,i64_w,i32_w]
                 rfl
                refine pure_ (i:=13) (N:=some 72) (v:=?_) (a':=?_) bA14_ rfl rfl (any_of HT_.out (by kernel_rfl)) (fun _ _ _ h=>h) (Or.inl ⟨by rfl,?_⟩) ?_ ?_
                rotate_left
                ·intro w'
                 go_simp
                 with_reducible rfl
                rotate_left
                ·simp only [Act.put,lA_,lZ_,lS_,i64_w,i32_w]
                 rfl
                refine pure_ (i:=14) (N:=some 73) (v:=?_) (a':=?_) bA15_ rfl rfl (any_of HT_.out (by kernel_rfl)) (fun _ _ _ h=>h) (Or.inl ⟨by rfl,?_⟩) ?_ ?_
                rotate_left
                ·intro w'
                 go_simp
                 with_reducible rfl
                rotate_left
                ·simp only [Act.put,lA_,lZ_,lS_,i64_w,i32_w]
                 rfl
                refine pure_ (i:=15) (N:=some 74) (v:=?_) (a':=?_) bA16_ rfl rfl (any_of HT_.out (by kernel_rfl)) (fun _ _ _ h=>h) (Or.inl ⟨by rfl,?_⟩) ?_ ?_
                rotate_left
                ·intro w'
                 go_simp
                 with_reducible rfl
                rotate_left
                ·simp only [Act.put,lA_,lZ_,lS_,i64_w,i32_w]
                 rfl
                refine pure_ (i:=16) (N:=some 75) (v:=?_) (a':=?_) bA17_ rfl rfl (any_of HT_.out (by kernel_rfl)) (fun _ _ _ h=>h) (Or.inl ⟨by rfl,?_⟩) ?_ ?_
                rotate_left
                ·intro w'
                 go_simp
                 with_reducible rfl
                rotate_left
                ·simp only [Act.put,lA_,lZ_,lS_,i64_w,i32_w]
                 rfl
                refine pure_ (i:=17) (N:=some 76) (v:=?_) (a':=?_) bA18_ rfl rfl (any_of HT_.out (by kernel_rfl)) (fun _ _ _ h=>h) (Or.inl ⟨by rfl,?_⟩) ?_ ?_
                rotate_left
                ·intro w'
                 go_simp
                 with_reducible rfl
                rotate_left
                ·simp only [Act.put,lA_,lZ_,lS_,i64_w,i32_w]
                 rfl
                refine pure_ (i:=18) (N:=some 77) (v:=?_) (a':=?_) bA19_ rfl rfl (any_of HT_.out (by kernel_rfl)) (fun _ _ _ h=>h) (Or.inl ⟨by rfl,?_⟩) ?_ ?_
                rotate_left
                ·intro w'
                 go_simp
                 with_reducible rfl
                rotate_left
                ·simp only [Act.put,lA_,lZ_,lS_,i64_w,i32_w]
                 rfl
                refine take_ (i:=19) (N:=some 78) (v:=?_) (a':=?_) bA20_ rfl rfl (take_ofW HT_.out HW_.out (by kernel_rfl)) (fun _ _ _ h=>h) (Or.inl ⟨by rfl,?_⟩) hHeld ?_ ?_
                rotate_left
                ·rintro w' ⟨s0,s1,s2,s3⟩
                 go_simp
                 with_reducible rfl
                rotate_left
                ·simp only [Act.put,lA_,lZ_,lS_,i64_w,i32_w]
                 rfl
                refine pure_ (i:=20) (N:=some 79) (v:=?_) (a':=?_) bA21_ rfl rfl (any_of HT_.out (by kernel_rfl)) (fun _ _ _ h=>h) (Or.inl ⟨by rfl,?_⟩) ?_ ?_
                rotate_left
                ·intro w'
                 go_simp
                 with_reducible rfl
                rotate_left
                ·simp only [Act.put,lA_,lZ_,lS_,i64_w,i32_w]
                 rfl
                refine pure_ (i:=21) (N:=some 80) (v:=?_) (a':=?_) bA22_ rfl rfl (any_of HT_.out (by kernel_rfl)) (fun _ _ _ h=>h) (Or.inl ⟨by rfl,?_⟩) ?_ ?_
                rotate_left
                ·intro w'
                 go_simp
                 with_reducible rfl
                rotate_left
                ·simp only [Act.put,lA_,lZ_,lS_,i64_w,i32_w]
                 rfl
                refine pure_ (i:=22) (N:=some 81) (v:=?_) (a':=?_) bA23_ rfl rfl (any_of HT_.out (by kernel_rfl)) (fun _ _ _ h=>h) (Or.inl ⟨by rfl,?_⟩) ?_ ?_
                rotate_left
                ·intro w'
                 go_simp
                 with_reducible rfl
                rotate_left
                ·simp only [Act.put,lA_,lZ_,lS_,i64_w,i32_w]
                 rfl
                refine pure_ (i:=23) (N:=some 82) (v:=?_) (a':=?_) bA24_ rfl rfl (any_of HT_.out (by kernel_rfl)) (fun _ _ _ h=>h) (Or.inl ⟨by rfl,?_⟩) ?_ ?_
                rotate_left
                ·intro w'
                 go_simp
                 with_reducible rfl
                rotate_left
                ·simp only [Act.put,lA_,lZ_,lS_,i64_w,i32_w]
                 rfl
                refine pure_ (i:=24) (N:=some 83) (v:=?_) (a':=?_) bA25_ rfl rfl (any_of HT_.out (by kernel_rfl)) (fun _ _ _ h=>h) (Or.inl ⟨by rfl,?_⟩) ?_ ?_
                rotate_left
                ·intro w'
                 go_simp
                 with_reducible rfl
                rotate_left
                ·simp only [Act.put,lA_,lZ_,lS_,i64_w,i32_w]
                 rfl
                refine pure_ (i:=25) (N:=some 84) (v:=?_) (a':=?_) bA26_ rfl rfl (any_of HT_.out (by kernel_rfl)) (fun _ _ _ h=>h) (Or.inl ⟨by rfl,?_⟩) ?_ ?_
                rotate_left
                ·intro w'
                 go_simp
                 with_reducible rfl
                rotate_left
                ·simp only [Act.put,lA_,lZ_,lS_,i64_w,i32_w]
                 rfl
                refine pure_ (i:=26) (N:=some 85) (v:=?_) (a':=?_) bA27_ rfl rfl (any_of HT_.out (by kernel_rfl)) (fun _ _ _ h=>h) (Or.inl ⟨by rfl,?_⟩) ?_ ?_
                rotate_left
                ·intro w'
                 go_simp
                 with_reducible rfl
                rotate_left
                ·simp only [Act.put,lA_,lZ_,lS_,i64_w,i32_w]
                 rfl
                refine pure_ (i:=28) (N:=some 87) (v:=?_) (a':=?_) bA74_ rfl rfl (any_of HT_.out (by kernel_rfl)) (fun _ _ _ h=>h) (Or.inl ⟨by rfl,?_⟩) ?_ ?_
                rotate_left
                ·intro w'
                 go_simp
                 with_reducible rfl
                rotate_left
                ·simp only [Act.put,lA_,lZ_,lS_,i64_w,i32_w]
                 rfl
                refine pure_ (i:=29) (N:=some 88) (v:=?_) (a':=?_) bA75_ rfl rfl (any_of HT_.out (by kernel_rfl)) (fun _ _ _ h=>h) (Or.inl ⟨by rfl,?_⟩) ?_ ?_
                rotate_left
                ·intro w'
                 go_simp
                 with_reducible rfl
                rotate_left
                ·simp only [Act.put,lA_,lZ_,lS_,i64_w,i32_w]
                 rfl
                refine take_ (i:=27) (N:=some 86) (v:=?_) (a':=?_) bA30_ rfl rfl (take_ofW HT_.out HW_.out (by kernel_rfl)) (fun _ _ _ h=>h) (Or.inl ⟨by rfl,?_⟩) hHeld ?_ ?_
                rotate_left
                ·rintro w' ⟨s0,s1,s2,s3⟩
                 go_simp
                 with_reducible rfl
                rotate_left
                ·simp only [Act.put,lA_,lZ_,lS_,i64_w,i32_w]
                 rfl
                refine pure_ (i:=30) (N:=some 89) (v:=?_) (a':=?_) bA31_ rfl rfl (any_of HT_.out (by kernel_rfl)) (fun _ _ _ h=>h) (Or.inl ⟨by rfl,?_⟩) ?_ ?_
                rotate_left
                ·intro w'
                 go_simp
                 with_reducible rfl
                rotate_left
                ·simp only [Act.put,lA_,lZ_,lS_,i64_w,i32_w]
                 rfl
                refine pure_ (i:=31) (N:=some 90) (v:=?_) (a':=?_) bA32_ rfl rfl (any_of HT_.out (by kernel_rfl)) (fun _ _ _ h=>h) (Or.inl ⟨by rfl,?_⟩) ?_ ?_
                rotate_left
                ·intro w'
                 go_simp
                 with_reducible rfl
                rotate_left
                ·simp only [Act.put,lA_,lZ_,lS_,i64_w,i32_w]
                 rfl
                refine pure_ (i:=32) (N:=some 91) (v:=?_) (a':=?_) bA33_ rfl rfl (any_of HT_.out (by kernel_rfl)) (fun _ _ _ h=>h) (Or.inl ⟨by rfl,?_⟩) ?_ ?_
                rotate_left
                ·intro w'
                 go_simp
                 with_reducible rfl
                rotate_left
                ·simp only [Act.put,lA_,lZ_,lS_,i64_w,i32_w]
                 rfl
                refine pure_ (i:=33) (N:=some 92) (v:=undef) (a':=?_) bA34_ rfl rfl (any_of HT_.out (by kernel_rfl)) (fun _ _ _ h=>h) (Or.inr ⟨by rfl,rfl⟩) ?_ ?_
                rotate_left
                ·simp only [Act.put,lA_,lZ_,lS_,i64_w,i32_w]
                 rfl
                refine pure_ (i:=34) (N:=some 93) (v:=undef) (a':=?_) bA35_ rfl rfl (any_of HT_.out (by kernel_rfl)) (fun _ _ _ h=>h) (Or.inr ⟨by rfl,rfl⟩) ?_ ?_
                rotate_left
                ·simp only [Act.put,lA_,lZ_,lS_,i64_w,i32_w]
                 rfl
                refine pure_ (i:=35) (N:=some 94) (v:=undef) (a':=?_) bA36_ rfl rfl (any_of HT_.out (by kernel_rfl)) (fun _ _ _ h=>h) (Or.inr ⟨by rfl,rfl⟩) ?_ ?_
                rotate_left
                ·simp only [Act.put,lA_,lZ_,lS_,i64_w,i32_w]
                 rfl
                refine pure_ (i:=36) (N:=some 95) (v:=undef) (a':=?_) bA37_ rfl rfl (any_of HT_.out (by kernel_rfl)) (fun _ _ _ h=>h) (Or.inr ⟨by rfl,rfl⟩) ?_ ?_
                rotate_left
                ·simp only [Act.put,lA_,lZ_,lS_,i64_w,i32_w]
                 rfl
                refine pure_ (i:=37) (N:=some 96) (v:=undef) (a':=?_) bA38_ rfl rfl (any_of HT_.out (by kernel_rfl)) (fun _ _ _ h=>h) (Or.inr ⟨by rfl,rfl⟩) ?_ ?_
                rotate_left
                ·simp only [Act.put,lA_,lZ_,lS_,i64_w,i32_w]
                 rfl
                refine pure_ (i:=38) (N:=some 97) (v:=undef) (a':=?_) bA39_ rfl rfl (any_of HT_.out (by kernel_rfl)) (fun _ _ _ h=>h) (Or.inr ⟨by rfl,rfl⟩) ?_ ?_
                rotate_left
                ·simp only [Act.put,lA_,lZ_,lS_,i64_w,i32_w]
                 rfl
                refine pure_ (i:=39) (N:=some 98) (v:=undef) (a':=?_) bA40_ rfl rfl (any_of HT_.out (by kernel_rfl)) (fun _ _ _ h=>h) (Or.inr ⟨by rfl,rfl⟩) ?_ ?_
                rotate_left
                ·simp only [Act.put,lA_,lZ_,lS_,i64_w,i32_w]
                 rfl
                refine pure_ (i:=40) (N:=some 99) (v:=undef) (a':=?_) bA41_ rfl rfl (any_of HT_.out (by kernel_rfl)) (fun _ _ _ h=>h) (Or.inr ⟨by rfl,rfl⟩) ?_ ?_
                rotate_left
                ·simp only [Act.put,lA_,lZ_,lS_,i64_w,i32_w]
                 rfl
                refine pure_ (i:=41) (N:=some 100) (v:=undef) (a':=?_) bA42_ rfl rfl (any_of HT_.out (by kernel_rfl)) (fun _ _ _ h=>h) (Or.inr ⟨by rfl,rfl⟩) ?_ ?_
                rotate_left
                ·simp only [Act.put,lA_,lZ_,lS_,i64_w,i32_w]
                 rfl
                refine pure_ (i:=42) (N:=some 101) (v:=undef) (a':=?_) bA43_ rfl rfl (any_of HT_.out (by kernel_rfl)) (fun _ _ _ h=>h) (Or.inr ⟨by rfl,rfl⟩) ?_ ?_
                rotate_left
                ·simp only [Act.put,lA_,lZ_,lS_,i64_w,i32_w]
                 rfl
                refine pure_ (i:=43) (N:=some 102) (v:=undef) (a':=?_) bA44_ rfl rfl (any_of HT_.out (by kernel_rfl)) (fun _ _ _ h=>h) (Or.inr ⟨by rfl,rfl⟩) ?_ ?_
                rotate_left
                ·simp only [Act.put,lA_,lZ_,lS_,i64_w,i32_w]
                 rfl
                refine pure_ (i:=44) (N:=some 103) (v:=undef) (a':=?_) bA45_ rfl rfl (any_of HT_.out (by kernel_rfl)) (fun _ _ _ h=>h) (Or.inr ⟨by rfl,rfl⟩) ?_ ?_
                rotate_left
                ·simp only [Act.put,lA_,lZ_,lS_,i64_w,i32_w]
                 rfl
                refine pure_ (i:=45) (N:=some 104) (v:=undef) (a':=?_) bA46_ rfl rfl (any_of HT_.out (by kernel_rfl)) (fun _ _ _ h=>h) (Or.inr ⟨by rfl,rfl⟩) ?_ ?_
                rotate_left
                ·simp only [Act.put,lA_,lZ_,lS_,i64_w,i32_w]
                 rfl
                refine pure_ (i:=46) (N:=some 105) (v:=undef) (a':=?_) bA47_ rfl rfl (any_of HT_.out (by kernel_rfl)) (fun _ _ _ h=>h) (Or.inr ⟨by rfl,rfl⟩) ?_ ?_
                rotate_left
                ·simp only [Act.put,lA_,lZ_,lS_,i64_w,i32_w]
                 rfl
                refine pure_ (i:=47) (N:=some 106) (v:=undef) (a':=?_) bA48_ rfl rfl (any_of HT_.out (by kernel_rfl)) (fun _ _ _ h=>h) (Or.inr ⟨by rfl,rfl⟩) ?_ ?_
                rotate_left
                ·simp only [Act.put,lA_,lZ_,lS_,i64_w,i32_w]
                 rfl
                refine pure_ (i:=48) (N:=some 107) (v:=?_) (a':=?_) bA49_ rfl rfl (any_of HT_.out (by kernel_rfl)) (fun _ _ _ h=>h) (Or.inl ⟨by rfl,?_⟩) ?_ ?_
                rotate_left
                ·intro w'
                 go_simp
                 with_reducible rfl
                rotate_left
                ·simp only [Act.put,lA_,lZ_,lS_,i64_w,i32_w]
                 rfl
                refine pure_ (i:=49) (N:=some 108) (v:=?_) (a':=?_) bA50_ rfl rfl (any_of HT_.out (by kernel_rfl)) (fun _ _ _ h=>h) (Or.inl ⟨by rfl,?_⟩) ?_ ?_
                rotate_left
                ·intro w'
                 go_simp
                 with_reducible rfl
                rotate_left
                ·simp only [Act.put,lA_,lZ_,lS_,i64_w,i32_w]
                 rfl
                refine pure_ (i:=50) (N:=some 109) (v:=undef) (a':=?_) bA51_ rfl rfl (any_of HT_.out (by kernel_rfl)) (fun _ _ _ h=>h) (Or.inr ⟨by rfl,rfl⟩) ?_ ?_
                rotate_left
                ·simp only [Act.put,lA_,lZ_,lS_,i64_w,i32_w]
                 rfl
                refine pure_ (i:=51) (N:=some 110) (v:=undef) (a':=?_) bA52_ rfl rfl (any_of HT_.out (by kernel_rfl)) (fun _ _ _ h=>h) (Or.inr ⟨by rfl,rfl⟩) ?_ ?_
                rotate_left
                ·simp only [Act.put,lA_,lZ_,lS_,i64_w,i32_w]
                 rfl
                refine pure_ (i:=52) (N:=some 111) (v:=undef) (a':=?_) bA53_ rfl rfl (any_of HT_.out (by kernel_rfl)) (fun _ _ _ h=>h) (Or.inr ⟨by rfl,rfl⟩) ?_ ?_
                rotate_left
                ·simp only [Act.put,lA_,lZ_,lS_,i64_w,i32_w]
                 rfl
                refine pure_ (i:=53) (N:=some 112) (v:=undef) (a':=?_) bA54_ rfl rfl (any_of HT_.out (by kernel_rfl)) (fun _ _ _ h=>h) (Or.inr ⟨by rfl,rfl⟩) ?_ ?_
                rotate_left
                ·simp only [Act.put,lA_,lZ_,lS_,i64_w,i32_w]
                 rfl
                refine pure_ (i:=54) (N:=some 113) (v:=undef) (a':=?_) bA55_ rfl rfl (any_of HT_.out (by kernel_rfl)) (fun _ _ _ h=>h) (Or.inr ⟨by rfl,rfl⟩) ?_ ?_
                rotate_left
                ·simp only [Act.put,lA_,lZ_,lS_,i64_w,i32_w]
                 rfl
                refine pure_ (i:=55) (N:=some 114) (v:=undef) (a':=?_) bA56_ rfl rfl (any_of HT_.out (by kernel_rfl)) (fun _ _ _ h=>h) (Or.inr ⟨by rfl,rfl⟩) ?_ ?_
                rotate_left
                ·simp only [Act.put,lA_,lZ_,lS_,i64_w,i32_w]
                 rfl
                refine pure_ (i:=56) (N:=some 115) (v:=undef) (a':=?_) bA57_ rfl rfl (any_of HT_.out (by kernel_rfl)) (fun _ _ _ h=>h) (Or.inr ⟨by rfl,rfl⟩) ?_ ?_
                rotate_left
                ·simp only [Act.put,lA_,lZ_,lS_,i64_w,i32_w]
                 rfl
                refine pure_ (i:=57) (N:=some 116) (v:=undef) (a':=?_) bA58_ rfl rfl (any_of HT_.out (by kernel_rfl)) (fun _ _ _ h=>h) (Or.inr ⟨by rfl,rfl⟩) ?_ ?_
                rotate_left
                ·simp only [Act.put,lA_,lZ_,lS_,i64_w,i32_w]
                 rfl
                refine pure_ (i:=58) (N:=some 117) (v:=undef) (a':=?_) bA59_ rfl rfl (any_of HT_.out (by kernel_rfl)) (fun _ _ _ h=>h) (Or.inr ⟨by rfl,rfl⟩) ?_ ?_
                rotate_left
                ·simp only [Act.put,lA_,lZ_,lS_,i64_w,i32_w]
                 rfl
                refine pure_ (i:=59) (N:=some 118) (v:=undef) (a':=?_) bA60_ rfl rfl (any_of HT_.out (by kernel_rfl)) (fun _ _ _ h=>h) (Or.inr ⟨by rfl,rfl⟩) ?_ ?_
                rotate_left
                ·simp only [Act.put,lA_,lZ_,lS_,i64_w,i32_w]
                 rfl
                refine pure_ (i:=60) (N:=some 119) (v:=undef) (a':=?_) bA61_ rfl rfl (any_of HT_.out (by kernel_rfl)) (fun _ _ _ h=>h) (Or.inr ⟨by rfl,rfl⟩) ?_ ?_
                rotate_left
                ·simp only [Act.put,lA_,lZ_,lS_,i64_w,i32_w]
                 rfl
                refine pure_ (i:=61) (N:=some 120) (v:=undef) (a':=?_) bA62_ rfl rfl (any_of HT_.out (by kernel_rfl)) (fun _ _ _ h=>h) (Or.inr ⟨by rfl,rfl⟩) ?_ ?_
                rotate_left
                ·simp only [Act.put,lA_,lZ_,lS_,i64_w,i32_w]
                 rfl
                refine pure_ (i:=62) (N:=some 121) (v:=undef) (a':=?_) bA63_ rfl rfl (any_of HT_.out (by kernel_rfl)) (fun _ _ _ h=>h) (Or.inr ⟨by rfl,rfl⟩) ?_ ?_
                rotate_left
                ·simp only [Act.put,lA_,lZ_,lS_,i64_w,i32_w]
                 rfl
                refine pure_ (i:=63) (N:=some 122) (v:=undef) (a':=?_) bA64_ rfl rfl (any_of HT_.out (by kernel_rfl)) (fun _ _ _ h=>h) (Or.inr ⟨by rfl,rfl⟩) ?_ ?_
                rotate_left
                ·simp only [Act.put,lA_,lZ_,lS_,i64_w,i32_w]
                 rfl
                refine pure_ (i:=64) (N:=some 123) (v:=undef) (a':=?_) bA65_ rfl rfl (any_of HT_.out (by kernel_rfl)) (fun _ _ _ h=>h) (Or.inr ⟨by rfl,rfl⟩) ?_ ?_
                rotate_left
                ·simp only [Act.put,lA_,lZ_,lS_,i64_w,i32_w]
                 rfl
                refine pure_ (i:=65) (N:=some 124) (v:=undef) (a':=?_) bA66_ rfl rfl (any_of HT_.out (by kernel_rfl)) (fun _ _ _ h=>h) (Or.inr ⟨by rfl,rfl⟩) ?_ ?_
                rotate_left
                ·simp only [Act.put,lA_,lZ_,lS_,i64_w,i32_w]
                 rfl
                refine pure_ (i:=66) (N:=some 125) (v:=undef) (a':=?_) bA67_ rfl rfl (any_of HT_.out (by kernel_rfl)) (fun _ _ _ h=>h) (Or.inr ⟨by rfl,rfl⟩) ?_ ?_
                rotate_left
                ·simp only [Act.put,lA_,lZ_,lS_,i64_w,i32_w]
                 rfl
                refine pure_ (i:=67) (N:=some 126) (v:=undef) (a':=?_) bA68_ rfl rfl (any_of HT_.out (by kernel_rfl)) (fun _ _ _ h=>h) (Or.inr ⟨by rfl,rfl⟩) ?_ ?_
                rotate_left
                ·simp only [Act.put,lA_,lZ_,lS_,i64_w,i32_w]
                 rfl
                refine pure_ (i:=68) (N:=some 127) (v:=undef) (a':=?_) bA69_ rfl rfl (any_of HT_.out (by kernel_rfl)) (fun _ _ _ h=>h) (Or.inr ⟨by rfl,rfl⟩) ?_ ?_
                rotate_left
                ·simp only [Act.put,lA_,lZ_,lS_,i64_w,i32_w]
                 rfl
                refine pure_ (i:=69) (N:=some 128) (v:=undef) (a':=?_) bA70_ rfl rfl (any_of HT_.out (by kernel_rfl)) (fun _ _ _ h=>h) (Or.inr ⟨by rfl,rfl⟩) ?_ ?_
                rotate_left
                ·simp only [Act.put,lA_,lZ_,lS_,i64_w,i32_w]
                 rfl
                refine pure_ (i:=70) (N:=some 129) (v:=?_) (a':=?_) bA71_ rfl rfl (any_of HT_.out (by kernel_rfl)) (fun _ _ _ h=>h) (Or.inl ⟨by rfl,?_⟩) ?_ ?_
                rotate_left
                ·intro w'
                 go_simp
                 with_reducible rfl
                rotate_left
                ·simp only [Act.put,lA_,lZ_,lS_,i64_w,i32_w]
                 rfl
                refine done_ (done_of HT_.out (by kernel_rfl)) ?_
                try go_wp2
                first|go_meet|((simp only [← hji40]);go_meet)
                case rel=>exact ⟨_,(true),(by first|rfl|(simp;done)|(simp [*];done)),(by first|exact H'|((simp only [hji40]);exact H')|(have h_:=H'.out;simp only [← hji40] at h_ ⊢;exact ⟨h_⟩)),⟨by have:=HJ16.out;have:=HK2.out;first|omega|exact Nat.le_refl _⟩,⟨by (with_reducible repeat (first|apply Kd.V_alloc|apply Kd.V_drewN|apply Kd.V_drew));exact HO_0.out⟩,⟨by (with_reducible repeat (first|apply Kd.R_alloc|apply Kd.R_drewN|apply Kd.R_drew));exact HO_3.out⟩,⟨by (with_reducible repeat (first|apply Kd.R_alloc|apply Kd.R_drewN|apply Kd.R_drew));exact HO_5.out⟩,⟨by repeat (first|(with_reducible first|exact HB.out|apply below_alloc|apply pw_below_drewN|apply below_drew1)|exact HB.out)⟩⟩
               ·rw [if_neg c45] at H
                have c45b0 : decide ((l0.length : Int) ≤ (rd t138 (ji40))) = false:=decide_eq_false c45
                clear c45
                by_cases c47 : 0 ≤ (rd t138 (ji40))
                ·rw [if_pos c47] at H
                 have c47b0:=eq_true c47
                 have c47b1 : decide (0 ≤ (rd t138 (ji40))) = true:=decide_eq_true c47
                 clear c47
                 by_cases c48 : (rd t138 (ji40)) ≤ (l0.length : Int)
                 ·rw [if_pos c48] at H
                  have c48b0:=eq_true c48
                  have c48b1 : decide ((rd t138 (ji40)) ≤ (l0.length : Int)) = true:=decide_eq_true c48
                  clear c48
                  obtain ⟨y155,hy155⟩ : ∃ y_ : List Int,y_ = (l0.drop ((rd t138 (ji40)) : Int).toNat):=⟨_,rfl⟩
                  replace H : (if 0 ≤ (rd t138 x7_2) then (if (rd t138 x7_2) ≤ (l0.length : Int) then ((coppicerref_Less.f k2 y155 (l0.drop ((rd t138 x7_2) : Int).toNat)).bind fun t166=>(if t166 = true then ((coppicerref_Alike.f k2 (l0.drop ((rd t138 (ji40)) : Int).toNat) (l0.drop ((rd t138 x7_2) : Int).toNat)).bind fun t179=>(if (ji40) < (t142.length : Int) then (coppicerkeep_EndsRise.j2 k2 l0 t138 t142 x7_2 (t179 != (rd t142 (ji40)))) else (none))) else (coppicerkeep_EndsRise.j2 k2 l0 t138 t142 x7_2 true))) else (none)) else (none)) = some r:=by first|(rw [hy155];with_reducible exact H)|(have H2_:=(Option.bind_some _ _).symm.trans H;rw [hy155];with_reducible exact H2_)|(have H2_:=(Option.bind_some _ _).symm.trans H;with_reducible exact H2_)|with_reducible exact H|(rw [hy155];exact H)|exact H
                  have Ny155:=Aside0.mk hy155
                  clear hy155
                  by_cases c49 : 0 ≤ (rd t138 x7_2)
                  ·rw [if_pos c49] at H
                   have c49b0:=eq_true c49
                   have c49b1 : decide (0 ≤ (rd t138 x7_2)) = true:=decide_eq_true c49
                   clear c49
                   by_cases c50 : (rd t138 x7_2) ≤ (l0.length : Int)
                   ·rw [if_pos c50] at H
                    have c50b0:=eq_true c50
                    have c50b1 : decide ((rd t138 x7_2) ≤ (l0.length : Int)) = true:=decide_eq_true c50
                    clear c50
                    obtain ⟨y161,hy161⟩ : ∃ y_ : List Int,y_ = (l0.drop ((rd t138 x7_2) : Int).toNat):=⟨_,rfl⟩
                    replace H : ((coppicerref_Less.f k2 y155 y161).bind fun t166=>(if t166 = true then ((coppicerref_Alike.f k2 (l0.drop ((rd t138 (ji40)) : Int).toNat) (l0.drop ((rd t138 x7_2) : Int).toNat)).bind fun t179=>(if (ji40) < (t142.length : Int) then (coppicerkeep_EndsRise.j2 k2 l0 t138 t142 x7_2 (t179 != (rd t142 (ji40)))) else (none))) else (coppicerkeep_EndsRise.j2 k2 l0 t138 t142 x7_2 true))) = some r:=by first|(rw [hy161];with_reducible exact H)|(have H2_:=(Option.bind_some _ _).symm.trans H;rw [hy161];with_reducible exact H2_)|(have H2_:=(Option.bind_some _ _).symm.trans H;with_reducible exact H2_)|with_reducible exact H|(rw [hy161];exact H)|exact H
                    have Ny161:=Aside0.mk hy161
                    clear hy161
                    replace H:=Option.bind_eq_some_iff.mp H
                    obtain ⟨t166,A510,H⟩:=H
                    replace H : (if t166 = true then ((coppicerref_Alike.f k2 (l0.drop ((rd t138 (ji40)) : Int).toNat) (l0.drop ((rd t138 x7_2) : Int).toNat)).bind fun t179=>(if (ji40) < (t142.length : Int) then (coppicerkeep_EndsRise.j2 k2 l0 t138 t142 x7_2 (t179 != (rd t142 (ji40)))) else (none))) else (coppicerkeep_EndsRise.j2 k2 l0 t138 t142 x7_2 true)) = some r:=H
                    have A51:=Aside0.mk A510
                    clear A510
                    by_cases c52 : t166 = true
                    ·subst c52
                     have H1 : ((coppicerref_Alike.f k2 (l0.drop ((rd t138 (ji40)) : Int).toNat) (l0.drop ((rd t138 x7_2) : Int).toNat)).bind fun t179=>(if (ji40) < (t142.length : Int) then (coppicerkeep_EndsRise.j2 k2 l0 t138 t142 x7_2 (t179 != (rd t142 (ji40)))) else (none))) = some r:=by rw [if_pos rfl] at H;exact H
                     clear H
                     have H:=H1
                     clear H1
                     have c53b0:=eq_true (of_decide_eq_true (by first|(with_reducible assumption)|assumption) : 0 ≤ (rd t138 (ji40)))
                     have c54b0:=eq_true (of_decide_eq_true (by first|(with_reducible assumption)|assumption) : (rd t138 (ji40)) ≤ (l0.length : Int))
                     obtain ⟨y168,hy168⟩ : ∃ y_ : List Int,y_ = (l0.drop ((rd t138 (ji40)) : Int).toNat):=⟨_,rfl⟩
                     replace H : ((coppicerref_Alike.f k2 y168 (l0.drop ((rd t138 x7_2) : Int).toNat)).bind fun t179=>(if (ji40) < (t142.length : Int) then (coppicerkeep_EndsRise.j2 k2 l0 t138 t142 x7_2 (t179 != (rd t142 (ji40)))) else (none))) = some r:=by first|(rw [hy168];with_reducible exact H)|(have H2_:=(Option.bind_some _ _).symm.trans H;rw [hy168];with_reducible exact H2_)|(have H2_:=(Option.bind_some _ _).symm.trans H;with_reducible exact H2_)|with_reducible exact H|(rw [hy168];exact H)|exact H
                     have Ny168:=Aside0.mk hy168
                     clear hy168
                     have c55b0:=eq_true (of_decide_eq_true (by first|(with_reducible assumption)|assumption) : 0 ≤ (rd t138 x7_2))
                     have c56b0:=eq_true (of_decide_eq_true (by first|(with_reducible assumption)|assumption) : (rd t138 x7_2) ≤ (l0.length : Int))
                     obtain ⟨y174,hy174⟩ : ∃ y_ : List Int,y_ = (l0.drop ((rd t138 x7_2) : Int).toNat):=⟨_,rfl⟩
                     replace H : ((coppicerref_Alike.f k2 y168 y174).bind fun t179=>(if (ji40) < (t142.length : Int) then (coppicerkeep_EndsRise.j2 k2 l0 t138 t142 x7_2 (t179 != (rd t142 (ji40)))) else (none))) = some r:=by first|(rw [hy174];with_reducible exact H)|(have H2_:=(Option.bind_some _ _).symm.trans H;rw [hy174];with_reducible exact H2_)|(have H2_:=(Option.bind_some _ _).symm.trans H;with_reducible exact H2_)|with_reducible exact H|(rw [hy174];exact H)|exact H
                     have Ny174:=Aside0.mk hy174
                     clear hy174
                     replace H:=Option.bind_eq_some_iff.mp H
                     obtain ⟨t179,A570,H⟩:=H
                     replace H : (if (ji40) < (t142.length : Int) then (coppicerkeep_EndsRise.j2 k2 l0 t138 t142 x7_2 (t179 != (rd t142 (ji40)))) else (none)) = some r:=H
                     have A57:=Aside0.mk A570
                     clear A570
                     by_cases c58 : (ji40) < (t142.length : Int)
                     ·rw [if_pos c58] at H
                      have c58b0 : decide ((ji40) < (t142.length : Int)) = true:=decide_eq_true c58
                      clear c58
                      have H':=Aside0.mk H
                      clear H
                      try go_wp2
                      have n0_:=Aside0.mk (Kd.V_drew HO_0.out)
                      have n1_:=Aside0.mk (Kd.R_drew HO_3.out)
                      have n2_:=Aside0.mk (Kd.R_drew HO_5.out)
                      have n3_:=Aside0.mk (below_drew1 HB.out)
                      clear HO_0
                      clear HO_3
                      clear HO_5
                      clear HB
                      have HO_0:=n0_
                      have HO_3:=n1_
                      have HO_5:=n2_
                      have HB:=n3_
                      clear n0_ n1_ n2_ n3_
                      have p150 : 0 ≤ (x7_2 : Int):=of_decide_eq_true (by first|(with_reducible assumption)|assumption)
                      have q150 : x7_2 < (t138.length : Int):=of_decide_eq_true (by first|(with_reducible assumption)|assumption)
                      obtain ⟨ad150,e150,hx150_0⟩:=Kd.at_int (Kd.R_reads' HO_3.out).2.2 x7_2 p150 q150
                      cases e150
                      replace p150:=eq_true p150
                      replace q150:=eq_true q150
                      have p151 : 0 ≤ (x7_2 : Int):=of_decide_eq_true (by first|(with_reducible assumption)|assumption)
                      have q151 : x7_2 < (t138.length : Int):=of_decide_eq_true (by first|(with_reducible assumption)|assumption)
                      obtain ⟨ad151,e151,hx151_0⟩:=Kd.at_int (Kd.R_reads' HO_3.out).2.2 x7_2 p151 q151
                      obtain rfl : ad150 = ad151:=(by injection e151)
                      replace p151:=eq_true p151
                      replace q151:=eq_true q151
                      have p152 : 0 ≤ ((ji40) : Int):=of_decide_eq_true (by first|(with_reducible assumption)|assumption)
                      have q152 : (ji40) < (t138.length : Int):=of_decide_eq_true (by first|(with_reducible assumption)|assumption)
                      obtain ⟨ad152,e152,hx152_0⟩:=Kd.at_int (Kd.R_reads' HO_3.out).2.2 (ji40) p152 q152
                      obtain rfl : ad150 = ad152:=(by injection e152)
                      replace p152:=eq_true p152
                      replace q152:=eq_true q152
                      have p153 : 0 ≤ ((ji40) : Int):=of_decide_eq_true (by first|(with_reducible assumption)|assumption)
                      have q153 : (ji40) < (t138.length : Int):=of_decide_eq_true (by first|(with_reducible assumption)|assumption)
                      obtain ⟨ad153,e153,hx153_0⟩:=Kd.at_int (Kd.R_reads' HO_3.out).2.2 (ji40) p153 q153
                      obtain rfl : ad150 = ad153:=(by injection e153)
                      replace p153:=eq_true p153
                      replace q153:=eq_true q153
                      have p154 : 0 ≤ ((ji40) : Int):=of_decide_eq_true (by first|(with_reducible assumption)|assumption)
                      have q154 : (ji40) < (t138.length : Int):=of_decide_eq_true (by first|(with_reducible assumption)|assumption)
                      obtain ⟨ad154,e154,hx154_0⟩:=Kd.at_int (Kd.R_reads' HO_3.out).2.2 (ji40) p154 q154
                      obtain rfl : ad150 = ad154:=(by injection e154)
                      replace p154:=eq_true p154
                      replace q154:=eq_true q154
                      have q60 : ((rd t138 (ji40)) : Int) ≤ ((l0.length : Int) : Int):=of_decide_eq_true (by first|(with_reducible assumption)|assumption)
                      obtain ⟨i060,hi060,_,hsz60,_⟩:=info_parts info5
                      have hroom60 : l0.length ≤ c0:=(Kd.V_reads' HO_0.out).2.1
                      have hC60 : Kd.F (Kd.int .u8) _ _ A0 l0.length l0:=(Kd.V_at (base:=w.heap.size) HO_0.out).2.2
                      have q060 : (0 : Int) ≤ ((rd t138 (ji40)) : Int):=of_decide_eq_true (by first|(with_reducible assumption)|assumption)
                      have hcut60:=cut_from (P:=Try.prog) 31 5 .i64 Try.underlying31 hi060 1 hsz60 A0 l0.length c0 (rd t138 (ji40)) q060 q60
                      have hr60:=Kd.F_cut (m:=((rd t138 (ji40)) : Int).toNat) (c:=c0) hC60 (by omega) hroom60
                      obtain ⟨A60,hA60⟩ : ∃ A1,A1 = (if c0 = ((rd t138 (ji40)) : Int).toNat then A0 else (A0 : Option Addr).map (·.add (((rd t138 (ji40)) : Int).toNat * 1))):=⟨_,rfl⟩
                      obtain ⟨c60,hc60⟩ : ∃ cc_,cc_ = c0 - ((rd t138 (ji40)) : Int).toNat:=⟨_,rfl⟩
                      have hy60 : y155.length = l0.length - ((rd t138 (ji40)) : Int).toNat:=(by rw [Ny155.out,List.length_drop] <;> omega)
                      rw [show (l0).drop ((rd t138 (ji40)) : Int).toNat = y155 from Ny155.out.symm] at hr60
                      replace hr60 : Kd.F (Kd.int .u8) _ _ A60 y155.length y155:=(by rw [hA60];exact hr60)
                      rw [← hy60,← hA60,← hc60] at hcut60
                      have HO159:=Aside0.mk (show Kd.V (Kd.int .u8) 5 _ w.heap.size _ (.slice A60 y155.length c60) y155 from Kd.V_mk (by rw [hy60,hc60];exact Nat.sub_le_sub_right hroom60 _) hr60)
                      have HC159:=Aside0.mk (show y155.length ≤ c60 from by rw [hy60,hc60];exact Nat.sub_le_sub_right hroom60 _)
                      clear hr60 hC60 hroom60 hi060 hsz60 hc60
                      have KY60:=Aside0.mk hy60
                      have KA60:=Aside0.mk hA60
                      clear hy60 hA60
                      replace q60:=eq_true q60
                      have p160 : 0 ≤ (x7_2 : Int):=of_decide_eq_true (by first|(with_reducible assumption)|assumption)
                      have q160 : x7_2 < (t138.length : Int):=of_decide_eq_true (by first|(with_reducible assumption)|assumption)
                      obtain ⟨ad160,e160,hx160_0⟩:=Kd.at_int (Kd.R_reads' HO_3.out).2.2 x7_2 p160 q160
                      obtain rfl : ad150 = ad160:=(by injection e160)
                      replace p160:=eq_true p160
                      replace q160:=eq_true q160
                      have q61 : ((rd t138 x7_2) : Int) ≤ ((l0.length : Int) : Int):=of_decide_eq_true (by first|(with_reducible assumption)|assumption)
                      obtain ⟨i061,hi061,_,hsz61,_⟩:=info_parts info5
                      have hroom61 : l0.length ≤ c0:=(Kd.V_reads' HO_0.out).2.1
                      have hC61 : Kd.F (Kd.int .u8) _ _ A0 l0.length l0:=(Kd.V_at (base:=w.heap.size) HO_0.out).2.2
                      have q061 : (0 : Int) ≤ ((rd t138 x7_2) : Int):=of_decide_eq_true (by first|(with_reducible assumption)|assumption)
                      have hcut61:=cut_from (P:=Try.prog) 31 5 .i64 Try.underlying31 hi061 1 hsz61 A0 l0.length c0 (rd t138 x7_2) q061 q61
                      have hr61:=Kd.F_cut (m:=((rd t138 x7_2) : Int).toNat) (c:=c0) hC61 (by omega) hroom61
                      obtain ⟨A61,hA61⟩ : ∃ A1,A1 = (if c0 = ((rd t138 x7_2) : Int).toNat then A0 else (A0 : Option Addr).map (·.add (((rd t138 x7_2) : Int).toNat * 1))):=⟨_,rfl⟩
                      obtain ⟨c61,hc61⟩ : ∃ cc_,cc_ = c0 - ((rd t138 x7_2) : Int).toNat:=⟨_,rfl⟩
                      have hy61 : y161.length = l0.length - ((rd t138 x7_2) : Int).toNat:=(by rw [Ny161.out,List.length_drop] <;> omega)
                      rw [show (l0).drop ((rd t138 x7_2) : Int).toNat = y161 from Ny161.out.symm] at hr61
                      replace hr61 : Kd.F (Kd.int .u8) _ _ A61 y161.length y161:=(by rw [hA61];exact hr61)
                      rw [← hy61,← hA61,← hc61] at hcut61
                      have HO165:=Aside0.mk (show Kd.V (Kd.int .u8) 5 _ w.heap.size _ (.slice A61 y161.length c61) y161 from Kd.V_mk (by rw [hy61,hc61];exact Nat.sub_le_sub_right hroom61 _) hr61)
                      have HC165:=Aside0.mk (show y161.length ≤ c61 from by rw [hy61,hc61];exact Nat.sub_le_sub_right hroom61 _)
                      clear hr61 hC61 hroom61 hi061 hsz61 hc61
                      have KY61:=Aside0.mk hy61
                      have KA61:=Aside0.mk hA61
                      clear hy61 hA61
                      replace q61:=eq_true q61
                      have p167 : 0 ≤ ((ji40) : Int):=of_decide_eq_true (by first|(with_reducible assumption)|assumption)
                      have q167 : (ji40) < (t138.length : Int):=of_decide_eq_true (by first|(with_reducible assumption)|assumption)
                      obtain ⟨ad167,e167,hx167_0⟩:=Kd.at_int (Kd.R_reads' HO_3.out).2.2 (ji40) p167 q167
                      obtain rfl : ad150 = ad167:=(by injection e167)
                      replace p167:=eq_true p167
                      replace q167:=eq_true q167
                      have p173 : 0 ≤ (x7_2 : Int):=of_decide_eq_true (by first|(with_reducible assumption)|assumption)
                      have q173 : x7_2 < (t138.length : Int):=of_decide_eq_true (by first|(with_reducible assumption)|assumption)
                      obtain ⟨ad173,e173,hx173_0⟩:=Kd.at_int (Kd.R_reads' HO_3.out).2.2 x7_2 p173 q173
                      obtain rfl : ad150 = ad173:=(by injection e173)
                      replace p173:=eq_true p173
                      replace q173:=eq_true q173
                      obtain ⟨A180_,co64,eo64⟩:=Kd.R_slice HO_5.out
                      subst eo64
                      have p180 : 0 ≤ ((ji40) : Int):=of_decide_eq_true (by first|(with_reducible assumption)|assumption)
                      have q180 : (ji40) < (t142.length : Int):=of_decide_eq_true (by first|(with_reducible assumption)|assumption)
                      obtain ⟨ad180,e180,hx180_0⟩:=Kd.at_int (Kd.R_reads' HO_5.out).2.2 (ji40) p180 q180
                      cases e180
                      replace p180:=eq_true p180
                      replace q180:=eq_true q180
                      refine start_ (n:=71) (S:=fun w'=>w'.cell? (ad150.add (x7_2).toNat) = some (.int .i64 (rd t138 x7_2)) ∧ w'.cell? (ad150.add (x7_2).toNat) = some (.int .i64 (rd t138 x7_2)) ∧ w'.cell? (ad150.add ((ji40)).toNat) = some (.int .i64 (rd t138 (ji40))) ∧ w'.cell? (ad150.add ((ji40)).toNat) = some (.int .i64 (rd t138 (ji40))) ∧ w'.cell? (ad150.add ((ji40)).toNat) = some (.int .i64 (rd t138 (ji40))) ∧ w'.cell? (ad150.add (x7_2).toNat) = some (.int .i64 (rd t138 x7_2)) ∧ w'.cell? (ad150.add ((ji40)).toNat) = some (.int .i64 (rd t138 (ji40))) ∧ w'.cell? (ad150.add (x7_2).toNat) = some (.int .i64 (rd t138 x7_2)) ∧ w'.cell? (ad180.add ((ji40)).toNat) = some (.int .i64 (rd t142 (ji40)))) (ds:=[]) bA0_ (by kernel_rfl) rfl rfl ⟨hx150_0,hx151_0,hx152_0,hx153_0,hx154_0,hx160_0,hx167_0,hx173_0,hx180_0⟩ (fun hHeld=>?_);refine with_tabW coppicerkeep_EndsRise.tab10 coppicerkeep_EndsRise.bits10 (fun HT_ HW_=>?_)
                      generalize wr.drew = w59 at HO_0 HO_3 HO_5 HB HO159 HO165 hx150_0 hx151_0 hx152_0 hx153_0 hx154_0 hx160_0 hx167_0 hx173_0 hx180_0 hHeld ⊢
                      refine pure_ (i:=0) (N:=some 59) (v:=?_) (a':=?_) bA1_ rfl rfl (any_of HT_.out (by kernel_rfl)) (fun _ _ _ h=>h) (Or.inl ⟨by rfl,?_⟩) ?_ ?_
                      rotate_left
                      ·intro w'
                       go_simp
                       with_reducible rfl
                      rotate_left
                      ·simp only [Act.put,lA_,lZ_,lS_,i64_w,i32_w]
                       rfl
                      refine pure_ (i:=1) (N:=some 60) (v:=?_) (a':=?_) bA2_ rfl rfl (any_of HT_.out (by kernel_rfl)) (fun _ _ _ h=>h) (Or.inl ⟨by rfl,?_⟩) ?_ ?_
                      rotate_left
                      ·intro w'
                       go_simp
                       with_reducible rfl
                      rotate_left
                      ·simp only [Act.put,lA_,lZ_,lS_,i64_w,i32_w]
                       rfl
                      refine pure_ (i:=2) (N:=some 61) (v:=?_) (a':=?_) bA3_ rfl rfl (any_of HT_.out (by kernel_rfl)) (fun _ _ _ h=>h) (Or.inl ⟨by rfl,?_⟩) ?_ ?_
                      rotate_left
                      ·intro w'
                       go_simp
                       with_reducible rfl
                      rotate_left
                      ·simp only [Act.put,lA_,lZ_,lS_,i64_w,i32_w]
                       rfl
                      refine take_ (i:=3) (N:=some 62) (v:=?_) (a':=?_) bA4_ rfl rfl (take_ofW HT_.out HW_.out (by kernel_rfl)) (fun _ _ _ h=>h) (Or.inl ⟨by rfl,?_⟩) hHeld ?_ ?_
                      rotate_left
                      ·rintro w' ⟨s0,s1,s2,s3,s4,s5,s6,s7,s8⟩
                       go_simp
                       with_reducible rfl
                      rotate_left
                      ·simp only [Act.put,lA_,lZ_,lS_,i64_w,i32_w]
                       rfl
                      refine pure_ (i:=4) (N:=some 63) (v:=?_) (a':=?_) bA5_ rfl rfl (any_of HT_.out (by kernel_rfl)) (fun _ _ _ h=>h) (Or.inl ⟨by rfl,?_⟩) ?_ ?_
                      rotate_left
                      ·intro w'
                       go_simp
                       with_reducible rfl
                      rotate_left
                      ·simp only [Act.put,lA_,lZ_,lS_,i64_w,i32_w]
                       rfl
                      refine pure_ (i:=5) (N:=some 64) (v:=?_) (a':=?_) bA6_ rfl rfl (any_of HT_.out (by kernel_rfl)) (fun _ _ _ h=>h) (Or.inl ⟨by rfl,?_⟩) ?_ ?_
                      rotate_left
                      ·intro w'
                       go_simp
                       with_reducible rfl
                      rotate_left
                      ·simp only [Act.put,lA_,lZ_,lS_,i64_w,i32_w]
                       rfl
                      refine pure_ (i:=6) (N:=some 65) (v:=?_) (a':=?_) bA7_ rfl rfl (any_of HT_.out (by kernel_rfl)) (fun _ _ _ h=>h) (Or.inl ⟨by rfl,?_⟩) ?_ ?_
                      rotate_left
                      ·intro w'
                       go_simp
                       with_reducible rfl
                      rotate_left
                      ·simp only [Act.put,lA_,lZ_,lS_,i64_w,i32_w]
                       rfl
                      refine pure_ (i:=7) (N:=some 66) (v:=?_) (a':=?_) bA8_ rfl rfl (any_of HT_.out (by kernel_rfl)) (fun _ _ _ h=>h) (Or.inl ⟨by rfl,?_⟩) ?_ ?_
                      rotate_left
                      ·intro w'
                       go_simp
                       with_reducible rfl
                      rotate_left
                      ·simp only [Act.put,lA_,lZ_,lS_,i64_w,i32_w]
                       rfl
                      refine pure_ (i:=8) (N:=some 67) (v:=?_) (a':=?_) bA9_ rfl rfl (any_of HT_.out (by kernel_rfl)) (fun _ _ _ h=>h) (Or.inl ⟨by rfl,?_⟩) ?_ ?_
                      rotate_left
                      ·intro w'
                       go_simp
                       with_reducible rfl
                      rotate_left
                      ·simp only [Act.put,lA_,lZ_,lS_,i64_w,i32_w]
                       rfl
                      refine pure_ (i:=10) (N:=some 69) (v:=?_) (a':=?_) bA72_ rfl rfl (any_of HT_.out (by kernel_rfl)) (fun _ _ _ h=>h) (Or.inl ⟨by rfl,?_⟩) ?_ ?_
                      rotate_left
                      ·intro w'
                       go_simp
                       with_reducible rfl
                      rotate_left
                      ·simp only [Act.put,lA_,lZ_,lS_,i64_w,i32_w]
                       rfl
                      refine pure_ (i:=11) (N:=some 70) (v:=?_) (a':=?_) bA73_ rfl rfl (any_of HT_.out (by kernel_rfl)) (fun _ _ _ h=>h) (Or.inl ⟨by rfl,?_⟩) ?_ ?_
                      rotate_left
                      ·intro w'
                       go_simp
                       with_reducible rfl
                      rotate_left
                      ·simp only [Act.put,lA_,lZ_,lS_,i64_w,i32_w]
                       rfl
                      refine take_ (i:=9) (N:=some 68) (v:=?_) (a':=?_) bA12_ rfl rfl (take_ofW HT_.out HW_.out (by kernel_rfl)) (fun _ _ _ h=>h) (Or.inl ⟨by rfl,?_⟩) hHeld ?_ ?_
                      rotate_left
                      ·rintro w' ⟨s0,s1,s2,s3,s4,s5,s6,s7,s8⟩
                       go_simp
                       with_reducible rfl
                      rotate_left
                      ·simp only [Act.put,lA_,lZ_,lS_,i64_w,i32_w]
                       rfl
                      refine pure_ (i:=12) (N:=some 71) (v:=?_) (a':=?_) bA13_ rfl rfl (any_of HT_.out (by kernel_rfl)) (fun _ _ _ h=>h) (Or.inl ⟨by rfl,?_⟩) ?_ ?_
                      rotate_left
                      ·intro w'
                       go_simp
                       with_reducible rfl
                      rotate_left
                      ·simp only [Act.put,lA_,lZ_,lS_,i64_w,i32_w]
                       rfl
                      refine pure_ (i:=13) (N:=some 72) (v:=?_) (a':=?_) bA14_ rfl rfl (any_of HT_.out (by kernel_rfl)) (fun _ _ _ h=>h) (Or.inl ⟨by rfl,?_⟩) ?_ ?_
                      rotate_left
                      ·intro w'
                       go_simp
                       with_reducible rfl
                      rotate_left
                      ·simp only [Act.put,lA_,lZ_,lS_,i64_w,i32_w]
                       rfl
                      refine pure_ (i:=14) (N:=some 73) (v:=?_) (a':=?_) bA15_ rfl rfl (any_of HT_.out (by kernel_rfl)) (fun _ _ _ h=>h) (Or.inl ⟨by rfl,?_⟩) ?_ ?_
                      rotate_left
                      ·intro w'
                       go_simp
                       with_reducible rfl
                      rotate_left
                      ·simp only [Act.put,lA_,lZ_,lS_,i64_w,i32_w]
                       rfl
                      refine pure_ (i:=15) (N:=some 74) (v:=?_) (a':=?_) bA16_ rfl rfl (any_of HT_.out (by kernel_rfl)) (fun _ _ _ h=>h) (Or.inl ⟨by rfl,?_⟩) ?_ ?_
                      rotate_left
                      ·intro w'
                       go_simp
                       with_reducible rfl
                      rotate_left
                      ·simp only [Act.put,lA_,lZ_,lS_,i64_w,i32_w]
                       rfl
                      refine pure_ (i:=16) (N:=some 75) (v:=?_) (a':=?_) bA17_ rfl rfl (any_of HT_.out (by kernel_rfl)) (fun _ _ _ h=>h) (Or.inl ⟨by rfl,?_⟩) ?_ ?_
                      rotate_left
                      ·intro w'
                       go_simp
                       with_reducible rfl
                      rotate_left
                      ·simp only [Act.put,lA_,lZ_,lS_,i64_w,i32_w]
                       rfl
                      refine pure_ (i:=17) (N:=some 76) (v:=?_) (a':=?_) bA18_ rfl rfl (any_of HT_.out (by kernel_rfl)) (fun _ _ _ h=>h) (Or.inl ⟨by rfl,?_⟩) ?_ ?_
                      rotate_left
                      ·intro w'
                       go_simp
                       with_reducible rfl
                      rotate_left
                      ·simp only [Act.put,lA_,lZ_,lS_,i64_w,i32_w]
                       rfl
                      refine pure_ (i:=18) (N:=some 77) (v:=?_) (a':=?_) bA19_ rfl rfl (any_of HT_.out (by kernel_rfl)) (fun _ _ _ h=>h) (Or.inl ⟨by rfl,?_⟩) ?_ ?_
                      rotate_left
                      ·intro w'
                       go_simp
                       with_reducible rfl
                      rotate_left
                      ·simp only [Act.put,lA_,lZ_,lS_,i64_w,i32_w]
                       rfl
                      refine take_ (i:=19) (N:=some 78) (v:=?_) (a':=?_) bA20_ rfl rfl (take_ofW HT_.out HW_.out (by kernel_rfl)) (fun _ _ _ h=>h) (Or.inl ⟨by rfl,?_⟩) hHeld ?_ ?_
                      rotate_left
                      ·rintro w' ⟨s0,s1,s2,s3,s4,s5,s6,s7,s8⟩
                       go_simp
                       with_reducible rfl
                      rotate_left
                      ·simp only [Act.put,lA_,lZ_,lS_,i64_w,i32_w]
                       rfl
                      refine pure_ (i:=20) (N:=some 79) (v:=?_) (a':=?_) bA21_ rfl rfl (any_of HT_.out (by kernel_rfl)) (fun _ _ _ h=>h) (Or.inl ⟨by rfl,?_⟩) ?_ ?_
                      rotate_left
                      ·intro w'
                       go_simp
                       with_reducible rfl
                      rotate_left
                      ·simp only [Act.put,lA_,lZ_,lS_,i64_w,i32_w]
                       rfl
                      refine pure_ (i:=21) (N:=some 80) (v:=?_) (a':=?_) bA22_ rfl rfl (any_of HT_.out (by kernel_rfl)) (fun _ _ _ h=>h) (Or.inl ⟨by rfl,?_⟩) ?_ ?_
                      rotate_left
                      ·intro w'
                       go_simp
                       with_reducible rfl
                      rotate_left
                      ·simp only [Act.put,lA_,lZ_,lS_,i64_w,i32_w]
                       rfl
                      refine pure_ (i:=22) (N:=some 81) (v:=?_) (a':=?_) bA23_ rfl rfl (any_of HT_.out (by kernel_rfl)) (fun _ _ _ h=>h) (Or.inl ⟨by rfl,?_⟩) ?_ ?_
                      rotate_left
                      ·intro w'
                       go_simp
                       with_reducible rfl
                      rotate_left
                      ·simp only [Act.put,lA_,lZ_,lS_,i64_w,i32_w]
                       rfl
                      refine pure_ (i:=23) (N:=some 82) (v:=?_) (a':=?_) bA24_ rfl rfl (any_of HT_.out (by kernel_rfl)) (fun _ _ _ h=>h) (Or.inl ⟨by rfl,?_⟩) ?_ ?_
                      rotate_left
                      ·intro w'
                       go_simp
                       with_reducible rfl
                      rotate_left
                      ·simp only [Act.put,lA_,lZ_,lS_,i64_w,i32_w]
                       rfl
                      refine pure_ (i:=24) (N:=some 83) (v:=?_) (a':=?_) bA25_ rfl rfl (any_of HT_.out (by kernel_rfl)) (fun _ _ _ h=>h) (Or.inl ⟨by rfl,?_⟩) ?_ ?_
                      rotate_left
                      ·intro w'
                       go_simp
                       with_reducible rfl
                      rotate_left
                      ·simp only [Act.put,lA_,lZ_,lS_,i64_w,i32_w]
                       rfl
                      refine pure_ (i:=25) (N:=some 84) (v:=?_) (a':=?_) bA26_ rfl rfl (any_of HT_.out (by kernel_rfl)) (fun _ _ _ h=>h) (Or.inl ⟨by rfl,?_⟩) ?_ ?_
                      rotate_left
                      ·intro w'
                       go_simp
                       with_reducible rfl
                      rotate_left
                      ·simp only [Act.put,lA_,lZ_,lS_,i64_w,i32_w]
                       rfl
                      refine pure_ (i:=26) (N:=some 85) (v:=?_) (a':=?_) bA27_ rfl rfl (any_of HT_.out (by kernel_rfl)) (fun _ _ _ h=>h) (Or.inl ⟨by rfl,?_⟩) ?_ ?_
                      rotate_left
                      ·intro w'
                       go_simp
                       with_reducible rfl
                      rotate_left
                      ·simp only [Act.put,lA_,lZ_,lS_,i64_w,i32_w]
                       rfl
                      refine pure_ (i:=28) (N:=some 87) (v:=?_) (a':=?_) bA74_ rfl rfl (any_of HT_.out (by kernel_rfl)) (fun _ _ _ h=>h) (Or.inl ⟨by rfl,?_⟩) ?_ ?_
                      rotate_left
                      ·intro w'
                       go_simp
                       with_reducible rfl
                      rotate_left
                      ·simp only [Act.put,lA_,lZ_,lS_,i64_w,i32_w]
                       rfl
                      refine pure_ (i:=29) (N:=some 88) (v:=?_) (a':=?_) bA75_ rfl rfl (any_of HT_.out (by kernel_rfl)) (fun _ _ _ h=>h) (Or.inl ⟨by rfl,?_⟩) ?_ ?_
                      rotate_left
                      ·intro w'
                       go_simp
                       with_reducible rfl
                      rotate_left
                      ·simp only [Act.put,lA_,lZ_,lS_,i64_w,i32_w]
                       rfl
                      refine take_ (i:=27) (N:=some 86) (v:=?_) (a':=?_) bA30_ rfl rfl (take_ofW HT_.out HW_.out (by kernel_rfl)) (fun _ _ _ h=>h) (Or.inl ⟨by rfl,?_⟩) hHeld ?_ ?_
                      rotate_left
                      ·rintro w' ⟨s0,s1,s2,s3,s4,s5,s6,s7,s8⟩
                       go_simp
                       with_reducible rfl
                      rotate_left
                      ·simp only [Act.put,lA_,lZ_,lS_,i64_w,i32_w]
                       rfl
                      refine pure_ (i:=30) (N:=some 89) (v:=?_) (a':=?_) bA31_ rfl rfl (any_of HT_.out (by kernel_rfl)) (fun _ _ _ h=>h) (Or.inl ⟨by rfl,?_⟩) ?_ ?_
                      rotate_left
                      ·intro w'
                       go_simp
                       with_reducible rfl
                      rotate_left
                      ·simp only [Act.put,lA_,lZ_,lS_,i64_w,i32_w]
                       rfl
                      refine pure_ (i:=31) (N:=some 90) (v:=?_) (a':=?_) bA32_ rfl rfl (any_of HT_.out (by kernel_rfl)) (fun _ _ _ h=>h) (Or.inl ⟨by rfl,?_⟩) ?_ ?_
                      rotate_left
                      ·intro w'
                       go_simp
                       with_reducible rfl
                      rotate_left
                      ·simp only [Act.put,lA_,lZ_,lS_,i64_w,i32_w]
                       rfl
                      refine pure_ (i:=32) (N:=some 91) (v:=?_) (a':=?_) bA33_ rfl rfl (any_of HT_.out (by kernel_rfl)) (fun _ _ _ h=>h) (Or.inl ⟨by rfl,?_⟩) ?_ ?_
                      rotate_left
                      ·intro w'
                       go_simp
                       with_reducible rfl
                      rotate_left
                      ·simp only [Act.put,lA_,lZ_,lS_,i64_w,i32_w]
                       rfl
                      refine pure_ (i:=33) (N:=some 92) (v:=?_) (a':=?_) bA34_ rfl rfl (any_of HT_.out (by kernel_rfl)) (fun _ _ _ h=>h) (Or.inl ⟨by rfl,?_⟩) ?_ ?_
                      rotate_left
                      ·intro w'
                       go_simp
                       with_reducible rfl
                      rotate_left
                      ·simp only [Act.put,lA_,lZ_,lS_,i64_w,i32_w]
                       rfl
                      refine pure_ (i:=34) (N:=some 93) (v:=?_) (a':=?_) bA35_ rfl rfl (any_of HT_.out (by kernel_rfl)) (fun _ _ _ h=>h) (Or.inl ⟨by rfl,?_⟩) ?_ ?_
                      rotate_left
                      ·intro w'
                       go_simp
                       with_reducible rfl
                      rotate_left
                      ·simp only [Act.put,lA_,lZ_,lS_,i64_w,i32_w]
                       rfl
                      refine pure_ (i:=35) (N:=some 94) (v:=?_) (a':=?_) bA36_ rfl rfl (any_of HT_.out (by kernel_rfl)) (fun _ _ _ h=>h) (Or.inl ⟨by rfl,?_⟩) ?_ ?_
                      rotate_left
                      ·intro w'
                       go_simp
                       with_reducible rfl
                      rotate_left
                      ·simp only [Act.put,lA_,lZ_,lS_,i64_w,i32_w]
                       rfl
                      refine pure_ (i:=36) (N:=some 95) (v:=?_) (a':=?_) bA37_ rfl rfl (any_of HT_.out (by kernel_rfl)) (fun _ _ _ h=>h) (Or.inl ⟨by rfl,?_⟩) ?_ ?_
                      rotate_left
                      ·intro w'
                       go_simp
                       with_reducible rfl
                      rotate_left
                      ·simp only [Act.put,lA_,lZ_,lS_,i64_w,i32_w]
                       rfl
                      refine pure_ (i:=37) (N:=some 96) (v:=?_) (a':=?_) bA38_ rfl rfl (any_of HT_.out (by kernel_rfl)) (fun _ _ _ h=>h) (Or.inl ⟨by rfl,?_⟩) ?_ ?_
                      rotate_left
                      ·intro w'
                       go_simp
                       with_reducible rfl
                      rotate_left
                      ·simp only [Act.put,lA_,lZ_,lS_,i64_w,i32_w]
                       rfl
                      refine pure_ (i:=40) (N:=some 99) (v:=?_) (a':=?_) bA76_ rfl rfl (any_of HT_.out (by kernel_rfl)) (fun _ _ _ h=>h) (Or.inl ⟨by rfl,?_⟩) ?_ ?_
                      rotate_left
                      ·intro w'
                       go_simp
                       with_reducible rfl
                      rotate_left
                      ·simp only [Act.put,lA_,lZ_,lS_,i64_w,i32_w]
                       rfl
                      refine pure_ (i:=41) (N:=some 100) (v:=?_) (a':=?_) bA77_ rfl rfl (any_of HT_.out (by kernel_rfl)) (fun _ _ _ h=>h) (Or.inl ⟨by rfl,?_⟩) ?_ ?_
                      rotate_left
                      ·intro w'
                       go_simp
                       with_reducible rfl
                      rotate_left
                      ·simp only [Act.put,lA_,lZ_,lS_,i64_w,i32_w]
                       rfl
                      refine pure_ (i:=42) (N:=some 101) (v:=?_) (a':=?_) bA78_ rfl rfl (any_of HT_.out (by kernel_rfl)) (fun _ _ _ h=>h) (Or.inl ⟨by rfl,?_⟩) ?_ ?_
                      rotate_left
                      ·intro w'
                       go_simp
                       with_reducible rfl
                      rotate_left
                      ·simp only [Act.put,lA_,lZ_,lS_,i64_w,i32_w]
                       rfl
                      refine pure_ (i:=43) (N:=some 102) (v:=?_) (a':=?_) bA79_ rfl rfl (any_of HT_.out (by kernel_rfl)) (fun _ _ _ h=>h) (Or.inl ⟨by rfl,?_⟩) ?_ ?_
                      rotate_left
                      ·intro w'
                       go_simp
                       with_reducible rfl
                      rotate_left
                      ·simp only [Act.put,lA_,lZ_,lS_,i64_w,i32_w]
                       rfl
                      refine take_ (i:=38) (N:=some 97) (v:=?_) (a':=?_) bA80_ rfl rfl (take_ofW HT_.out HW_.out (by kernel_rfl)) (fun _ _ _ h=>h) (Or.inl ⟨by rfl,?_⟩) hHeld ?_ ?_
                      rotate_left
                      ·rintro w' ⟨s0,s1,s2,s3,s4,s5,s6,s7,s8⟩
                       go_simp
                       with_reducible rfl
                      rotate_left
                      ·simp only [Act.put,lA_,lZ_,lS_,i64_w,i32_w]
                       rfl
                      refine pure_ (i:=39) (N:=some 98) (v:=?_) (a':=?_) bA44_ rfl rfl (any_of HT_.out (by kernel_rfl)) (fun _ _ _ h=>h) (Or.inl ⟨by rfl,?_⟩) ?_ ?_
                      rotate_left
                      ·intro w'
                       go_simp
                       with_reducible rfl
                      rotate_left
                      ·simp only [Act.put,lA_,lZ_,lS_,i64_w,i32_w]
                       rfl
                      refine take_ (i:=44) (N:=some 103) (v:=?_) (a':=?_) bA45_ rfl rfl (take_ofW HT_.out HW_.out (by kernel_rfl)) (fun _ _ _ h=>h) (Or.inl ⟨by rfl,?_⟩) hHeld ?_ ?_
                      rotate_left
                      ·rintro w' ⟨s0,s1,s2,s3,s4,s5,s6,s7,s8⟩
                       go_simp
                       with_reducible rfl
                      rotate_left
                      ·simp only [Act.put,lA_,lZ_,lS_,i64_w,i32_w]
                       rfl
                      refine pure_ (i:=45) (N:=some 104) (v:=?_) (a':=?_) bA46_ rfl rfl (any_of HT_.out (by kernel_rfl)) (fun _ _ _ h=>h) (Or.inl ⟨by rfl,?_⟩) ?_ ?_
                      rotate_left
                      ·intro w'
                       go_simp
                       with_reducible rfl
                      rotate_left
                      ·simp only [Act.put,lA_,lZ_,lS_,i64_w,i32_w]
                       rfl
                      refine one_ (i:=46) (N:=some 105) bA47_ rfl rfl (one_of HT_.out (by kernel_rfl)) (by decide) (fun K hK=>?_)
                      refine goes_ Try.func49 (by kernel_rfl) rfl #[.slice A60 y155.length c60,.slice A61 y161.length c61] (by rfl) rfl rfl (by (try simp only [List.map_toArray,List.map_cons,List.map_nil]);first|done|rfl|(simp only [List.length_drop,List.length_take];rfl)) ?_
                      with_reducible refine (coppicerref_Less.calls k2 _ _ y155 _ _ y161 true _ ?side1 ?side2 ?side3 ?side4 A51.out).mono ?_
                      (case side1=>repeat (first|exact (Kd.V_reads' HO159.out).2.2|(with_reducible refine Kd.C_alloc ?_ _)|(with_reducible refine Kd.C_drewN ?_ _)|(with_reducible refine Kd.C_drew ?_)))
                      (case side2=>exact (Kd.V_reads' HO159.out).2.1)
                      (case side3=>repeat (first|exact (Kd.V_reads' HO165.out).2.2|(with_reducible refine Kd.C_alloc ?_ _)|(with_reducible refine Kd.C_drewN ?_ _)|(with_reducible refine Kd.C_drew ?_)))
                      (case side4=>exact (Kd.V_reads' HO165.out).2.1)
                      rintro e w' ⟨rfl,⟨nd,rfl⟩⟩
                      refine ⟨_,rfl,?_⟩
                      have q62 : ((rd t138 (ji40)) : Int) ≤ ((l0.length : Int) : Int):=of_decide_eq_true (by first|(with_reducible assumption)|assumption)
                      obtain ⟨i062,hi062,_,hsz62,_⟩:=info_parts info5
                      have hroom62 : l0.length ≤ c0:=(Kd.V_reads' HO_0.out).2.1
                      have hC62 : Kd.F (Kd.int .u8) _ _ A0 l0.length l0:=(Kd.V_at (base:=w.heap.size) HO_0.out).2.2
                      have q062 : (0 : Int) ≤ ((rd t138 (ji40)) : Int):=of_decide_eq_true (by first|(with_reducible assumption)|assumption)
                      clear hcut60 hcut61
                      have hcut62:=cut_from (P:=Try.prog) 31 5 .i64 Try.underlying31 hi062 1 hsz62 A0 l0.length c0 (rd t138 (ji40)) q062 q62
                      have hr62:=Kd.F_cut (m:=((rd t138 (ji40)) : Int).toNat) (c:=c0) hC62 (by omega) hroom62
                      obtain ⟨A62,hA62⟩ : ∃ A1,A1 = (if c0 = ((rd t138 (ji40)) : Int).toNat then A0 else (A0 : Option Addr).map (·.add (((rd t138 (ji40)) : Int).toNat * 1))):=⟨_,rfl⟩
                      obtain ⟨c62,hc62⟩ : ∃ cc_,cc_ = c0 - ((rd t138 (ji40)) : Int).toNat:=⟨_,rfl⟩
                      have hy62 : y168.length = l0.length - ((rd t138 (ji40)) : Int).toNat:=(by rw [Ny168.out,List.length_drop] <;> omega)
                      rw [show (l0).drop ((rd t138 (ji40)) : Int).toNat = y168 from Ny168.out.symm] at hr62
                      replace hr62 : Kd.F (Kd.int .u8) _ _ A62 y168.length y168:=(by rw [hA62];exact hr62)
                      rw [← hy62,← hA62,← hc62] at hcut62
                      have HO172:=Aside0.mk (show Kd.V (Kd.int .u8) 5 _ w.heap.size _ (.slice A62 y168.length c62) y168 from Kd.V_mk (by rw [hy62,hc62];exact Nat.sub_le_sub_right hroom62 _) hr62)
                      have HC172:=Aside0.mk (show y168.length ≤ c62 from by rw [hy62,hc62];exact Nat.sub_le_sub_right hroom62 _)
                      clear hr62 hC62 hroom62 hi062 hsz62 hc62
                      have KY62:=Aside0.mk hy62
                      have KA62:=Aside0.mk hA62
                      clear hy62 hA62
                      replace q62:=eq_true q62
                      have q63 : ((rd t138 x7_2) : Int) ≤ ((l0.length : Int) : Int):=of_decide_eq_true (by first|(with_reducible assumption)|assumption)
                      obtain ⟨i063,hi063,_,hsz63,_⟩:=info_parts info5
                      have hroom63 : l0.length ≤ c0:=(Kd.V_reads' HO_0.out).2.1
                      have hC63 : Kd.F (Kd.int .u8) _ _ A0 l0.length l0:=(Kd.V_at (base:=w.heap.size) HO_0.out).2.2
                      have q063 : (0 : Int) ≤ ((rd t138 x7_2) : Int):=of_decide_eq_true (by first|(with_reducible assumption)|assumption)
                      have hcut63:=cut_from (P:=Try.prog) 31 5 .i64 Try.underlying31 hi063 1 hsz63 A0 l0.length c0 (rd t138 x7_2) q063 q63
                      have hr63:=Kd.F_cut (m:=((rd t138 x7_2) : Int).toNat) (c:=c0) hC63 (by omega) hroom63
                      obtain ⟨A63,hA63⟩ : ∃ A1,A1 = (if c0 = ((rd t138 x7_2) : Int).toNat then A0 else (A0 : Option Addr).map (·.add (((rd t138 x7_2) : Int).toNat * 1))):=⟨_,rfl⟩
                      obtain ⟨c63,hc63⟩ : ∃ cc_,cc_ = c0 - ((rd t138 x7_2) : Int).toNat:=⟨_,rfl⟩
                      have hy63 : y174.length = l0.length - ((rd t138 x7_2) : Int).toNat:=(by rw [Ny174.out,List.length_drop] <;> omega)
                      rw [show (l0).drop ((rd t138 x7_2) : Int).toNat = y174 from Ny174.out.symm] at hr63
                      replace hr63 : Kd.F (Kd.int .u8) _ _ A63 y174.length y174:=(by rw [hA63];exact hr63)
                      rw [← hy63,← hA63,← hc63] at hcut63
                      have HO178:=Aside0.mk (show Kd.V (Kd.int .u8) 5 _ w.heap.size _ (.slice A63 y174.length c63) y174 from Kd.V_mk (by rw [hy63,hc63];exact Nat.sub_le_sub_right hroom63 _) hr63)
                      have HC178:=Aside0.mk (show y174.length ≤ c63 from by rw [hy63,hc63];exact Nat.sub_le_sub_right hroom63 _)
                      clear hr63 hC63 hroom63 hi063 hsz63 hc63
                      have KY63:=Aside0.mk hy63
                      have KA63:=Aside0.mk hA63
                      clear hy63 hA63
                      replace q63:=eq_true q63
                      refine hK.out _ _ ⟨hHeld.1,hHeld.2.1,hHeld.2.2.1,hHeld.2.2.2.1,hHeld.2.2.2.2.1,hHeld.2.2.2.2.2.1,hHeld.2.2.2.2.2.2.1,hHeld.2.2.2.2.2.2.2.1,hHeld.2.2.2.2.2.2.2.2⟩ (fun hHeld=>?_)
                      clear hK K
                      refine norm_ (a':=?_) ?_ ?_
                      rotate_left
                      ·show Act.put _ (some 105) _ = _
                       simp only [Act.put,lA_,lZ_,lS_,i64_w,i32_w]
                       rfl
                      refine pure_ (i:=47) (N:=some 106) (v:=?_) (a':=?_) bA48_ rfl rfl (any_of HT_.out (by kernel_rfl)) (fun _ _ _ h=>h) (Or.inl ⟨by rfl,?_⟩) ?_ ?_
                      rotate_left
                      ·intro w'
                       go_simp
                       with_reducible rfl
                      rotate_left
                      ·simp only [Act.put,lA_,lZ_,lS_,i64_w,i32_w]
                       rfl
                      refine pure_ (i:=48) (N:=some 107) (v:=?_) (a':=?_) bA49_ rfl rfl (any_of HT_.out (by kernel_rfl)) (fun _ _ _ h=>h) (Or.inl ⟨by rfl,?_⟩) ?_ ?_
                      rotate_left
                      ·intro w'
                       go_simp
                       with_reducible rfl
                      rotate_left
                      ·simp only [Act.put,lA_,lZ_,lS_,i64_w,i32_w]
                       rfl
                      refine pure_ (i:=49) (N:=some 108) (v:=?_) (a':=?_) bA50_ rfl rfl (any_of HT_.out (by kernel_rfl)) (fun _ _ _ h=>h) (Or.inl ⟨by rfl,?_⟩) ?_ ?_
                      rotate_left
                      ·intro w'
                       go_simp
                       with_reducible rfl
                      rotate_left
                      ·simp only [Act.put,lA_,lZ_,lS_,i64_w,i32_w]
                       rfl
                      refine pure_ (i:=50) (N:=some 109) (v:=?_) (a':=?_) bA51_ rfl rfl (any_of HT_.out (by kernel_rfl)) (fun _ _ _ h=>h) (Or.inl ⟨by rfl,?_⟩) ?_ ?_
                      rotate_left
                      ·intro w'
                       go_simp
                       with_reducible rfl
                      rotate_left
                      ·simp only [Act.put,lA_,lZ_,lS_,i64_w,i32_w]
                       rfl
                      refine pure_ (i:=51) (N:=some 110) (v:=?_) (a':=?_) bA52_ rfl rfl (any_of HT_.out (by kernel_rfl)) (fun _ _ _ h=>h) (Or.inl ⟨by rfl,?_⟩) ?_ ?_
                      rotate_left
                      ·intro w'
                       go_simp
                       with_reducible rfl
                      rotate_left
                      ·simp only [Act.put,lA_,lZ_,lS_,i64_w,i32_w]
                       rfl
                      refine pure_ (i:=52) (N:=some 111) (v:=?_) (a':=?_) bA53_ rfl rfl (any_of HT_.out (by kernel_rfl)) (fun _ _ _ h=>h) (Or.inl ⟨by rfl,?_⟩) ?_ ?_
                      rotate_left
                      ·intro w'
                       go_simp
                       with_reducible rfl
                      rotate_left
                      ·simp only [Act.put,lA_,lZ_,lS_,i64_w,i32_w]
                       rfl
                      refine pure_ (i:=53) (N:=some 112) (v:=?_) (a':=?_) bA54_ rfl rfl (any_of HT_.out (by kernel_rfl)) (fun _ _ _ h=>h) (Or.inl ⟨by rfl,?_⟩) ?_ ?_
                      rotate_left
                      ·intro w'
                       go_simp
                       with_reducible rfl
                      rotate_left
                      ·simp only [Act.put,lA_,lZ_,lS_,i64_w,i32_w]
                       rfl
                      refine pure_ (i:=54) (N:=some 113) (v:=?_) (a':=?_) bA55_ rfl rfl (any_of HT_.out (by kernel_rfl)) (fun _ _ _ h=>h) (Or.inl ⟨by rfl,?_⟩) ?_ ?_
                      rotate_left
                      ·intro w'
                       go_simp
                       with_reducible rfl
                      rotate_left
                      ·simp only [Act.put,lA_,lZ_,lS_,i64_w,i32_w]
                       rfl
                      refine pure_ (i:=57) (N:=some 116) (v:=?_) (a':=?_) bA81_ rfl rfl (any_of HT_.out (by kernel_rfl)) (fun _ _ _ h=>h) (Or.inl ⟨by rfl,?_⟩) ?_ ?_
                      rotate_left
                      ·intro w'
                       go_simp
                       with_reducible rfl
                      rotate_left
                      ·simp only [Act.put,lA_,lZ_,lS_,i64_w,i32_w]
                       rfl
                      refine pure_ (i:=58) (N:=some 117) (v:=?_) (a':=?_) bA82_ rfl rfl (any_of HT_.out (by kernel_rfl)) (fun _ _ _ h=>h) (Or.inl ⟨by rfl,?_⟩) ?_ ?_
                      rotate_left
                      ·intro w'
                       go_simp
                       with_reducible rfl
                      rotate_left
                      ·simp only [Act.put,lA_,lZ_,lS_,i64_w,i32_w]
                       rfl
                      refine pure_ (i:=59) (N:=some 118) (v:=?_) (a':=?_) bA83_ rfl rfl (any_of HT_.out (by kernel_rfl)) (fun _ _ _ h=>h) (Or.inl ⟨by rfl,?_⟩) ?_ ?_
                      rotate_left
                      ·intro w'
                       go_simp
                       with_reducible rfl
                      rotate_left
                      ·simp only [Act.put,lA_,lZ_,lS_,i64_w,i32_w]
                       rfl
                      refine pure_ (i:=60) (N:=some 119) (v:=?_) (a':=?_) bA84_ rfl rfl (any_of HT_.out (by kernel_rfl)) (fun _ _ _ h=>h) (Or.inl ⟨by rfl,?_⟩) ?_ ?_
                      rotate_left
                      ·intro w'
                       go_simp
                       with_reducible rfl
                      rotate_left
                      ·simp only [Act.put,lA_,lZ_,lS_,i64_w,i32_w]
                       rfl
                      refine pure_ (i:=64) (N:=some 123) (v:=?_) (a':=?_) bA85_ rfl rfl (any_of HT_.out (by kernel_rfl)) (fun _ _ _ h=>h) (Or.inl ⟨by rfl,?_⟩) ?_ ?_
                      rotate_left
                      ·intro w'
                       go_simp
                       with_reducible rfl
                      rotate_left
                      ·simp only [Act.put,lA_,lZ_,lS_,i64_w,i32_w]
                       rfl
                      refine pure_ (i:=65) (N:=some 124) (v:=?_) (a':=?_) bA86_ rfl rfl (any_of HT_.out (by kernel_rfl)) (fun _ _ _ h=>h) (Or.inl ⟨by rfl,?_⟩) ?_ ?_
                      rotate_left
                      ·intro w'
                       go_simp
                       with_reducible rfl
                      rotate_left
                      ·simp only [Act.put,lA_,lZ_,lS_,i64_w,i32_w]
                       rfl
                      refine pure_ (i:=66) (N:=some 125) (v:=?_) (a':=?_) bA87_ rfl rfl (any_of HT_.out (by kernel_rfl)) (fun _ _ _ h=>h) (Or.inl ⟨by rfl,?_⟩) ?_ ?_
                      rotate_left
                      ·intro w'
                       go_simp
                       with_reducible rfl
                      rotate_left
                      ·simp only [Act.put,lA_,lZ_,lS_,i64_w,i32_w]
                       rfl
                      refine pure_ (i:=67) (N:=some 126) (v:=?_) (a':=?_) bA88_ rfl rfl (any_of HT_.out (by kernel_rfl)) (fun _ _ _ h=>h) (Or.inl ⟨by rfl,?_⟩) ?_ ?_
                      rotate_left
                      ·intro w'
                       go_simp
                       with_reducible rfl
                      rotate_left
                      ·simp only [Act.put,lA_,lZ_,lS_,i64_w,i32_w]
                       rfl
                      refine take_ (i:=55) (N:=some 114) (v:=?_) (a':=?_) bA89_ rfl rfl (take_ofW HT_.out HW_.out (by kernel_rfl)) (fun _ _ _ h=>h) (Or.inl ⟨by rfl,?_⟩) hHeld ?_ ?_
                      rotate_left
                      ·rintro w' ⟨s0,s1,s2,s3,s4,s5,s6,s7,s8⟩
                       go_simp
                       with_reducible rfl
                      rotate_left
                      ·simp only [Act.put,lA_,lZ_,lS_,i64_w,i32_w]
                       rfl
                      refine pure_ (i:=56) (N:=some 115) (v:=?_) (a':=?_) bA90_ rfl rfl (any_of HT_.out (by kernel_rfl)) (fun _ _ _ h=>h) (Or.inl ⟨by rfl,?_⟩) ?_ ?_
                      rotate_left
                      ·intro w'
                       go_simp
                       with_reducible rfl
                      rotate_left
                      ·simp only [Act.put,lA_,lZ_,lS_,i64_w,i32_w]
                       rfl
                      refine take_ (i:=61) (N:=some 120) (v:=?_) (a':=?_) bA91_ rfl rfl (take_ofW HT_.out HW_.out (by kernel_rfl)) (fun _ _ _ h=>h) (Or.inl ⟨by rfl,?_⟩) hHeld ?_ ?_
                      rotate_left
                      ·rintro w' ⟨s0,s1,s2,s3,s4,s5,s6,s7,s8⟩
                       go_simp
                       with_reducible rfl
                      rotate_left
                      ·simp only [Act.put,lA_,lZ_,lS_,i64_w,i32_w]
                       rfl
                      refine pure_ (i:=62) (N:=some 121) (v:=?_) (a':=?_) bA92_ rfl rfl (any_of HT_.out (by kernel_rfl)) (fun _ _ _ h=>h) (Or.inl ⟨by rfl,?_⟩) ?_ ?_
                      rotate_left
                      ·intro w'
                       go_simp
                       with_reducible rfl
                      rotate_left
                      ·simp only [Act.put,lA_,lZ_,lS_,i64_w,i32_w]
                       rfl
                      refine take_ (i:=68) (N:=some 127) (v:=?_) (a':=?_) bA93_ rfl rfl (take_ofW HT_.out HW_.out (by kernel_rfl)) (fun _ _ _ h=>h) (Or.inl ⟨by rfl,?_⟩) hHeld ?_ ?_
                      rotate_left
                      ·rintro w' ⟨s0,s1,s2,s3,s4,s5,s6,s7,s8⟩
                       go_simp
                       with_reducible rfl
                      rotate_left
                      ·simp only [Act.put,lA_,lZ_,lS_,i64_w,i32_w]
                       rfl
                      refine one_ (i:=63) (N:=some 122) bA69_ rfl rfl (one_of HT_.out (by kernel_rfl)) (by decide) (fun K hK=>?_)
                      refine goes_ Try.func50 (by kernel_rfl) rfl #[.slice A62 y168.length c62,.slice A63 y174.length c63] (by rfl) rfl rfl (by (try simp only [List.map_toArray,List.map_cons,List.map_nil]);first|done|rfl|(simp only [List.length_drop,List.length_take];rfl)) ?_
                      with_reducible refine (coppicerref_Alike.calls k2 _ _ y168 _ _ y174 t179 _ ?side1 ?side2 ?side3 ?side4 A57.out).mono ?_
                      (case side1=>repeat (first|exact (Kd.V_reads' HO172.out).2.2|(with_reducible refine Kd.C_alloc ?_ _)|(with_reducible refine Kd.C_drewN ?_ _)|(with_reducible refine Kd.C_drew ?_)))
                      (case side2=>exact (Kd.V_reads' HO172.out).2.1)
                      (case side3=>repeat (first|exact (Kd.V_reads' HO178.out).2.2|(with_reducible refine Kd.C_alloc ?_ _)|(with_reducible refine Kd.C_drewN ?_ _)|(with_reducible refine Kd.C_drew ?_)))
                      (case side4=>exact (Kd.V_reads' HO178.out).2.1)
                      rintro e w' ⟨rfl,⟨nd,rfl⟩⟩
                      refine ⟨_,rfl,?_⟩
                      refine hK.out _ _ ⟨hHeld.1,hHeld.2.1,hHeld.2.2.1,hHeld.2.2.2.1,hHeld.2.2.2.2.1,hHeld.2.2.2.2.2.1,hHeld.2.2.2.2.2.2.1,hHeld.2.2.2.2.2.2.2.1,hHeld.2.2.2.2.2.2.2.2⟩ (fun hHeld=>?_)
                      clear hK K
                      refine norm_ (a':=?_) ?_ ?_
                      rotate_left
                      ·show Act.put _ (some 122) _ = _
                       simp only [Act.put,lA_,lZ_,lS_,i64_w,i32_w]
                       rfl
                      refine pure_ (i:=69) (N:=some 128) (v:=?_) (a':=?_) bA70_ rfl rfl (any_of HT_.out (by kernel_rfl)) (fun _ _ _ h=>h) (Or.inl ⟨by rfl,?_⟩) ?_ ?_
                      rotate_left
                      ·intro w'
                       go_simp
                       with_reducible rfl
                      rotate_left
                      ·simp only [Act.put,lA_,lZ_,lS_,i64_w,i32_w]
                       rfl
                      refine pure_ (i:=70) (N:=some 129) (v:=?_) (a':=?_) bA71_ rfl rfl (any_of HT_.out (by kernel_rfl)) (fun _ _ _ h=>h) (Or.inl ⟨by rfl,?_⟩) ?_ ?_
                      rotate_left
                      ·intro w'
                       go_simp
                       with_reducible rfl
                      rotate_left
                      ·simp only [Act.put,lA_,lZ_,lS_,i64_w,i32_w]
                       rfl
                      refine done_ (done_of HT_.out (by kernel_rfl)) ?_
                      try go_wp2
                      first|go_meet|((simp only [← hji40]);go_meet)
                      case rel=>exact ⟨_,((t179 != (rd t142 (ji40)))),(by first|rfl|(simp;done)|(simp only [← hji40] <;> (first|rfl|simp))|(simp [*];done)),(by first|exact H'|((simp only [hji40]);exact H')|(have h_:=H'.out;simp only [← hji40] at h_ ⊢;exact ⟨h_⟩)),⟨by have:=HJ16.out;have:=HK2.out;first|omega|exact Nat.le_refl _⟩,⟨by (with_reducible repeat (first|apply Kd.V_alloc|apply Kd.V_drewN|apply Kd.V_drew));exact HO_0.out⟩,⟨by (with_reducible repeat (first|apply Kd.R_alloc|apply Kd.R_drewN|apply Kd.R_drew));exact HO_3.out⟩,⟨by (with_reducible repeat (first|apply Kd.R_alloc|apply Kd.R_drewN|apply Kd.R_drew));exact HO_5.out⟩,⟨by repeat (first|(with_reducible first|exact HB.out|apply below_alloc|apply pw_below_drewN|apply below_drew1)|exact HB.out)⟩⟩
                     ·rw [if_neg c58] at H
                      exact absurd H (by simp)
                    ·replace c52:=Bool.eq_false_iff.mpr c52
                     subst c52
                     have H1 : (coppicerkeep_EndsRise.j2 k2 l0 t138 t142 x7_2 true) = some r:=by rw [if_neg (show ¬ (false = true) by decide)] at H;exact H
                     clear H
                     have H:=H1
                     clear H1
                     have H':=Aside0.mk H
                     clear H
                     try go_wp2
                     have n0_:=Aside0.mk (Kd.V_drew HO_0.out)
                     have n1_:=Aside0.mk (Kd.R_drew HO_3.out)
                     have n2_:=Aside0.mk (Kd.R_drew HO_5.out)
                     have n3_:=Aside0.mk (below_drew1 HB.out)
                     clear HO_0
                     clear HO_3
                     clear HO_5
                     clear HB
                     have HO_0:=n0_
                     have HO_3:=n1_
                     have HO_5:=n2_
                     have HB:=n3_
                     clear n0_ n1_ n2_ n3_
                     have p150 : 0 ≤ (x7_2 : Int):=of_decide_eq_true (by first|(with_reducible assumption)|assumption)
                     have q150 : x7_2 < (t138.length : Int):=of_decide_eq_true (by first|(with_reducible assumption)|assumption)
                     obtain ⟨ad150,e150,hx150_0⟩:=Kd.at_int (Kd.R_reads' HO_3.out).2.2 x7_2 p150 q150
                     cases e150
                     replace p150:=eq_true p150
                     replace q150:=eq_true q150
                     have p151 : 0 ≤ (x7_2 : Int):=of_decide_eq_true (by first|(with_reducible assumption)|assumption)
                     have q151 : x7_2 < (t138.length : Int):=of_decide_eq_true (by first|(with_reducible assumption)|assumption)
                     obtain ⟨ad151,e151,hx151_0⟩:=Kd.at_int (Kd.R_reads' HO_3.out).2.2 x7_2 p151 q151
                     obtain rfl : ad150 = ad151:=(by injection e151)
                     replace p151:=eq_true p151
                     replace q151:=eq_true q151
                     have p152 : 0 ≤ ((ji40) : Int):=of_decide_eq_true (by first|(with_reducible assumption)|assumption)
                     have q152 : (ji40) < (t138.length : Int):=of_decide_eq_true (by first|(with_reducible assumption)|assumption)
                     obtain ⟨ad152,e152,hx152_0⟩:=Kd.at_int (Kd.R_reads' HO_3.out).2.2 (ji40) p152 q152
                     obtain rfl : ad150 = ad152:=(by injection e152)
                     replace p152:=eq_true p152
                     replace q152:=eq_true q152
                     have p153 : 0 ≤ ((ji40) : Int):=of_decide_eq_true (by first|(with_reducible assumption)|assumption)
                     have q153 : (ji40) < (t138.length : Int):=of_decide_eq_true (by first|(with_reducible assumption)|assumption)
                     obtain ⟨ad153,e153,hx153_0⟩:=Kd.at_int (Kd.R_reads' HO_3.out).2.2 (ji40) p153 q153
                     obtain rfl : ad150 = ad153:=(by injection e153)
                     replace p153:=eq_true p153
                     replace q153:=eq_true q153
                     have p154 : 0 ≤ ((ji40) : Int):=of_decide_eq_true (by first|(with_reducible assumption)|assumption)
                     have q154 : (ji40) < (t138.length : Int):=of_decide_eq_true (by first|(with_reducible assumption)|assumption)
                     obtain ⟨ad154,e154,hx154_0⟩:=Kd.at_int (Kd.R_reads' HO_3.out).2.2 (ji40) p154 q154
                     obtain rfl : ad150 = ad154:=(by injection e154)
                     replace p154:=eq_true p154
                     replace q154:=eq_true q154
                     have q66 : ((rd t138 (ji40)) : Int) ≤ ((l0.length : Int) : Int):=of_decide_eq_true (by first|(with_reducible assumption)|assumption)
                     obtain ⟨i066,hi066,_,hsz66,_⟩:=info_parts info5
                     have hroom66 : l0.length ≤ c0:=(Kd.V_reads' HO_0.out).2.1
                     have hC66 : Kd.F (Kd.int .u8) _ _ A0 l0.length l0:=(Kd.V_at (base:=w.heap.size) HO_0.out).2.2
                     have q066 : (0 : Int) ≤ ((rd t138 (ji40)) : Int):=of_decide_eq_true (by first|(with_reducible assumption)|assumption)
                     have hcut66:=cut_from (P:=Try.prog) 31 5 .i64 Try.underlying31 hi066 1 hsz66 A0 l0.length c0 (rd t138 (ji40)) q066 q66
                     have hr66:=Kd.F_cut (m:=((rd t138 (ji40)) : Int).toNat) (c:=c0) hC66 (by omega) hroom66
                     obtain ⟨A66,hA66⟩ : ∃ A1,A1 = (if c0 = ((rd t138 (ji40)) : Int).toNat then A0 else (A0 : Option Addr).map (·.add (((rd t138 (ji40)) : Int).toNat * 1))):=⟨_,rfl⟩
                     obtain ⟨c66,hc66⟩ : ∃ cc_,cc_ = c0 - ((rd t138 (ji40)) : Int).toNat:=⟨_,rfl⟩
                     have hy66 : y155.length = l0.length - ((rd t138 (ji40)) : Int).toNat:=(by rw [Ny155.out,List.length_drop] <;> omega)
                     rw [show (l0).drop ((rd t138 (ji40)) : Int).toNat = y155 from Ny155.out.symm] at hr66
                     replace hr66 : Kd.F (Kd.int .u8) _ _ A66 y155.length y155:=(by rw [hA66];exact hr66)
                     rw [← hy66,← hA66,← hc66] at hcut66
                     have HO159:=Aside0.mk (show Kd.V (Kd.int .u8) 5 _ w.heap.size _ (.slice A66 y155.length c66) y155 from Kd.V_mk (by rw [hy66,hc66];exact Nat.sub_le_sub_right hroom66 _) hr66)
                     have HC159:=Aside0.mk (show y155.length ≤ c66 from by rw [hy66,hc66];exact Nat.sub_le_sub_right hroom66 _)
                     clear hr66 hC66 hroom66 hi066 hsz66 hc66
                     have KY66:=Aside0.mk hy66
                     have KA66:=Aside0.mk hA66
                     clear hy66 hA66
                     replace q66:=eq_true q66
                     have p160 : 0 ≤ (x7_2 : Int):=of_decide_eq_true (by first|(with_reducible assumption)|assumption)
                     have q160 : x7_2 < (t138.length : Int):=of_decide_eq_true (by first|(with_reducible assumption)|assumption)
                     obtain ⟨ad160,e160,hx160_0⟩:=Kd.at_int (Kd.R_reads' HO_3.out).2.2 x7_2 p160 q160
                     obtain rfl : ad150 = ad160:=(by injection e160)
                     replace p160:=eq_true p160
                     replace q160:=eq_true q160
                     have q67 : ((rd t138 x7_2) : Int) ≤ ((l0.length : Int) : Int):=of_decide_eq_true (by first|(with_reducible assumption)|assumption)
                     obtain ⟨i067,hi067,_,hsz67,_⟩:=info_parts info5
                     have hroom67 : l0.length ≤ c0:=(Kd.V_reads' HO_0.out).2.1
                     have hC67 : Kd.F (Kd.int .u8) _ _ A0 l0.length l0:=(Kd.V_at (base:=w.heap.size) HO_0.out).2.2
                     have q067 : (0 : Int) ≤ ((rd t138 x7_2) : Int):=of_decide_eq_true (by first|(with_reducible assumption)|assumption)
                     have hcut67:=cut_from (P:=Try.prog) 31 5 .i64 Try.underlying31 hi067 1 hsz67 A0 l0.length c0 (rd t138 x7_2) q067 q67
                     have hr67:=Kd.F_cut (m:=((rd t138 x7_2) : Int).toNat) (c:=c0) hC67 (by omega) hroom67
                     obtain ⟨A67,hA67⟩ : ∃ A1,A1 = (if c0 = ((rd t138 x7_2) : Int).toNat then A0 else (A0 : Option Addr).map (·.add (((rd t138 x7_2) : Int).toNat * 1))):=⟨_,rfl⟩
                     obtain ⟨c67,hc67⟩ : ∃ cc_,cc_ = c0 - ((rd t138 x7_2) : Int).toNat:=⟨_,rfl⟩
                     have hy67 : y161.length = l0.length - ((rd t138 x7_2) : Int).toNat:=(by rw [Ny161.out,List.length_drop] <;> omega)
                     rw [show (l0).drop ((rd t138 x7_2) : Int).toNat = y161 from Ny161.out.symm] at hr67
                     replace hr67 : Kd.F (Kd.int .u8) _ _ A67 y161.length y161:=(by rw [hA67];exact hr67)
                     rw [← hy67,← hA67,← hc67] at hcut67
                     have HO165:=Aside0.mk (show Kd.V (Kd.int .u8) 5 _ w.heap.size _ (.slice A67 y161.length c67) y161 from Kd.V_mk (by rw [hy67,hc67];exact Nat.sub_le_sub_right hroom67 _) hr67)
                     have HC165:=Aside0.mk (show y161.length ≤ c67 from by rw [hy67,hc67];exact Nat.sub_le_sub_right hroom67 _)
                     clear hr67 hC67 hroom67 hi067 hsz67 hc67
                     have KY67:=Aside0.mk hy67
                     have KA67:=Aside0.mk hA67
                     clear hy67 hA67
                     replace q67:=eq_true q67
                     refine start_ (n:=71) (S:=fun w'=>w'.cell? (ad150.add (x7_2).toNat) = some (.int .i64 (rd t138 x7_2)) ∧ w'.cell? (ad150.add (x7_2).toNat) = some (.int .i64 (rd t138 x7_2)) ∧ w'.cell? (ad150.add ((ji40)).toNat) = some (.int .i64 (rd t138 (ji40))) ∧ w'.cell? (ad150.add ((ji40)).toNat) = some (.int .i64 (rd t138 (ji40))) ∧ w'.cell? (ad150.add ((ji40)).toNat) = some (.int .i64 (rd t138 (ji40))) ∧ w'.cell? (ad150.add (x7_2).toNat) = some (.int .i64 (rd t138 x7_2))) (ds:=[]) bA0_ (by kernel_rfl) rfl rfl ⟨hx150_0,hx151_0,hx152_0,hx153_0,hx154_0,hx160_0⟩ (fun hHeld=>?_);refine with_tabW coppicerkeep_EndsRise.tab10 coppicerkeep_EndsRise.bits10 (fun HT_ HW_=>?_)
                     generalize wr.drew = w65 at HO_0 HO_3 HO_5 HB HO159 HO165 hx150_0 hx151_0 hx152_0 hx153_0 hx154_0 hx160_0 hHeld ⊢
                     refine pure_ (i:=0) (N:=some 59) (v:=?_) (a':=?_) bA1_ rfl rfl (any_of HT_.out (by kernel_rfl)) (fun _ _ _ h=>h) (Or.inl ⟨by rfl,?_⟩) ?_ ?_
                     rotate_left
                     ·intro w'
                      go_simp
                      with_reducible rfl
                     rotate_left
                     ·simp only [Act.put,lA_,lZ_,lS_,i64_w,i32_w]
                      rfl
                     refine pure_ (i:=1) (N:=some 60) (v:=?_) (a':=?_) bA2_ rfl rfl (any_of HT_.out (by kernel_rfl)) (fun _ _ _ h=>h) (Or.inl ⟨by rfl,?_⟩) ?_ ?_
                     rotate_left
                     ·intro w'
                      go_simp
                      with_reducible rfl
                     rotate_left
                     ·simp only [Act.put,lA_,lZ_,lS_,i64_w,i32_w]
                      rfl
                     refine pure_ (i:=2) (N:=some 61) (v:=?_) (a':=?_) bA3_ rfl rfl (any_of HT_.out (by kernel_rfl)) (fun _ _ _ h=>h) (Or.inl ⟨by rfl,?_⟩) ?_ ?_
                     rotate_left
                     ·intro w'
                      go_simp
                      with_reducible rfl
                     rotate_left
                     ·simp only [Act.put,lA_,lZ_,lS_,i64_w,i32_w]
                      rfl
                     refine take_ (i:=3) (N:=some 62) (v:=?_) (a':=?_) bA4_ rfl rfl (take_ofW HT_.out HW_.out (by kernel_rfl)) (fun _ _ _ h=>h) (Or.inl ⟨by rfl,?_⟩) hHeld ?_ ?_
                     rotate_left
                     ·rintro w' ⟨s0,s1,s2,s3,s4,s5⟩
                      go_simp
                      with_reducible rfl
                     rotate_left
                     ·simp only [Act.put,lA_,lZ_,lS_,i64_w,i32_w]
                      rfl
                     refine pure_ (i:=4) (N:=some 63) (v:=?_) (a':=?_) bA5_ rfl rfl (any_of HT_.out (by kernel_rfl)) (fun _ _ _ h=>h) (Or.inl ⟨by rfl,?_⟩) ?_ ?_
                     rotate_left
                     ·intro w'
                      go_simp
                      with_reducible rfl
                     rotate_left
                     ·simp only [Act.put,lA_,lZ_,lS_,i64_w,i32_w]
                      rfl
                     refine pure_ (i:=5) (N:=some 64) (v:=?_) (a':=?_) bA6_ rfl rfl (any_of HT_.out (by kernel_rfl)) (fun _ _ _ h=>h) (Or.inl ⟨by rfl,?_⟩) ?_ ?_
                     rotate_left
                     ·intro w'
                      go_simp
                      with_reducible rfl
                     rotate_left
                     ·simp only [Act.put,lA_,lZ_,lS_,i64_w,i32_w]
                      rfl
                     refine pure_ (i:=6) (N:=some 65) (v:=?_) (a':=?_) bA7_ rfl rfl (any_of HT_.out (by kernel_rfl)) (fun _ _ _ h=>h) (Or.inl ⟨by rfl,?_⟩) ?_ ?_
                     rotate_left
                     ·intro w'
                      go_simp
                      with_reducible rfl
                     rotate_left
                     ·simp only [Act.put,lA_,lZ_,lS_,i64_w,i32_w]
                      rfl
                     refine pure_ (i:=7) (N:=some 66) (v:=?_) (a':=?_) bA8_ rfl rfl (any_of HT_.out (by kernel_rfl)) (fun _ _ _ h=>h) (Or.inl ⟨by rfl,?_⟩) ?_ ?_
                     rotate_left
                     ·intro w'
                      go_simp
                      with_reducible rfl
                     rotate_left
                     ·simp only [Act.put,lA_,lZ_,lS_,i64_w,i32_w]
                      rfl
                     refine pure_ (i:=8) (N:=some 67) (v:=?_) (a':=?_) bA9_ rfl rfl (any_of HT_.out (by kernel_rfl)) (fun _ _ _ h=>h) (Or.inl ⟨by rfl,?_⟩) ?_ ?_
                     rotate_left
                     ·intro w'
                      go_simp
                      with_reducible rfl
                     rotate_left
                     ·simp only [Act.put,lA_,lZ_,lS_,i64_w,i32_w]
                      rfl
                     refine pure_ (i:=10) (N:=some 69) (v:=?_) (a':=?_) bA72_ rfl rfl (any_of HT_.out (by kernel_rfl)) (fun _ _ _ h=>h) (Or.inl ⟨by rfl,?_⟩) ?_ ?_
                     rotate_left
                     ·intro w'
                      go_simp
                      with_reducible rfl
                     rotate_left
                     ·simp only [Act.put,lA_,lZ_,lS_,i64_w,i32_w]
                      rfl
                     refine pure_ (i:=11) (N:=some 70) (v:=?_) (a':=?_) bA73_ rfl rfl (any_of HT_.out (by kernel_rfl)) (fun _ _ _ h=>h) (Or.inl ⟨by rfl,?_⟩) ?_ ?_
                     rotate_left
                     ·intro w'
                      go_simp
                      with_reducible rfl
                     rotate_left
                     ·simp only [Act.put,lA_,lZ_,lS_,i64_w,i32_w]
                      rfl
                     refine take_ (i:=9) (N:=some 68) (v:=?_) (a':=?_) bA12_ rfl rfl (take_ofW HT_.out HW_.out (by kernel_rfl)) (fun _ _ _ h=>h) (Or.inl ⟨by rfl,?_⟩) hHeld ?_ ?_
                     rotate_left
                     ·rintro w' ⟨s0,s1,s2,s3,s4,s5⟩
                      go_simp
                      with_reducible rfl
                     rotate_left
                     ·simp only [Act.put,lA_,lZ_,lS_,i64_w,i32_w]
                      rfl
                     refine pure_ (i:=12) (N:=some 71) (v:=?_) (a':=?_) bA13_ rfl rfl (any_of HT_.out (by kernel_rfl)) (fun _ _ _ h=>h) (Or.inl ⟨by rfl,?_⟩) ?_ ?_
                     rotate_left
                     ·intro w'
                      go_simp
                      with_reducible rfl
                     rotate_left
                     ·simp only [Act.put,lA_,lZ_,lS_,i64_w,i32_w]
                      rfl
                     refine pure_ (i:=13) (N:=some 72) (v:=?_) (a':=?_) bA14_ rfl rfl (any_of HT_.out (by kernel_rfl)) (fun _ _ _ h=>h) (Or.inl ⟨by rfl,?_⟩) ?_ ?_
                     rotate_left
                     ·intro w'
                      go_simp
                      with_reducible rfl
                     rotate_left
                     ·simp only [Act.put,lA_,lZ_,lS_,i64_w,i32_w]
                      rfl
                     refine pure_ (i:=14) (N:=some 73) (v:=?_) (a':=?_) bA15_ rfl rfl (any_of HT_.out (by kernel_rfl)) (fun _ _ _ h=>h) (Or.inl ⟨by rfl,?_⟩) ?_ ?_
                     rotate_left
                     ·intro w'
                      go_simp
                      with_reducible rfl
                     rotate_left
                     ·simp only [Act.put,lA_,lZ_,lS_,i64_w,i32_w]
                      rfl
                     refine pure_ (i:=15) (N:=some 74) (v:=?_) (a':=?_) bA16_ rfl rfl (any_of HT_.out (by kernel_rfl)) (fun _ _ _ h=>h) (Or.inl ⟨by rfl,?_⟩) ?_ ?_
                     rotate_left
                     ·intro w'
                      go_simp
                      with_reducible rfl
                     rotate_left
                     ·simp only [Act.put,lA_,lZ_,lS_,i64_w,i32_w]
                      rfl
                     refine pure_ (i:=16) (N:=some 75) (v:=?_) (a':=?_) bA17_ rfl rfl (any_of HT_.out (by kernel_rfl)) (fun _ _ _ h=>h) (Or.inl ⟨by rfl,?_⟩) ?_ ?_
                     rotate_left
                     ·intro w'
                      go_simp
                      with_reducible rfl
                     rotate_left
                     ·simp only [Act.put,lA_,lZ_,lS_,i64_w,i32_w]
                      rfl
                     refine pure_ (i:=17) (N:=some 76) (v:=?_) (a':=?_) bA18_ rfl rfl (any_of HT_.out (by kernel_rfl)) (fun _ _ _ h=>h) (Or.inl ⟨by rfl,?_⟩) ?_ ?_
                     rotate_left
                     ·intro w'
                      go_simp
                      with_reducible rfl
                     rotate_left
                     ·simp only [Act.put,lA_,lZ_,lS_,i64_w,i32_w]
                      rfl
                     refine pure_ (i:=18) (N:=some 77) (v:=?_) (a':=?_) bA19_ rfl rfl (any_of HT_.out (by kernel_rfl)) (fun _ _ _ h=>h) (Or.inl ⟨by rfl,?_⟩) ?_ ?_
                     rotate_left
                     ·intro w'
                      go_simp
                      with_reducible rfl
                     rotate_left
                     ·simp only [Act.put,lA_,lZ_,lS_,i64_w,i32_w]
                      rfl
                     refine take_ (i:=19) (N:=some 78) (v:=?_) (a':=?_) bA20_ rfl rfl (take_ofW HT_.out HW_.out (by kernel_rfl)) (fun _ _ _ h=>h) (Or.inl ⟨by rfl,?_⟩) hHeld ?_ ?_
                     rotate_left
                     ·rintro w' ⟨s0,s1,s2,s3,s4,s5⟩
                      go_simp
                      with_reducible rfl
                     rotate_left
                     ·simp only [Act.put,lA_,lZ_,lS_,i64_w,i32_w]
                      rfl
                     refine pure_ (i:=20) (N:=some 79) (v:=?_) (a':=?_) bA21_ rfl rfl (any_of HT_.out (by kernel_rfl)) (fun _ _ _ h=>h) (Or.inl ⟨by rfl,?_⟩) ?_ ?_
                     rotate_left
                     ·intro w'
                      go_simp
                      with_reducible rfl
                     rotate_left
                     ·simp only [Act.put,lA_,lZ_,lS_,i64_w,i32_w]
                      rfl
                     refine pure_ (i:=21) (N:=some 80) (v:=?_) (a':=?_) bA22_ rfl rfl (any_of HT_.out (by kernel_rfl)) (fun _ _ _ h=>h) (Or.inl ⟨by rfl,?_⟩) ?_ ?_
                     rotate_left
                     ·intro w'
                      go_simp
                      with_reducible rfl
                     rotate_left
                     ·simp only [Act.put,lA_,lZ_,lS_,i64_w,i32_w]
                      rfl
                     refine pure_ (i:=22) (N:=some 81) (v:=?_) (a':=?_) bA23_ rfl rfl (any_of HT_.out (by kernel_rfl)) (fun _ _ _ h=>h) (Or.inl ⟨by rfl,?_⟩) ?_ ?_
                     rotate_left
                     ·intro w'
                      go_simp
                      with_reducible rfl
                     rotate_left
                     ·simp only [Act.put,lA_,lZ_,lS_,i64_w,i32_w]
                      rfl
                     refine pure_ (i:=23) (N:=some 82) (v:=?_) (a':=?_) bA24_ rfl rfl (any_of HT_.out (by kernel_rfl)) (fun _ _ _ h=>h) (Or.inl ⟨by rfl,?_⟩) ?_ ?_
                     rotate_left
                     ·intro w'
                      go_simp
                      with_reducible rfl
                     rotate_left
                     ·simp only [Act.put,lA_,lZ_,lS_,i64_w,i32_w]
                      rfl
                     refine pure_ (i:=24) (N:=some 83) (v:=?_) (a':=?_) bA25_ rfl rfl (any_of HT_.out (by kernel_rfl)) (fun _ _ _ h=>h) (Or.inl ⟨by rfl,?_⟩) ?_ ?_
                     rotate_left
                     ·intro w'
                      go_simp
                      with_reducible rfl
                     rotate_left
                     ·simp only [Act.put,lA_,lZ_,lS_,i64_w,i32_w]
                      rfl
                     refine pure_ (i:=25) (N:=some 84) (v:=?_) (a':=?_) bA26_ rfl rfl (any_of HT_.out (by kernel_rfl)) (fun _ _ _ h=>h) (Or.inl ⟨by rfl,?_⟩) ?_ ?_
                     rotate_left
                     ·intro w'
                      go_simp
                      with_reducible rfl
                     rotate_left
                     ·simp only [Act.put,lA_,lZ_,lS_,i64_w,i32_w]
                      rfl
                     refine pure_ (i:=26) (N:=some 85) (v:=?_) (a':=?_) bA27_ rfl rfl (any_of HT_.out (by kernel_rfl)) (fun _ _ _ h=>h) (Or.inl ⟨by rfl,?_⟩) ?_ ?_
                     rotate_left
                     ·intro w'
                      go_simp
                      with_reducible rfl
                     rotate_left
                     ·simp only [Act.put,lA_,lZ_,lS_,i64_w,i32_w]
                      rfl
                     refine pure_ (i:=28) (N:=some 87) (v:=?_) (a':=?_) bA74_ rfl rfl (any_of HT_.out (by kernel_rfl)) (fun _ _ _ h=>h) (Or.inl ⟨by rfl,?_⟩) ?_ ?_
                     rotate_left
                     ·intro w'
                      go_simp
                      with_reducible rfl
                     rotate_left
                     ·simp only [Act.put,lA_,lZ_,lS_,i64_w,i32_w]
                      rfl
                     refine pure_ (i:=29) (N:=some 88) (v:=?_) (a':=?_) bA75_ rfl rfl (any_of HT_.out (by kernel_rfl)) (fun _ _ _ h=>h) (Or.inl ⟨by rfl,?_⟩) ?_ ?_
                     rotate_left
                     ·intro w'
                      go_simp
                      with_reducible rfl
                     rotate_left
                     ·simp only [Act.put,lA_,lZ_,lS_,i64_w,i32_w]
                      rfl
                     refine take_ (i:=27) (N:=some 86) (v:=?_) (a':=?_) bA30_ rfl rfl (take_ofW HT_.out HW_.out (by kernel_rfl)) (fun _ _ _ h=>h) (Or.inl ⟨by rfl,?_⟩) hHeld ?_ ?_
                     rotate_left
                     ·rintro w' ⟨s0,s1,s2,s3,s4,s5⟩
                      go_simp
                      with_reducible rfl
                     rotate_left
                     ·simp only [Act.put,lA_,lZ_,lS_,i64_w,i32_w]
                      rfl
                     refine pure_ (i:=30) (N:=some 89) (v:=?_) (a':=?_) bA31_ rfl rfl (any_of HT_.out (by kernel_rfl)) (fun _ _ _ h=>h) (Or.inl ⟨by rfl,?_⟩) ?_ ?_
                     rotate_left
                     ·intro w'
                      go_simp
                      with_reducible rfl
                     rotate_left
                     ·simp only [Act.put,lA_,lZ_,lS_,i64_w,i32_w]
                      rfl
                     refine pure_ (i:=31) (N:=some 90) (v:=?_) (a':=?_) bA32_ rfl rfl (any_of HT_.out (by kernel_rfl)) (fun _ _ _ h=>h) (Or.inl ⟨by rfl,?_⟩) ?_ ?_
                     rotate_left
                     ·intro w'
                      go_simp
                      with_reducible rfl
                     rotate_left
                     ·simp only [Act.put,lA_,lZ_,lS_,i64_w,i32_w]
                      rfl
                     refine pure_ (i:=32) (N:=some 91) (v:=?_) (a':=?_) bA33_ rfl rfl (any_of HT_.out (by kernel_rfl)) (fun _ _ _ h=>h) (Or.inl ⟨by rfl,?_⟩) ?_ ?_
                     rotate_left
                     ·intro w'
                      go_simp
                      with_reducible rfl
                     rotate_left
                     ·simp only [Act.put,lA_,lZ_,lS_,i64_w,i32_w]
                      rfl
                     refine pure_ (i:=33) (N:=some 92) (v:=?_) (a':=?_) bA34_ rfl rfl (any_of HT_.out (by kernel_rfl)) (fun _ _ _ h=>h) (Or.inl ⟨by rfl,?_⟩) ?_ ?_
                     rotate_left
                     ·intro w'
                      go_simp
                      with_reducible rfl
                     rotate_left
                     ·simp only [Act.put,lA_,lZ_,lS_,i64_w,i32_w]
                      rfl
                     refine pure_ (i:=34) (N:=some 93) (v:=?_) (a':=?_) bA35_ rfl rfl (any_of HT_.out (by kernel_rfl)) (fun _ _ _ h=>h) (Or.inl ⟨by rfl,?_⟩) ?_ ?_
                     rotate_left
                     ·intro w'
                      go_simp
                      with_reducible rfl
                     rotate_left
                     ·simp only [Act.put,lA_,lZ_,lS_,i64_w,i32_w]
                      rfl
                     refine pure_ (i:=35) (N:=some 94) (v:=?_) (a':=?_) bA36_ rfl rfl (any_of HT_.out (by kernel_rfl)) (fun _ _ _ h=>h) (Or.inl ⟨by rfl,?_⟩) ?_ ?_
                     rotate_left
                     ·intro w'
                      go_simp
                      with_reducible rfl
                     rotate_left
                     ·simp only [Act.put,lA_,lZ_,lS_,i64_w,i32_w]
                      rfl
                     refine pure_ (i:=36) (N:=some 95) (v:=?_) (a':=?_) bA37_ rfl rfl (any_of HT_.out (by kernel_rfl)) (fun _ _ _ h=>h) (Or.inl ⟨by rfl,?_⟩) ?_ ?_
                     rotate_left
                     ·intro w'
                      go_simp
                      with_reducible rfl
                     rotate_left
                     ·simp only [Act.put,lA_,lZ_,lS_,i64_w,i32_w]
                      rfl
                     refine pure_ (i:=37) (N:=some 96) (v:=?_) (a':=?_) bA38_ rfl rfl (any_of HT_.out (by kernel_rfl)) (fun _ _ _ h=>h) (Or.inl ⟨by rfl,?_⟩) ?_ ?_
                     rotate_left
                     ·intro w'
                      go_simp
                      with_reducible rfl
                     rotate_left
                     ·simp only [Act.put,lA_,lZ_,lS_,i64_w,i32_w]
                      rfl
                     refine pure_ (i:=40) (N:=some 99) (v:=?_) (a':=?_) bA76_ rfl rfl (any_of HT_.out (by kernel_rfl)) (fun _ _ _ h=>h) (Or.inl ⟨by rfl,?_⟩) ?_ ?_
                     rotate_left
                     ·intro w'
                      go_simp
                      with_reducible rfl
                     rotate_left
                     ·simp only [Act.put,lA_,lZ_,lS_,i64_w,i32_w]
                      rfl
                     refine pure_ (i:=41) (N:=some 100) (v:=?_) (a':=?_) bA77_ rfl rfl (any_of HT_.out (by kernel_rfl)) (fun _ _ _ h=>h) (Or.inl ⟨by rfl,?_⟩) ?_ ?_
                     rotate_left
                     ·intro w'
                      go_simp
                      with_reducible rfl
                     rotate_left
                     ·simp only [Act.put,lA_,lZ_,lS_,i64_w,i32_w]
                      rfl
                     refine pure_ (i:=42) (N:=some 101) (v:=?_) (a':=?_) bA78_ rfl rfl (any_of HT_.out (by kernel_rfl)) (fun _ _ _ h=>h) (Or.inl ⟨by rfl,?_⟩) ?_ ?_
                     rotate_left
                     ·intro w'
                      go_simp
                      with_reducible rfl
                     rotate_left
                     ·simp only [Act.put,lA_,lZ_,lS_,i64_w,i32_w]
                      rfl
                     refine pure_ (i:=43) (N:=some 102) (v:=?_) (a':=?_) bA79_ rfl rfl (any_of HT_.out (by kernel_rfl)) (fun _ _ _ h=>h) (Or.inl ⟨by rfl,?_⟩) ?_ ?_
                     rotate_left
                     ·intro w'
                      go_simp
                      with_reducible rfl
                     rotate_left
                     ·simp only [Act.put,lA_,lZ_,lS_,i64_w,i32_w]
                      rfl
                     refine take_ (i:=38) (N:=some 97) (v:=?_) (a':=?_) bA80_ rfl rfl (take_ofW HT_.out HW_.out (by kernel_rfl)) (fun _ _ _ h=>h) (Or.inl ⟨by rfl,?_⟩) hHeld ?_ ?_
                     rotate_left
                     ·rintro w' ⟨s0,s1,s2,s3,s4,s5⟩
                      go_simp
                      with_reducible rfl
                     rotate_left
                     ·simp only [Act.put,lA_,lZ_,lS_,i64_w,i32_w]
                      rfl
                     refine pure_ (i:=39) (N:=some 98) (v:=?_) (a':=?_) bA44_ rfl rfl (any_of HT_.out (by kernel_rfl)) (fun _ _ _ h=>h) (Or.inl ⟨by rfl,?_⟩) ?_ ?_
                     rotate_left
                     ·intro w'
                      go_simp
                      with_reducible rfl
                     rotate_left
                     ·simp only [Act.put,lA_,lZ_,lS_,i64_w,i32_w]
                      rfl
                     refine take_ (i:=44) (N:=some 103) (v:=?_) (a':=?_) bA45_ rfl rfl (take_ofW HT_.out HW_.out (by kernel_rfl)) (fun _ _ _ h=>h) (Or.inl ⟨by rfl,?_⟩) hHeld ?_ ?_
                     rotate_left
                     ·rintro w' ⟨s0,s1,s2,s3,s4,s5⟩
                      go_simp
                      with_reducible rfl
                     rotate_left
                     ·simp only [Act.put,lA_,lZ_,lS_,i64_w,i32_w]
                      rfl
                     refine pure_ (i:=45) (N:=some 104) (v:=?_) (a':=?_) bA46_ rfl rfl (any_of HT_.out (by kernel_rfl)) (fun _ _ _ h=>h) (Or.inl ⟨by rfl,?_⟩) ?_ ?_
                     rotate_left
                     ·intro w'
                      go_simp
                      with_reducible rfl
                     rotate_left
                     ·simp only [Act.put,lA_,lZ_,lS_,i64_w,i32_w]
                      rfl
                     refine one_ (i:=46) (N:=some 105) bA47_ rfl rfl (one_of HT_.out (by kernel_rfl)) (by decide) (fun K hK=>?_)
                     refine goes_ Try.func49 (by kernel_rfl) rfl #[.slice A66 y155.length c66,.slice A67 y161.length c67] (by rfl) rfl rfl (by (try simp only [List.map_toArray,List.map_cons,List.map_nil]);first|done|rfl|(simp only [List.length_drop,List.length_take];rfl)) ?_
                     with_reducible refine (coppicerref_Less.calls k2 _ _ y155 _ _ y161 false _ ?side1 ?side2 ?side3 ?side4 A51.out).mono ?_
                     (case side1=>repeat (first|exact (Kd.V_reads' HO159.out).2.2|(with_reducible refine Kd.C_alloc ?_ _)|(with_reducible refine Kd.C_drewN ?_ _)|(with_reducible refine Kd.C_drew ?_)))
                     (case side2=>exact (Kd.V_reads' HO159.out).2.1)
                     (case side3=>repeat (first|exact (Kd.V_reads' HO165.out).2.2|(with_reducible refine Kd.C_alloc ?_ _)|(with_reducible refine Kd.C_drewN ?_ _)|(with_reducible refine Kd.C_drew ?_)))
                     (case side4=>exact (Kd.V_reads' HO165.out).2.1)
                     rintro e w' ⟨rfl,⟨nd,rfl⟩⟩
                     refine ⟨_,rfl,?_⟩
                     refine hK.out _ _ ⟨hHeld.1,hHeld.2.1,hHeld.2.2.1,hHeld.2.2.2.1,hHeld.2.2.2.2.1,hHeld.2.2.2.2.2⟩ (fun hHeld=>?_)
                     clear hK K
                     refine norm_ (a':=?_) ?_ ?_
                     rotate_left
                     ·show Act.put _ (some 105) _ = _
                      simp only [Act.put,lA_,lZ_,lS_,i64_w,i32_w]
                      rfl
                     refine pure_ (i:=47) (N:=some 106) (v:=?_) (a':=?_) bA48_ rfl rfl (any_of HT_.out (by kernel_rfl)) (fun _ _ _ h=>h) (Or.inl ⟨by rfl,?_⟩) ?_ ?_
                     rotate_left
                     ·intro w'
                      go_simp
                      with_reducible rfl
                     rotate_left
                     ·simp only [Act.put,lA_,lZ_,lS_,i64_w,i32_w]
                      rfl
                     refine pure_ (i:=48) (N:=some 107) (v:=?_) (a':=?_) bA49_ rfl rfl (any_of HT_.out (by kernel_rfl)) (fun _ _ _ h=>h) (Or.inl ⟨by rfl,?_⟩) ?_ ?_
                     rotate_left
                     ·intro w'
                      go_simp
                      with_reducible rfl
                     rotate_left
                     ·simp only [Act.put,lA_,lZ_,lS_,i64_w,i32_w]
                      rfl
                     refine pure_ (i:=49) (N:=some 108) (v:=?_) (a':=?_) bA50_ rfl rfl (any_of HT_.out (by kernel_rfl)) (fun _ _ _ h=>h) (Or.inl ⟨by rfl,?_⟩) ?_ ?_
                     rotate_left
                     ·intro w'
                      go_simp
                      with_reducible rfl
                     rotate_left
                     ·simp only [Act.put,lA_,lZ_,lS_,i64_w,i32_w]
                      rfl
                     refine pure_ (i:=50) (N:=some 109) (v:=undef) (a':=?_) bA51_ rfl rfl (any_of HT_.out (by kernel_rfl)) (fun _ _ _ h=>h) (Or.inr ⟨by rfl,rfl⟩) ?_ ?_
                     rotate_left
                     ·simp only [Act.put,lA_,lZ_,lS_,i64_w,i32_w]
                      rfl
                     refine pure_ (i:=51) (N:=some 110) (v:=undef) (a':=?_) bA52_ rfl rfl (any_of HT_.out (by kernel_rfl)) (fun _ _ _ h=>h) (Or.inr ⟨by rfl,rfl⟩) ?_ ?_
                     rotate_left
                     ·simp only [Act.put,lA_,lZ_,lS_,i64_w,i32_w]
                      rfl
                     refine pure_ (i:=52) (N:=some 111) (v:=undef) (a':=?_) bA53_ rfl rfl (any_of HT_.out (by kernel_rfl)) (fun _ _ _ h=>h) (Or.inr ⟨by rfl,rfl⟩) ?_ ?_
                     rotate_left
                     ·simp only [Act.put,lA_,lZ_,lS_,i64_w,i32_w]
                      rfl
                     refine pure_ (i:=53) (N:=some 112) (v:=undef) (a':=?_) bA54_ rfl rfl (any_of HT_.out (by kernel_rfl)) (fun _ _ _ h=>h) (Or.inr ⟨by rfl,rfl⟩) ?_ ?_
                     rotate_left
                     ·simp only [Act.put,lA_,lZ_,lS_,i64_w,i32_w]
                      rfl
                     refine pure_ (i:=54) (N:=some 113) (v:=undef) (a':=?_) bA55_ rfl rfl (any_of HT_.out (by kernel_rfl)) (fun _ _ _ h=>h) (Or.inr ⟨by rfl,rfl⟩) ?_ ?_
                     rotate_left
                     ·simp only [Act.put,lA_,lZ_,lS_,i64_w,i32_w]
                      rfl
                     refine pure_ (i:=55) (N:=some 114) (v:=undef) (a':=?_) bA56_ rfl rfl (any_of HT_.out (by kernel_rfl)) (fun _ _ _ h=>h) (Or.inr ⟨by rfl,rfl⟩) ?_ ?_
                     rotate_left
                     ·simp only [Act.put,lA_,lZ_,lS_,i64_w,i32_w]
                      rfl
                     refine pure_ (i:=56) (N:=some 115) (v:=undef) (a':=?_) bA57_ rfl rfl (any_of HT_.out (by kernel_rfl)) (fun _ _ _ h=>h) (Or.inr ⟨by rfl,rfl⟩) ?_ ?_
                     rotate_left
                     ·simp only [Act.put,lA_,lZ_,lS_,i64_w,i32_w]
                      rfl
                     refine pure_ (i:=57) (N:=some 116) (v:=undef) (a':=?_) bA58_ rfl rfl (any_of HT_.out (by kernel_rfl)) (fun _ _ _ h=>h) (Or.inr ⟨by rfl,rfl⟩) ?_ ?_
                     rotate_left
                     ·simp only [Act.put,lA_,lZ_,lS_,i64_w,i32_w]
                      rfl
                     refine pure_ (i:=58) (N:=some 117) (v:=undef) (a':=?_) bA59_ rfl rfl (any_of HT_.out (by kernel_rfl)) (fun _ _ _ h=>h) (Or.inr ⟨by rfl,rfl⟩) ?_ ?_
                     rotate_left
                     ·simp only [Act.put,lA_,lZ_,lS_,i64_w,i32_w]
                      rfl
                     refine pure_ (i:=59) (N:=some 118) (v:=undef) (a':=?_) bA60_ rfl rfl (any_of HT_.out (by kernel_rfl)) (fun _ _ _ h=>h) (Or.inr ⟨by rfl,rfl⟩) ?_ ?_
                     rotate_left
                     ·simp only [Act.put,lA_,lZ_,lS_,i64_w,i32_w]
                      rfl
                     refine pure_ (i:=60) (N:=some 119) (v:=undef) (a':=?_) bA61_ rfl rfl (any_of HT_.out (by kernel_rfl)) (fun _ _ _ h=>h) (Or.inr ⟨by rfl,rfl⟩) ?_ ?_
                     rotate_left
                     ·simp only [Act.put,lA_,lZ_,lS_,i64_w,i32_w]
                      rfl
                     refine pure_ (i:=61) (N:=some 120) (v:=undef) (a':=?_) bA62_ rfl rfl (any_of HT_.out (by kernel_rfl)) (fun _ _ _ h=>h) (Or.inr ⟨by rfl,rfl⟩) ?_ ?_
                     rotate_left
                     ·simp only [Act.put,lA_,lZ_,lS_,i64_w,i32_w]
                      rfl
                     refine pure_ (i:=62) (N:=some 121) (v:=undef) (a':=?_) bA63_ rfl rfl (any_of HT_.out (by kernel_rfl)) (fun _ _ _ h=>h) (Or.inr ⟨by rfl,rfl⟩) ?_ ?_
                     rotate_left
                     ·simp only [Act.put,lA_,lZ_,lS_,i64_w,i32_w]
                      rfl
                     refine pure_ (i:=63) (N:=some 122) (v:=undef) (a':=?_) bA64_ rfl rfl (any_of HT_.out (by kernel_rfl)) (fun _ _ _ h=>h) (Or.inr ⟨by rfl,rfl⟩) ?_ ?_
                     rotate_left
                     ·simp only [Act.put,lA_,lZ_,lS_,i64_w,i32_w]
                      rfl
                     refine pure_ (i:=64) (N:=some 123) (v:=undef) (a':=?_) bA65_ rfl rfl (any_of HT_.out (by kernel_rfl)) (fun _ _ _ h=>h) (Or.inr ⟨by rfl,rfl⟩) ?_ ?_
                     rotate_left
                     ·simp only [Act.put,lA_,lZ_,lS_,i64_w,i32_w]
                      rfl
                     refine pure_ (i:=65) (N:=some 124) (v:=undef) (a':=?_) bA66_ rfl rfl (any_of HT_.out (by kernel_rfl)) (fun _ _ _ h=>h) (Or.inr ⟨by rfl,rfl⟩) ?_ ?_
                     rotate_left
                     ·simp only [Act.put,lA_,lZ_,lS_,i64_w,i32_w]
                      rfl
                     refine pure_ (i:=66) (N:=some 125) (v:=undef) (a':=?_) bA67_ rfl rfl (any_of HT_.out (by kernel_rfl)) (fun _ _ _ h=>h) (Or.inr ⟨by rfl,rfl⟩) ?_ ?_
                     rotate_left
                     ·simp only [Act.put,lA_,lZ_,lS_,i64_w,i32_w]
                      rfl
                     refine pure_ (i:=67) (N:=some 126) (v:=undef) (a':=?_) bA68_ rfl rfl (any_of HT_.out (by kernel_rfl)) (fun _ _ _ h=>h) (Or.inr ⟨by rfl,rfl⟩) ?_ ?_
                     rotate_left
                     ·simp only [Act.put,lA_,lZ_,lS_,i64_w,i32_w]
                      rfl
                     refine pure_ (i:=68) (N:=some 127) (v:=undef) (a':=?_) bA69_ rfl rfl (any_of HT_.out (by kernel_rfl)) (fun _ _ _ h=>h) (Or.inr ⟨by rfl,rfl⟩) ?_ ?_
                     rotate_left
                     ·simp only [Act.put,lA_,lZ_,lS_,i64_w,i32_w]
                      rfl
                     refine pure_ (i:=69) (N:=some 128) (v:=undef) (a':=?_) bA70_ rfl rfl (any_of HT_.out (by kernel_rfl)) (fun _ _ _ h=>h) (Or.inr ⟨by rfl,rfl⟩) ?_ ?_
                     rotate_left
                     ·simp only [Act.put,lA_,lZ_,lS_,i64_w,i32_w]
                      rfl
                     refine pure_ (i:=70) (N:=some 129) (v:=?_) (a':=?_) bA71_ rfl rfl (any_of HT_.out (by kernel_rfl)) (fun _ _ _ h=>h) (Or.inl ⟨by rfl,?_⟩) ?_ ?_
                     rotate_left
                     ·intro w'
                      go_simp
                      with_reducible rfl
                     rotate_left
                     ·simp only [Act.put,lA_,lZ_,lS_,i64_w,i32_w]
                      rfl
                     refine done_ (done_of HT_.out (by kernel_rfl)) ?_
                     try go_wp2
                     first|go_meet|((simp only [← hji40]);go_meet)
                     case rel=>exact ⟨_,(true),(by first|rfl|(simp;done)|(simp [*];done)),(by first|exact H'|((simp only [hji40]);exact H')|(have h_:=H'.out;simp only [← hji40] at h_ ⊢;exact ⟨h_⟩)),⟨by have:=HJ16.out;have:=HK2.out;first|omega|exact Nat.le_refl _⟩,⟨by (with_reducible repeat (first|apply Kd.V_alloc|apply Kd.V_drewN|apply Kd.V_drew));exact HO_0.out⟩,⟨by (with_reducible repeat (first|apply Kd.R_alloc|apply Kd.R_drewN|apply Kd.R_drew));exact HO_3.out⟩,⟨by (with_reducible repeat (first|apply Kd.R_alloc|apply Kd.R_drewN|apply Kd.R_drew));exact HO_5.out⟩,⟨by repeat (first|(with_reducible first|exact HB.out|apply below_alloc|apply pw_below_drewN|apply below_drew1)|exact HB.out)⟩⟩
                   ·rw [if_neg c50] at H
                    exact absurd H (by simp)
                  ·rw [if_neg c49] at H
                   exact absurd H (by simp)
                 ·rw [if_neg c48] at H
                  exact absurd H (by simp)
                ·rw [if_neg c47] at H
                 exact absurd H (by simp)
             ·rw [if_neg c42] at H
              exact absurd H (by simp)
            ·rw [if_neg c41] at H
             exact absurd H (by simp)
         ·rw [if_neg c35] at H
          exact absurd H (by simp)
        case rest =>
         clear HC33
         try clear p1
         try clear q1
         try clear hx1
         try clear p2
         try clear c3
         try clear c4
         try clear c5
         try clear c6
         try clear q6
         try clear p15
         try clear q15
         try clear hx15
         try clear p16
         try clear q16
         try clear hx16
         try clear c35
         try clear c41
         try clear c42
         try clear c47
         try clear c48
         try clear c49
         try clear c50
         try clear c66
         try clear q66
         try clear c67
         try clear q67
         try clear hx150_0
         try clear hx151_0
         try clear hx152_0
         try clear hx153_0
         try clear hx154_0
         try clear hx160_0
         try clear p150
         try clear p151
         try clear p152
         try clear p153
         try clear p154
         try clear p160
         try clear q066
         try clear q067
         try clear q150
         try clear q151
         try clear q152
         try clear q153
         try clear q154
         try clear q160
         try clear q66
         try clear q67
         obtain ⟨kq,x129_32,rfl,HA,HJ32,HO_0,HO_3,HO_5,HB⟩:=hcut
         cases kq with
         | zero=>exact absurd HA.out (by simp [coppicerkeep_EndsRise.j2])
         | succ kj32 =>
          have H:=HA.out
          clear HA
          simp only [coppicerkeep_EndsRise.j2] at H
          by_cases c68 : x129_32 = true
          ·subst c68
           have H1 : (some false) = some r:=by rw [if_pos rfl] at H;exact H
           clear H
           have H:=H1
           clear H1
           obtain rfl:=Option.some.inj H
           go_wp2
           go_ret
           exact ⟨by first|rfl|(simp [errW_none,errW_some] <;> rfl)|(simp [*,errW_none,errW_some] <;> rfl),by repeat (first|(with_reducible first|exact HB.out|apply below_alloc|apply pw_below_drewN|apply below_drew1)|exact HB.out)⟩
          ·replace c68:=Bool.eq_false_iff.mpr c68
           subst c68
           have H1 : (coppicerkeep_EndsRise.l0 kj32 l0 t138 t142 (wrap64 (x7_2 + 1))) = some r:=by rw [if_neg (show ¬ (false = true) by decide)] at H;exact H
           clear H
           have H:=H1
           clear H1
           have H':=Aside0.mk H
           clear H
           go_wp2
           go_roundg kj32
           case measure=>have:=HJ16.out;have:=HK2.out;have:=HJ32.out;omega
           case rel=>exact ⟨(wrap64 (x7_2 + 1)),(by first|rfl|(simp;done)|(simp [*];done)),H',⟨by have:=HJ16.out;have:=HK2.out;have:=HJ32.out;omega⟩,⟨by (with_reducible repeat (first|apply Kd.V_alloc|apply Kd.V_drewN|apply Kd.V_drew));exact HO_0.out⟩,⟨by (with_reducible repeat (first|apply Kd.R_alloc|apply Kd.R_drewN|apply Kd.R_drew));exact HO_3.out⟩,⟨by (with_reducible repeat (first|apply Kd.R_alloc|apply Kd.R_drewN|apply Kd.R_drew));exact HO_5.out⟩,⟨by repeat (first|(with_reducible first|exact HB.out|apply below_alloc|apply pw_below_drewN|apply below_drew1)|exact HB.out)⟩⟩
       ·rw [if_neg c32] at H
        have c32b0 : decide (x7_2 < (t138.length : Int)) = false:=decide_eq_false c32
        clear c32
        obtain rfl:=Option.some.inj H
        obtain ⟨Ao69,co69,eo69⟩:=Kd.R_slice HO_3.out
        subst eo69
        go_wp2
        go_ret
        exact ⟨by first|rfl|(simp [errW_none,errW_some] <;> rfl)|(simp [*,errW_none,errW_some] <;> rfl),by repeat (first|(with_reducible first|exact HB.out|apply below_alloc|apply pw_below_drewN|apply below_drew1)|exact HB.out)⟩
/-- THE ONE PURE STATEMENT of coppicerkeep_EndsRise: yours. -/
def coppicerkeep_EndsRise.Pure : Prop:=∀ (l0 : List Int),(l0.length ≤ 9223372036854775807 ∧ l0.length * 1 ≤ 140737488351232 ∧ ∀ y_ ∈ l0,(Lit.int .u8 y_).wf = true) → ∃ k,coppicerkeep_EndsRise.f k l0 = some true
theorem coppicerkeep_EndsRise.walk (P : coppicerkeep_EndsRise.Pure) (A0 : Option Addr) (l0 : List Int) (c0 : Nat) (w : World) (hr0 : Kd.C (Kd.int .u8) w A0 l0.length l0) (hc0 : l0.length ≤ c0) (w0 : l0.length ≤ 9223372036854775807 ∧ l0.length * 1 ≤ 140737488351232 ∧ ∀ y_ ∈ l0,(Lit.int .u8 y_).wf = true) :
  Calls Try.prog 14 #[.slice A0 l0.length c0] w fun e w'=>e = .returned (.bool true) ∧ Below w.heap.size w w':=by
 obtain ⟨k,h⟩:=P l0 w0
 refine (coppicerkeep_EndsRise.calls k _ _ _ _ true w (Kd.C_V (Kd.heap_int .u8) hr0 hc0) h).mono ?_
 rintro e w' ⟨rfl,hd⟩
 exact ⟨rfl,hd⟩
end Go.Proofs.Ythgiiikjcfhgjaa.GR
