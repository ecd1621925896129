-- Written by ext.py, a program of this session.
import Derived.Test.YtnkackiocigdoaaGH0
import Derived.Test.YtnkackiocigdoaaGH1
import Derived.Test.YtnkackiocigdoaaGH6
import Derived.Test.YtnkackiocigdoaaGH8
namespace Go.Proofs.Ytnkackiocigdoaa.GH
open Go.RowKit Go.Proofs.YtnkackiocigdoaaW.PrintWords Go.Proofs.YtnkackiocigdoaaW.PrintLast Go.Proofs.YtnkackiocigdoaaW.PrintMore
attribute [local go_sem] max2_int min2_int max_two min_two max_three min_three max_four min_four cellIs_set   -- for this text's walks alone
set_option linter.unusedVariables false
set_option linter.unusedSimpArgs false
/-! ### coppicerkeep_TableJoins: function 4 -/
mutual
def coppicerkeep_TableJoins.j0 : Nat → List Int → List Int → Int → Int → Int → Int → Bool → Int → Int → Int → List (S27) → Option (Bool)
 | 0,_,_,_,_,_,_,_,_,_,_,_=>none
 | k + 1,x1,x2,x7,x8,x9,x10,x37,x163000,x163001,x163002,x163003=>if x37 = true then (if x8 = 0 then (some (x10 != 0)) else (some true)) else ((some (([] : List Int) : List Int)).bind fun y169=>(if y169.length + x1.length < 17592186044416 then ((some (y169 ++ x1 : List Int)).bind fun y172=>(if y172.length + x2.length < 17592186044416 then ((some (y172 ++ x2 : List Int)).bind fun y175=>((table_Names.f k x163000 x163001 x163002 x163003 y175).bind fun bt178=>(if x8 = 0 then (coppicerkeep_TableJoins.j1 k x7 x9 y175 bt178.1 bt178.2 (x10 != 0) x163000 x163001 x163002 x163003) else (coppicerkeep_TableJoins.j1 k x7 x9 y175 bt178.1 bt178.2 true x163000 x163001 x163002 x163003)))) else (none))) else (none)))
def coppicerkeep_TableJoins.j1 : Nat → Int → Int → List Int → Int → Int → Bool → Int → Int → Int → List (S27) → Option (Bool)
 | 0,_,_,_,_,_,_,_,_,_,_=>none
 | k + 1,x7,x9,x11,x12,x13,x60,x163000,x163001,x163002,x163003=>if x60 = true then (some false) else (if (x11.length : Int) > 12 then (some (x13 != 0)) else (if x13 = 0 then (coppicerkeep_TableJoins.l0 k x7 x9 x11 x12 x163003 (x163003.length : Int) 0 x163000 x163001 x163002 x163003) else (some false)))
def coppicerkeep_TableJoins.l0 : Nat → Int → Int → List Int → Int → List (S27) → Int → Int → Int → Int → Int → List (S27) → Option (Bool)
 | 0,_,_,_,_,_,_,_,_,_,_,_=>none
 | k + 1,x7,x9,x11,x12,x69,x70,x71,x163000,x163001,x163002,x163003=>if x71 < x70 then (if 0 ≤ x71 then (if x71 < (x69.length : Int) then (if (((rd_T27 x69 x71).f1).length : Int) = 2 then (if 0 < (((rd_T27 x69 x71).f1).length : Int) then (if (rd ((rd_T27 x69 x71).f1) 0) ≥ x163000 then (if 1 < (((rd_T27 x69 x71).f1).length : Int) then (if (rd ((rd_T27 x69 x71).f1) 1) ≥ x163000 then ((coppicerref_Bit.f x7 (wrap64 ((rd ((rd_T27 x69 x71).f1) 0) - x163000))).bind fun t185=>(if t185 = true then ((coppicerref_Bit.f x9 (wrap64 ((rd ((rd_T27 x69 x71).f1) 1) - x163000))).bind fun t187=>(if t187 = true then ((coppicerref_Bit.f x12 ((rd_T27 x69 x71).f0)).bind fun t188=>(coppicerkeep_TableJoins.j3 k x7 x9 x11 x12 x69 x70 x71 (!t188) x163000 x163001 x163002 x163003 ((rd_T27 x69 x71).f0) ((rd_T27 x69 x71).f1))) else (coppicerkeep_TableJoins.j3 k x7 x9 x11 x12 x69 x70 x71 false x163000 x163001 x163002 x163003 ((rd_T27 x69 x71).f0) ((rd_T27 x69 x71).f1)))) else (coppicerkeep_TableJoins.j3 k x7 x9 x11 x12 x69 x70 x71 false x163000 x163001 x163002 x163003 ((rd_T27 x69 x71).f0) ((rd_T27 x69 x71).f1)))) else (coppicerkeep_TableJoins.j3 k x7 x9 x11 x12 x69 x70 x71 false x163000 x163001 x163002 x163003 ((rd_T27 x69 x71).f0) ((rd_T27 x69 x71).f1))) else (none)) else (coppicerkeep_TableJoins.j3 k x7 x9 x11 x12 x69 x70 x71 false x163000 x163001 x163002 x163003 ((rd_T27 x69 x71).f0) ((rd_T27 x69 x71).f1))) else (none)) else (coppicerkeep_TableJoins.j3 k x7 x9 x11 x12 x69 x70 x71 false x163000 x163001 x163002 x163003 ((rd_T27 x69 x71).f0) ((rd_T27 x69 x71).f1))) else (none)) else (none)) else (some true)
def coppicerkeep_TableJoins.j3 : Nat → Int → Int → List Int → Int → List (S27) → Int → Int → Bool → Int → Int → Int → List (S27) → Int → List Int → Option (Bool)
 | 0,_,_,_,_,_,_,_,_,_,_,_,_,_,_=>none
 | k + 1,x7,x9,x11,x12,x69,x70,x71,x125,x163000,x163001,x163002,x163003,x182000,x182001=>if x125 = true then (some false) else ((coppicerref_Ints.f k x182001 x11).bind fun t189=>(if t189 = true then ((coppicerref_Bit.f x12 x182000).bind fun t190=>(if t190 = true then (coppicerkeep_TableJoins.l0 k x7 x9 x11 x12 x69 x70 (wrap64 (x71 + 1)) x163000 x163001 x163002 x163003) else (some false))) else (coppicerkeep_TableJoins.l0 k x7 x9 x11 x12 x69 x70 (wrap64 (x71 + 1)) x163000 x163001 x163002 x163003)))
end
def coppicerkeep_TableJoins.f (k : Nat) (a0_0 : Int) (a0_1 : Int) (a0_2 : Int) (l0_3 : List (S27)) (l1 : List Int) (l2 : List Int) : Option (Bool):=(table_Names.f k a0_0 a0_1 a0_2 l0_3 l1).bind fun bt163=>((table_Names.f k a0_0 a0_1 a0_2 l0_3 l2).bind fun bt165=>((coppicerkeep_grown.f k a0_0 a0_1 a0_2 l0_3 l1).bind fun t167=>(if t167 = true then ((coppicerkeep_grown.f k a0_0 a0_1 a0_2 l0_3 l2).bind fun t168=>(coppicerkeep_TableJoins.j0 k l1 l2 bt163.1 bt163.2 bt165.1 bt165.2 (!t168) a0_0 a0_1 a0_2 l0_3)) else (coppicerkeep_TableJoins.j0 k l1 l2 bt163.1 bt163.2 bt165.1 bt165.2 true a0_0 a0_1 a0_2 l0_3))))
abbrev bA0_ : Array Bool := #[false,false,false,false,false,false,false,false,false,false,false,false,false,false,false,false,false,false,false,false,false,false,false,false,false,false,false,false,false,false,false,false,false,false,false,false,false,false,false,false,false,false,false,false,false,false,false,false,false,false,false]
abbrev bA1_ : Array Bool := #[true,false,false,false,false,false,false,false,false,false,false,false,false,false,false,false,false,false,false,false,false,false,false,false,false,false,false,false,false,false,false,false,false,false,false,false,false,false,false,false,false,false,false,false,false,false,false,false,false,false,false]
abbrev bA2_ : Array Bool := #[true,true,false,false,false,false,false,false,false,false,false,false,false,false,false,false,false,false,false,false,false,false,false,false,false,false,false,false,false,false,false,false,false,false,false,false,false,false,false,false,false,false,false,false,false,false,false,false,false,false,false]
abbrev bA3_ : Array Bool := #[true,true,true,false,false,false,false,false,false,false,false,false,false,false,false,false,false,false,false,false,false,false,false,false,false,false,false,false,false,false,false,false,false,false,false,false,false,false,false,false,false,false,false,false,false,false,false,false,false,false,false]
abbrev bA4_ : Array Bool := #[true,true,true,true,false,false,false,false,false,false,false,false,false,false,false,false,false,false,false,false,false,false,false,false,false,false,false,false,false,false,false,false,false,false,false,false,false,false,false,false,false,false,false,false,false,false,false,false,false,false,false]
abbrev bA5_ : Array Bool := #[true,true,true,true,true,false,false,false,false,false,false,false,false,false,false,false,false,false,false,false,false,false,false,false,false,false,false,false,false,false,false,false,false,false,false,false,false,false,false,false,false,false,false,false,false,false,false,false,false,false,false]
abbrev bA6_ : Array Bool := #[true,true,true,true,true,true,false,false,false,false,false,false,false,false,false,false,false,false,false,false,false,false,false,false,false,false,false,false,false,false,false,false,false,false,false,false,false,false,false,false,false,false,false,false,false,false,false,false,false,false,false]
abbrev bA7_ : Array Bool := #[true,true,true,true,true,true,false,false,false,true,false,false,false,false,false,false,false,false,false,false,false,false,false,false,false,false,false,false,false,false,false,false,false,false,false,false,false,false,false,false,false,false,false,false,false,false,false,false,false,false,false]
abbrev bA8_ : Array Bool := #[true,true,true,true,true,true,true,false,false,true,false,false,false,false,false,false,false,false,false,false,false,false,false,false,false,false,false,false,false,false,false,false,false,false,false,false,false,false,false,false,false,false,false,false,false,false,false,false,false,false,false]
abbrev bA9_ : Array Bool := #[true,true,true,true,true,true,true,true,false,true,false,false,false,false,false,false,false,false,false,false,false,false,false,false,false,false,false,false,false,false,false,false,false,false,false,false,false,false,false,false,false,false,false,false,false,false,false,false,false,false,false]
abbrev bA10_ : Array Bool := #[true,true,true,true,true,true,true,true,true,true,false,false,false,false,false,false,false,false,false,false,false,false,false,false,false,false,false,false,false,false,false,false,false,false,false,false,false,false,false,false,false,false,false,false,false,false,false,false,false,false,false]
abbrev bA11_ : Array Bool := #[true,true,true,true,true,true,true,true,true,true,true,false,false,false,false,false,false,false,false,false,false,false,false,false,false,false,false,false,false,false,false,false,false,false,false,false,false,false,false,false,false,false,false,false,false,false,false,false,false,false,false]
abbrev bA12_ : Array Bool := #[true,true,true,true,true,true,true,true,true,true,true,true,false,false,false,false,false,false,false,false,false,false,false,false,false,false,false,false,false,false,false,false,false,false,false,false,false,false,false,false,false,false,false,false,false,false,false,false,false,false,false]
abbrev bA13_ : Array Bool := #[true,true,true,true,true,true,true,true,true,true,true,true,true,false,false,false,false,false,false,false,false,false,false,false,false,false,false,false,false,false,false,false,false,false,false,false,false,false,false,false,false,false,false,false,false,false,false,false,false,false,false]
abbrev bA14_ : Array Bool := #[true,true,true,true,true,true,true,true,true,true,true,true,true,true,false,false,false,false,false,false,false,false,false,false,false,false,false,false,false,false,false,false,false,false,false,false,false,false,false,false,false,false,false,false,false,false,false,false,false,false,false]
abbrev bA15_ : Array Bool := #[true,true,true,true,true,true,true,true,true,true,true,true,true,true,true,false,false,false,false,false,false,false,false,false,false,false,false,false,false,false,false,false,false,false,false,false,false,false,false,false,false,false,false,false,false,false,false,false,false,false,false]
abbrev bA16_ : Array Bool := #[true,true,true,true,true,true,true,true,true,true,true,true,true,true,true,false,false,false,true,false,false,false,false,false,false,false,false,false,false,false,false,false,false,false,false,false,false,false,false,false,false,false,false,false,false,false,false,false,false,false,false]
abbrev bA17_ : Array Bool := #[true,true,true,true,true,true,true,true,true,true,true,true,true,true,true,true,false,false,true,false,false,false,false,false,false,false,false,false,false,false,false,false,false,false,false,false,false,false,false,false,false,false,false,false,false,false,false,false,false,false,false]
abbrev bA18_ : Array Bool := #[true,true,true,true,true,true,true,true,true,true,true,true,true,true,true,true,true,false,true,false,false,false,false,false,false,false,false,false,false,false,false,false,false,false,false,false,false,false,false,false,false,false,false,false,false,false,false,false,false,false,false]
abbrev bA19_ : Array Bool := #[true,true,true,true,true,true,true,true,true,true,true,true,true,true,true,true,true,true,true,false,false,false,false,false,false,false,false,false,false,false,false,false,false,false,false,false,false,false,false,false,false,false,false,false,false,false,false,false,false,false,false]
abbrev bA20_ : Array Bool := #[true,true,true,true,true,true,true,true,true,true,true,true,true,true,true,true,true,true,true,true,false,false,false,false,false,false,false,false,false,false,false,false,false,false,false,false,false,false,false,false,false,false,false,false,false,false,false,false,false,false,false]
abbrev bA21_ : Array Bool := #[true,true,true,true,true,true,true,true,true,true,true,true,true,true,true,true,true,true,true,true,true,false,false,false,false,false,false,false,false,false,false,false,false,false,false,false,false,false,false,false,false,false,false,false,false,false,false,false,false,false,false]
abbrev bA22_ : Array Bool := #[true,true,true,true,true,true,true,true,true,true,true,true,true,true,true,true,true,true,true,true,true,true,false,false,false,false,false,false,false,false,false,false,false,false,false,false,false,false,false,false,false,false,false,false,false,false,false,false,false,false,false]
abbrev bA23_ : Array Bool := #[true,true,true,true,true,true,true,true,true,true,true,true,true,true,true,true,true,true,true,true,true,true,true,false,false,false,false,false,false,false,false,false,false,false,false,false,false,false,false,false,false,false,false,false,false,false,false,false,false,false,false]
abbrev bA24_ : Array Bool := #[true,true,true,true,true,true,true,true,true,true,true,true,true,true,true,true,true,true,true,true,true,true,true,true,false,false,false,false,false,false,false,false,false,false,false,false,false,false,false,false,false,false,false,false,false,false,false,false,false,false,false]
abbrev bA25_ : Array Bool := #[true,true,true,true,true,true,true,true,true,true,true,true,true,true,true,true,true,true,true,true,true,true,true,true,true,false,false,false,false,false,false,false,false,false,false,false,false,false,false,false,false,false,false,false,false,false,false,false,false,false,false]
abbrev bA26_ : Array Bool := #[true,true,true,true,true,true,true,true,true,true,true,true,true,true,true,true,true,true,true,true,true,true,true,true,true,false,false,false,true,false,false,false,false,false,false,false,false,false,false,false,false,false,false,false,false,false,false,false,false,false,false]
abbrev bA27_ : Array Bool := #[true,true,true,true,true,true,true,true,true,true,true,true,true,true,true,true,true,true,true,true,true,true,true,true,true,true,false,false,true,false,false,false,false,false,false,false,false,false,false,false,false,false,false,false,false,false,false,false,false,false,false]
abbrev bA28_ : Array Bool := #[true,true,true,true,true,true,true,true,true,true,true,true,true,true,true,true,true,true,true,true,true,true,true,true,true,true,true,false,true,false,false,false,false,false,false,false,false,false,false,false,false,false,false,false,false,false,false,false,false,false,false]
abbrev bA29_ : Array Bool := #[true,true,true,true,true,true,true,true,true,true,true,true,true,true,true,true,true,true,true,true,true,true,true,true,true,true,true,true,true,false,false,false,false,false,false,false,false,false,false,false,false,false,false,false,false,false,false,false,false,false,false]
abbrev bA30_ : Array Bool := #[true,true,true,true,true,true,true,true,true,true,true,true,true,true,true,true,true,true,true,true,true,true,true,true,true,true,true,true,true,true,false,false,false,false,false,false,false,false,false,false,false,false,false,false,false,false,false,false,false,false,false]
abbrev bA31_ : Array Bool := #[true,true,true,true,true,true,true,true,true,true,true,true,true,true,true,true,true,true,true,true,true,true,true,true,true,true,true,true,true,true,true,false,false,false,false,false,false,false,false,false,false,false,false,false,false,false,false,false,false,false,false]
abbrev bA32_ : Array Bool := #[true,true,true,true,true,true,true,true,true,true,true,true,true,true,true,true,true,true,true,true,true,true,true,true,true,true,true,true,true,true,true,true,false,false,false,false,false,false,false,false,false,false,false,false,false,false,false,false,false,false,false]
abbrev bA33_ : Array Bool := #[true,true,true,true,true,true,true,true,true,true,true,true,true,true,true,true,true,true,true,true,true,true,true,true,true,true,true,true,true,true,true,true,true,false,false,false,false,false,false,false,false,false,false,false,false,false,false,false,false,false,false]
abbrev bA34_ : Array Bool := #[true,true,true,true,true,true,true,true,true,true,true,true,true,true,true,true,true,true,true,true,true,true,true,true,true,true,true,true,true,true,true,true,true,true,false,false,false,false,false,false,false,false,false,false,false,false,false,false,false,false,false]
abbrev bA35_ : Array Bool := #[true,true,true,true,true,true,true,true,true,true,true,true,true,true,true,true,true,true,true,true,true,true,true,true,true,true,true,true,true,true,true,true,true,true,true,false,false,false,false,false,false,false,false,false,false,false,false,false,false,false,false]
abbrev bA36_ : Array Bool := #[true,true,true,true,true,true,true,true,true,true,true,true,true,true,true,true,true,true,true,true,true,true,true,true,true,true,true,true,true,true,true,true,true,true,true,true,false,false,false,false,false,false,false,false,false,false,false,false,false,false,false]
abbrev bA37_ : Array Bool := #[true,true,true,true,true,true,true,true,true,true,true,true,true,true,true,true,true,true,true,true,true,true,true,true,true,true,true,true,true,true,true,true,true,true,true,true,false,false,false,true,false,false,false,false,false,false,false,false,false,false,false]
abbrev bA38_ : Array Bool := #[true,true,true,true,true,true,true,true,true,true,true,true,true,true,true,true,true,true,true,true,true,true,true,true,true,true,true,true,true,true,true,true,true,true,true,true,true,false,false,true,false,false,false,false,false,false,false,false,false,false,false]
abbrev bA39_ : Array Bool := #[true,true,true,true,true,true,true,true,true,true,true,true,true,true,true,true,true,true,true,true,true,true,true,true,true,true,true,true,true,true,true,true,true,true,true,true,true,true,false,true,false,false,false,false,false,false,false,false,false,false,false]
abbrev bA40_ : Array Bool := #[true,true,true,true,true,true,true,true,true,true,true,true,true,true,true,true,true,true,true,true,true,true,true,true,true,true,true,true,true,true,true,true,true,true,true,true,true,true,true,true,false,false,false,false,false,false,false,false,false,false,false]
abbrev bA41_ : Array Bool := #[true,true,true,true,true,true,true,true,true,true,true,true,true,true,true,true,true,true,true,true,true,true,true,true,true,true,true,true,true,true,true,true,true,true,true,true,true,true,true,true,true,false,false,false,false,false,false,false,false,false,false]
abbrev bA42_ : Array Bool := #[true,true,true,true,true,true,true,true,true,true,true,true,true,true,true,true,true,true,true,true,true,true,true,true,true,true,true,true,true,true,true,true,true,true,true,true,true,true,true,true,true,true,false,false,false,false,false,false,false,false,false]
abbrev bA43_ : Array Bool := #[true,true,true,true,true,true,true,true,true,true,true,true,true,true,true,true,true,true,true,true,true,true,true,true,true,true,true,true,true,true,true,true,true,true,true,true,true,true,true,true,true,true,true,false,false,false,false,false,false,false,false]
abbrev bA44_ : Array Bool := #[true,true,true,true,true,true,true,true,true,true,true,true,true,true,true,true,true,true,true,true,true,true,true,true,true,true,true,true,true,true,true,true,true,true,true,true,true,true,true,true,true,true,true,true,false,false,false,false,false,false,false]
abbrev bA45_ : Array Bool := #[true,true,true,true,true,true,true,true,true,true,true,true,true,true,true,true,true,true,true,true,true,true,true,true,true,true,true,true,true,true,true,true,true,true,true,true,true,true,true,true,true,true,true,true,true,false,false,false,false,false,false]
abbrev bA46_ : Array Bool := #[true,true,true,true,true,true,true,true,true,true,true,true,true,true,true,true,true,true,true,true,true,true,true,true,true,true,true,true,true,true,true,true,true,true,true,true,true,true,true,true,true,true,true,true,true,true,false,false,false,false,false]
abbrev bA47_ : Array Bool := #[true,true,true,true,true,true,true,true,true,true,true,true,true,true,true,true,true,true,true,true,true,true,true,true,true,true,true,true,true,true,true,true,true,true,true,true,true,true,true,true,true,true,true,true,true,true,true,false,false,false,false]
abbrev bA48_ : Array Bool := #[true,true,true,true,true,true,true,true,true,true,true,true,true,true,true,true,true,true,true,true,true,true,true,true,true,true,true,true,true,true,true,true,true,true,true,true,true,true,true,true,true,true,true,true,true,true,true,true,false,false,false]
abbrev bA49_ : Array Bool := #[true,true,true,true,true,true,true,true,true,true,true,true,true,true,true,true,true,true,true,true,true,true,true,true,true,true,true,true,true,true,true,true,true,true,true,true,true,true,true,true,true,true,true,true,true,true,true,true,true,false,false]
abbrev bA50_ : Array Bool := #[true,true,true,true,true,true,true,true,true,true,true,true,true,true,true,true,true,true,true,true,true,true,true,true,true,true,true,true,true,true,true,true,true,true,true,true,true,true,true,true,true,true,true,true,true,true,true,true,true,true,false]
abbrev bA51_ : Array Bool := #[true,true,true,true,true,true,true,true,true,true,true,true,true,true,true,true,true,true,true,true,true,true,true,true,true,true,true,true,true,true,true,true,true,true,true,true,true,true,true,true,true,true,true,true,true,true,true,true,true,true,true]
abbrev bA52_ : Array Bool := #[true,true,true,true,true,true,true,true,true,true,true,true,true,true,true,true,true,true,true,true,true,true,true,true,true,true,true,true,true,true,true,true,true,true,true,true,true,false,false,false,false,false,false,false,false,false,false,false,false,false,false]
abbrev bA53_ : Array Bool := #[true,true,true,true,true,true,true,true,true,true,true,true,true,true,true,true,true,true,true,true,true,true,true,true,true,true,true,true,true,true,true,true,true,true,true,true,true,true,false,false,false,false,false,false,false,false,false,false,false,false,false]
abbrev bA54_ : Array Bool := #[true,true,true,true,true,true,true,true,true,true,true,true,true,true,true,true,true,true,true,true,true,true,true,true,true,true,true,true,true,true,true,true,true,true,true,true,true,true,true,false,false,false,false,false,false,false,false,false,false,false,false]
abbrev bA55_ : Array Bool := #[true,true,true,true,true,true,true,true,true,true,true,true,true,true,true,true,true,true,true,true,true,true,true,true,true,true,false,false,false,false,false,false,false,false,false,false,false,false,false,false,false,false,false,false,false,false,false,false,false,false,false]
abbrev bA56_ : Array Bool := #[true,true,true,true,true,true,true,true,true,true,true,true,true,true,true,true,true,true,true,true,true,true,true,true,true,true,true,false,false,false,false,false,false,false,false,false,false,false,false,false,false,false,false,false,false,false,false,false,false,false,false]
abbrev bA57_ : Array Bool := #[true,true,true,true,true,true,true,true,true,true,true,true,true,true,true,true,true,true,true,true,true,true,true,true,true,true,true,true,false,false,false,false,false,false,false,false,false,false,false,false,false,false,false,false,false,false,false,false,false,false,false]
abbrev bA58_ : Array Bool := #[true,true,true,true,true,true,true,true,true,true,true,true,true,true,true,true,false,false,false,false,false,false,false,false,false,false,false,false,false,false,false,false,false,false,false,false,false,false,false,false,false,false,false,false,false,false,false,false,false,false,false]
abbrev bA59_ : Array Bool := #[true,true,true,true,true,true,true,true,true,true,true,true,true,true,true,true,true,false,false,false,false,false,false,false,false,false,false,false,false,false,false,false,false,false,false,false,false,false,false,false,false,false,false,false,false,false,false,false,false,false,false]
abbrev bA60_ : Array Bool := #[true,true,true,true,true,true,true,true,true,true,true,true,true,true,true,true,true,true,false,false,false,false,false,false,false,false,false,false,false,false,false,false,false,false,false,false,false,false,false,false,false,false,false,false,false,false,false,false,false,false,false]
abbrev bA61_ : Array Bool := #[true,true,true,true,true,true,true,false,false,false,false,false,false,false,false,false,false,false,false,false,false,false,false,false,false,false,false,false,false,false,false,false,false,false,false,false,false,false,false,false,false,false,false,false,false,false,false,false,false,false,false]
abbrev bA62_ : Array Bool := #[true,true,true,true,true,true,true,true,false,false,false,false,false,false,false,false,false,false,false,false,false,false,false,false,false,false,false,false,false,false,false,false,false,false,false,false,false,false,false,false,false,false,false,false,false,false,false,false,false,false,false]
abbrev bA63_ : Array Bool := #[true,true,true,true,true,true,true,true,true,false,false,false,false,false,false,false,false,false,false,false,false,false,false,false,false,false,false,false,false,false,false,false,false,false,false,false,false,false,false,false,false,false,false,false,false,false,false,false,false,false,false]
theorem coppicerkeep_TableJoins.mono_l : ∀ k,(∀ y0 y1 y2 y3 y4 y5 y6 y7 y8 y9 y10,LeO (coppicerkeep_TableJoins.j0 k y0 y1 y2 y3 y4 y5 y6 y7 y8 y9 y10) (coppicerkeep_TableJoins.j0 (k + 1) y0 y1 y2 y3 y4 y5 y6 y7 y8 y9 y10)) ∧ (∀ y0 y1 y2 y3 y4 y5 y6 y7 y8 y9,LeO (coppicerkeep_TableJoins.j1 k y0 y1 y2 y3 y4 y5 y6 y7 y8 y9) (coppicerkeep_TableJoins.j1 (k + 1) y0 y1 y2 y3 y4 y5 y6 y7 y8 y9)) ∧ (∀ y0 y1 y2 y3 y4 y5 y6 y7 y8 y9 y10,LeO (coppicerkeep_TableJoins.l0 k y0 y1 y2 y3 y4 y5 y6 y7 y8 y9 y10) (coppicerkeep_TableJoins.l0 (k + 1) y0 y1 y2 y3 y4 y5 y6 y7 y8 y9 y10)) ∧ (∀ y0 y1 y2 y3 y4 y5 y6 y7 y8 y9 y10 y11 y12 y13,LeO (coppicerkeep_TableJoins.j3 k y0 y1 y2 y3 y4 y5 y6 y7 y8 y9 y10 y11 y12 y13) (coppicerkeep_TableJoins.j3 (k + 1) y0 y1 y2 y3 y4 y5 y6 y7 y8 y9 y10 y11 y12 y13))
 | 0=>⟨fun _ _ _ _ _ _ _ _ _ _ _ r h=>by simp [coppicerkeep_TableJoins.j0] at h,fun _ _ _ _ _ _ _ _ _ _ r h=>by simp [coppicerkeep_TableJoins.j1] at h,fun _ _ _ _ _ _ _ _ _ _ _ r h=>by simp [coppicerkeep_TableJoins.l0] at h,fun _ _ _ _ _ _ _ _ _ _ _ _ _ _ r h=>by simp [coppicerkeep_TableJoins.j3] at h⟩
 | k + 1=>by
  obtain ⟨ih0,ih1,ih2,ih3⟩:=coppicerkeep_TableJoins.mono_l k
  refine ⟨?_,?_,?_,?_⟩
  ·intro y0 y1 y2 y3 y4 y5 y6 y7 y8 y9 y10
   unfold coppicerkeep_TableJoins.j0
   repeat' first
   | (with_reducible exact ih0 _ _ _ _ _ _ _ _ _ _ _)
   | (with_reducible exact ih1 _ _ _ _ _ _ _ _ _ _)
   | (with_reducible exact ih2 _ _ _ _ _ _ _ _ _ _ _)
   | (with_reducible exact ih3 _ _ _ _ _ _ _ _ _ _ _ _ _ _)
   | (with_reducible exact coppicerkeep_grown.mono _ _ _ _ _ _)
   | (with_reducible exact coppicerref_Ints.mono _ _ _)
   | (with_reducible exact table_Names.mono _ _ _ _ _ _)
   | (with_reducible exact LeO.refl _)
   | (with_reducible exact LeO.none _)
   | (with_reducible refine LeO.ite ?_ ?_)
   | (with_reducible refine LeO.bind ?_ (fun _=>?_))
   | exact ih0 _ _ _ _ _ _ _ _ _ _ _
   | exact ih1 _ _ _ _ _ _ _ _ _ _
   | exact ih2 _ _ _ _ _ _ _ _ _ _ _
   | exact ih3 _ _ _ _ _ _ _ _ _ _ _ _ _ _
   | exact coppicerkeep_grown.mono _ _ _ _ _ _
   | exact coppicerref_Ints.mono _ _ _
   | exact table_Names.mono _ _ _ _ _ _
   | exact LeO.none _
   | refine LeO.ite ?_ ?_
   | refine LeO.bind ?_ (fun _=>?_)
  ·intro y0 y1 y2 y3 y4 y5 y6 y7 y8 y9
   unfold coppicerkeep_TableJoins.j1
   repeat' first
   | (with_reducible exact ih0 _ _ _ _ _ _ _ _ _ _ _)
   | (with_reducible exact ih1 _ _ _ _ _ _ _ _ _ _)
   | (with_reducible exact ih2 _ _ _ _ _ _ _ _ _ _ _)
   | (with_reducible exact ih3 _ _ _ _ _ _ _ _ _ _ _ _ _ _)
   | (with_reducible exact coppicerkeep_grown.mono _ _ _ _ _ _)
   | (with_reducible exact coppicerref_Ints.mono _ _ _)
   | (with_reducible exact table_Names.mono _ _ _ _ _ _)
   | (with_reducible exact LeO.refl _)
   | (with_reducible exact LeO.none _)
   | (with_reducible refine LeO.ite ?_ ?_)
   | (with_reducible refine LeO.bind ?_ (fun _=>?_))
   | exact ih0 _ _ _ _ _ _ _ _ _ _ _
   | exact ih1 _ _ _ _ _ _ _ _ _ _
   | exact ih2 _ _ _ _ _ _ _ _ _ _ _
   | exact ih3 _ _ _ _ _ _ _ _ _ _ _ _ _ _
   | exact coppicerkeep_grown.mono _ _ _ _ _ _
   | exact coppicerref_Ints.mono _ _ _
   | exact table_Names.mono _ _ _ _ _ _
   | exact LeO.none _
   | refine LeO.ite ?_ ?_
   | refine LeO.bind ?_ (fun _=>?_)
  ·intro y0 y1 y2 y3 y4 y5 y6 y7 y8 y9 y10
   unfold coppicerkeep_TableJoins.l0
   repeat' first
   | (with_reducible exact ih0 _ _ _ _ _ _ _ _ _ _ _)
   | (with_reducible exact ih1 _ _ _ _ _ _ _ _ _ _)
   | (with_reducible exact ih2 _ _ _ _ _ _ _ _ _ _ _)
   | (with_reducible exact ih3 _ _ _ _ _ _ _ _ _ _ _ _ _ _)
   | (with_reducible exact coppicerkeep_grown.mono _ _ _ _ _ _)
   | (with_reducible exact coppicerref_Ints.mono _ _ _)
   | (with_reducible exact table_Names.mono _ _ _ _ _ _)
   | (with_reducible exact LeO.refl _)
   | (with_reducible exact LeO.none _)
   | (with_reducible refine LeO.ite ?_ ?_)
   | (with_reducible refine LeO.bind ?_ (fun _=>?_))
   | exact ih0 _ _ _ _ _ _ _ _ _ _ _
   | exact ih1 _ _ _ _ _ _ _ _ _ _
   | exact ih2 _ _ _ _ _ _ _ _ _ _ _
   | exact ih3 _ _ _ _ _ _ _ _ _ _ _ _ _ _
   | exact coppicerkeep_grown.mono _ _ _ _ _ _
   | exact coppicerref_Ints.mono _ _ _
   | exact table_Names.mono _ _ _ _ _ _
   | exact LeO.none _
   | refine LeO.ite ?_ ?_
   | refine LeO.bind ?_ (fun _=>?_)
  ·intro y0 y1 y2 y3 y4 y5 y6 y7 y8 y9 y10 y11 y12 y13
   unfold coppicerkeep_TableJoins.j3
   repeat' first
   | (with_reducible exact ih0 _ _ _ _ _ _ _ _ _ _ _)
   | (with_reducible exact ih1 _ _ _ _ _ _ _ _ _ _)
   | (with_reducible exact ih2 _ _ _ _ _ _ _ _ _ _ _)
   | (with_reducible exact ih3 _ _ _ _ _ _ _ _ _ _ _ _ _ _)
   | (with_reducible exact coppicerkeep_grown.mono _ _ _ _ _ _)
   | (with_reducible exact coppicerref_Ints.mono _ _ _)
   | (with_reducible exact table_Names.mono _ _ _ _ _ _)
   | (with_reducible exact LeO.refl _)
   | (with_reducible exact LeO.none _)
   | (with_reducible refine LeO.ite ?_ ?_)
   | (with_reducible refine LeO.bind ?_ (fun _=>?_))
   | exact ih0 _ _ _ _ _ _ _ _ _ _ _
   | exact ih1 _ _ _ _ _ _ _ _ _ _
   | exact ih2 _ _ _ _ _ _ _ _ _ _ _
   | exact ih3 _ _ _ _ _ _ _ _ _ _ _ _ _ _
   | exact coppicerkeep_grown.mono _ _ _ _ _ _
   | exact coppicerref_Ints.mono _ _ _
   | exact table_Names.mono _ _ _ _ _ _
   | exact LeO.none _
   | refine LeO.ite ?_ ?_
   | refine LeO.bind ?_ (fun _=>?_)
theorem coppicerkeep_TableJoins.mono : ∀ a0 a1 a2 a3 a4 a5 k,LeO (coppicerkeep_TableJoins.f k a0 a1 a2 a3 a4 a5) (coppicerkeep_TableJoins.f (k + 1) a0 a1 a2 a3 a4 a5):=by
 intro a0 a1 a2 a3 a4 a5 k
 obtain ⟨ih0,ih1,ih2,ih3⟩:=coppicerkeep_TableJoins.mono_l k
 unfold coppicerkeep_TableJoins.f
 repeat' first
   | (with_reducible exact ih0 _ _ _ _ _ _ _ _ _ _ _)
   | (with_reducible exact ih1 _ _ _ _ _ _ _ _ _ _)
   | (with_reducible exact ih2 _ _ _ _ _ _ _ _ _ _ _)
   | (with_reducible exact ih3 _ _ _ _ _ _ _ _ _ _ _ _ _ _)
   | (with_reducible exact coppicerkeep_grown.mono _ _ _ _ _ _)
   | (with_reducible exact coppicerref_Ints.mono _ _ _)
   | (with_reducible exact table_Names.mono _ _ _ _ _ _)
   | (with_reducible exact LeO.refl _)
   | (with_reducible exact LeO.none _)
   | (with_reducible refine LeO.ite ?_ ?_)
   | (with_reducible refine LeO.bind ?_ (fun _=>?_))
   | exact ih0 _ _ _ _ _ _ _ _ _ _ _
   | exact ih1 _ _ _ _ _ _ _ _ _ _
   | exact ih2 _ _ _ _ _ _ _ _ _ _ _
   | exact ih3 _ _ _ _ _ _ _ _ _ _ _ _ _ _
   | exact coppicerkeep_grown.mono _ _ _ _ _ _
   | exact coppicerref_Ints.mono _ _ _
   | exact table_Names.mono _ _ _ _ _ _
   | exact LeO.none _
   | refine LeO.ite ?_ ?_
   | refine LeO.bind ?_ (fun _=>?_)
def coppicerkeep_TableJoins.T16 : Bool × List (List Nat × List Nat):=(true,[([],[]),([0],[0]),([1],[1]),([2],[2]),([3],[3]),([4],[4]),([5,4],[4,5]),([6,4],[4,6]),([7,4],[4,7]),([4],[4]),([9,4],[4,9]),([8,10,4],[4,8,10]),([4,11],[4,11]),([12,4],[12]),([13],[13]),([14,13],[13,14]),([15,13],[13,15]),([16,13],[13,16]),([13],[13]),([18,13],[13,18]),([17,19,13],[13,17,19]),([13,20],[13,20]),([21,13],[21]),([22],[22]),([22],[22]),([24,22],[22,24]),([25,22],[22,25]),([26,22],[22,26]),([22],[22]),([28,22],[22,28]),([27,29,22],[22,27,29]),([23,30,22,22],[22,23,30]),([22,31],[22,31]),([32,31],[32]),([33],[33]),([33],[33]),([35,33],[33,35]),([36,33],[33,36]),([37,33],[33,37]),([33],[33]),([39,33],[33,39]),([38,40,33],[33,38,40]),([34,41,33,33],[33,34,41]),([33,42],[33,42]),([43,42],[43]),([44],[44]),([44],[44]),([46,44],[44,46]),([45,47,44,44],[44,45,47]),([48,44],[44,48]),([44,49],[44,49])])
def coppicerkeep_TableJoins.B16 : List Nat:=[0,1,3,7,15,31,63,127,255,31,543,2047,4095,8191,16383,32767,65535,131071,16383,278527,1048575,2097151,4194303,8388607,8388607,25165823,58720255,125829119,8388607,276824063,1065353215,2147483647,4294967295,8589934591,17179869183,17179869183,51539607551,120259084287,257698037759,17179869183,566935683071,2181843386367,4398046511103,8796093022207,17592186044415,35184372088831,35184372088831,105553116266495,281474976710655,562949953421311,1125899906842623]
theorem coppicerkeep_TableJoins.tab16 : rtab .any (opsOf Try.f4 16) = coppicerkeep_TableJoins.T16:=by kernel_rfl
theorem coppicerkeep_TableJoins.bits16 : waitsOk coppicerkeep_TableJoins.T16.2 coppicerkeep_TableJoins.B16 = true:=by kernel_rfl
set_option maxHeartbeats 8000000 in
set_option maxRecDepth 100000 in
theorem coppicerkeep_TableJoins.calls (k : Nat) (a0_0 : Int) (a0_1 : Int) (a0_2 : Int) (A0_3 : Option Addr) (c0_3 : Nat) (l0_3 : List (S27)) (A1 : Option Addr) (c1 : Nat) (l1 : List Int) (A2 : Option Addr) (c2 : Nat) (l2 : List Int) (r : Bool) (w : World) (hr0_3 : Kd.C k27 w A0_3 l0_3.length l0_3) (hc0_3 : l0_3.length ≤ c0_3) (hr1 : Kd.C (Kd.int .i64) w A1 l1.length l1) (hc1 : l1.length ≤ c1) (hr2 : Kd.C (Kd.int .i64) w A2 l2.length l2) (hc2 : l2.length ≤ c2) (h : coppicerkeep_TableJoins.f k a0_0 a0_1 a0_2 l0_3 l1 l2 = some r) :
  Calls Try.prog 4 #[.agg #[.int .i64 a0_0,.int .i64 a0_1,.int .i64 a0_2,.slice A0_3 l0_3.length c0_3],.slice A1 l1.length c1,.slice A2 l2.length c2] w fun e w'=>e = .returned (.bool r) ∧ Below w.heap.size w w':=by
 have hu24:=Try.underlying24
 have hu27:=Try.underlying27
 have HR0_3:=Aside0.mk hr0_3
 have HC0_3:=Aside0.mk hc0_3
 clear hr0_3 hc0_3
 have HR1:=Aside0.mk hr1
 have HC1:=Aside0.mk hc1
 clear hr1 hc1
 have HR2:=Aside0.mk hr2
 have HC2:=Aside0.mk hc2
 clear hr2 hc2
 have HB:=Aside0.mk (Below.refl w.heap.size w)
 have H : ((table_Names.f k a0_0 a0_1 a0_2 l0_3 l1).bind fun bt163=>((table_Names.f k a0_0 a0_1 a0_2 l0_3 l2).bind fun bt165=>((coppicerkeep_grown.f k a0_0 a0_1 a0_2 l0_3 l1).bind fun t167=>(if t167 = true then ((coppicerkeep_grown.f k a0_0 a0_1 a0_2 l0_3 l2).bind fun t168=>(coppicerkeep_TableJoins.j0 k l1 l2 bt163.1 bt163.2 bt165.1 bt165.2 (!t168) a0_0 a0_1 a0_2 l0_3)) else (coppicerkeep_TableJoins.j0 k l1 l2 bt163.1 bt163.2 bt165.1 bt165.2 true a0_0 a0_1 a0_2 l0_3))))) = some r:=h
 clear h
 replace H:=Option.bind_eq_some_iff.mp H
 obtain ⟨⟨t163,t164⟩,A40,H⟩:=H
 replace H : ((table_Names.f k a0_0 a0_1 a0_2 l0_3 l2).bind fun bt165=>((coppicerkeep_grown.f k a0_0 a0_1 a0_2 l0_3 l1).bind fun t167=>(if t167 = true then ((coppicerkeep_grown.f k a0_0 a0_1 a0_2 l0_3 l2).bind fun t168=>(coppicerkeep_TableJoins.j0 k l1 l2 t163 t164 bt165.1 bt165.2 (!t168) a0_0 a0_1 a0_2 l0_3)) else (coppicerkeep_TableJoins.j0 k l1 l2 t163 t164 bt165.1 bt165.2 true a0_0 a0_1 a0_2 l0_3)))) = some r:=H
 have A4:=Aside0.mk A40
 clear A40
 replace H:=Option.bind_eq_some_iff.mp H
 obtain ⟨⟨t165,t166⟩,A50,H⟩:=H
 replace H : ((coppicerkeep_grown.f k a0_0 a0_1 a0_2 l0_3 l1).bind fun t167=>(if t167 = true then ((coppicerkeep_grown.f k a0_0 a0_1 a0_2 l0_3 l2).bind fun t168=>(coppicerkeep_TableJoins.j0 k l1 l2 t163 t164 t165 t166 (!t168) a0_0 a0_1 a0_2 l0_3)) else (coppicerkeep_TableJoins.j0 k l1 l2 t163 t164 t165 t166 true a0_0 a0_1 a0_2 l0_3))) = some r:=H
 have A5:=Aside0.mk A50
 clear A50
 have HC6:=Aside0.mk H
 clear H
 go_enter Try.func4,Try.ntmps4
 go_upto_region 3 with (first|((with_reducible refine gate_dst (N:=3) rfl ?_);refine box_event ?hg (N:=3) ?hd (cs:=#[.int .i64 a0_0,.int .i64 a0_1,.int .i64 a0_2,.slice A0_3 l0_3.length c0_3]) (t:=24) ?hr ?_;(case hd=>rfl);(case hg=>rfl);(case hr=>first|(go_simp;done)|(go_simp;rfl));intro gb162 hg w7 hbox hb;have n0_:=Aside0.mk (below_step (by repeat (first|(with_reducible first|exact HB.out|apply below_alloc|apply pw_below_drewN|apply below_drew1)|exact HB.out)) hb);have n1_:=Aside0.mk (hbox);have n2_:=Aside0.mk ((by rw [hg];exact (below_size (by repeat (first|(with_reducible first|exact HB.out|apply below_alloc|apply pw_below_drewN|apply below_drew1)|exact HB.out))) : w.heap.size ≤ gb162));have n3_:=Aside0.mk ((by rw [hg];exact (below_size (by repeat (first|(with_reducible first|exact HB.out|apply below_alloc|apply pw_below_drewN|apply below_drew1)|exact HB.out))) : w.heap.size ≤ gb162));clear HB;have HB:=n0_;have BK162:=n1_;have GW162:=n2_;have GE162:=n3_;clear n0_ n1_ n2_ n3_;clear hb hbox hg;have hcz8_0 : w7.cell? ⟨gb162,0,none⟩ = some (.int .i64 a0_0):=(blk_cell BK162.out 0).trans rfl;have hcz8_1 : w7.cell? ⟨gb162,1,none⟩ = some (.int .i64 a0_1):=(blk_cell BK162.out 1).trans rfl;have hcz8_2 : w7.cell? ⟨gb162,2,none⟩ = some (.int .i64 a0_2):=(blk_cell BK162.out 2).trans rfl;have hcz8_3 : w7.cell? ⟨gb162,3,none⟩ = some (.slice A0_3 l0_3.length c0_3):=(blk_cell BK162.out 3).trans rfl;have hfz8_0:=blk_frozen BK162.out 0;have hfz8_1:=blk_frozen BK162.out 1;have hfz8_2:=blk_frozen BK162.out 2;have hfz8_3:=blk_frozen BK162.out 3)|((with_reducible refine gate_callee (f:=20) rfl ?_);refine goesL_ (some 19) rfl rfl Try.func20 (by kernel_rfl) rfl #[.agg #[.int .i64 a0_0,.int .i64 a0_1,.int .i64 a0_2,.slice A0_3 l0_3.length c0_3],.slice A1 l1.length c1] rfl (by (try simp only [List.map_toArray,List.map_cons,List.map_nil]);first|done|rfl|(simp only [List.length_drop,List.length_take];rfl)) ?_;(with_reducible refine (table_Names.calls k a0_0 a0_1 a0_2 _ _ l0_3 _ _ l1 t163 t164 _ ?side1 ?side2 ?side3 ?side4 A4.out).mono ?_);(case side1=>repeat (first|exact (Kd.C_below HR0_3.out HB.out)|(with_reducible refine Kd.C_alloc ?_ _)|(with_reducible refine Kd.C_drewN ?_ _)|(with_reducible refine Kd.C_drew ?_)));(case side2=>exact HC0_3.out);(case side3=>repeat (first|exact (Kd.C_below HR1.out HB.out)|(with_reducible refine Kd.C_alloc ?_ _)|(with_reducible refine Kd.C_drewN ?_ _)|(with_reducible refine Kd.C_drew ?_)));(case side4=>exact HC1.out);rintro e w9 ⟨rfl,hb⟩;refine ⟨_,rfl,?_⟩;have n0_:=Aside0.mk (blk_below (g:=gb162) (o:=.cells #[.int .i64 a0_0,.int .i64 a0_1,.int .i64 a0_2,.slice A0_3 l0_3.length c0_3] 24 (0,0)) (by (with_reducible repeat (first|refine blk_drewN ?_ _|refine blk_drew ?_|refine blk_alloc ?_ _));exact BK162.out) hb);have n1_:=Aside0.mk (below_step (by repeat (first|(with_reducible first|exact HB.out|apply below_alloc|apply pw_below_drewN|apply below_drew1|refine below_set ?_ GE162.out)|exact HB.out)) hb);clear BK162;clear HB;have BK162:=n0_;have HB:=n1_;clear n0_ n1_;(try clear hb);(try clear hb2);(try clear hk);(try clear hi);have hcz10_0 : w9.cell? ⟨gb162,0,none⟩ = some (.int .i64 a0_0):=(blk_cell BK162.out 0).trans rfl;have hcz10_1 : w9.cell? ⟨gb162,1,none⟩ = some (.int .i64 a0_1):=(blk_cell BK162.out 1).trans rfl;have hcz10_2 : w9.cell? ⟨gb162,2,none⟩ = some (.int .i64 a0_2):=(blk_cell BK162.out 2).trans rfl;have hcz10_3 : w9.cell? ⟨gb162,3,none⟩ = some (.slice A0_3 l0_3.length c0_3):=(blk_cell BK162.out 3).trans rfl;have hfz10_0:=blk_frozen BK162.out 0;have hfz10_1:=blk_frozen BK162.out 1;have hfz10_2:=blk_frozen BK162.out 2;have hfz10_3:=blk_frozen BK162.out 3)|((with_reducible refine gate_callee (f:=20) rfl ?_);refine goesL_ (some 25) rfl rfl Try.func20 (by kernel_rfl) rfl #[.agg #[.int .i64 a0_0,.int .i64 a0_1,.int .i64 a0_2,.slice A0_3 l0_3.length c0_3],.slice A2 l2.length c2] rfl (by (try simp only [List.map_toArray,List.map_cons,List.map_nil]);first|done|rfl|(simp only [List.length_drop,List.length_take];rfl)) ?_;(with_reducible refine (table_Names.calls k a0_0 a0_1 a0_2 _ _ l0_3 _ _ l2 t165 t166 _ ?side1 ?side2 ?side3 ?side4 A5.out).mono ?_);(case side1=>repeat (first|exact (Kd.C_below HR0_3.out HB.out)|(with_reducible refine Kd.C_alloc ?_ _)|(with_reducible refine Kd.C_drewN ?_ _)|(with_reducible refine Kd.C_drew ?_)));(case side2=>exact HC0_3.out);(case side3=>repeat (first|exact (Kd.C_below HR2.out HB.out)|(with_reducible refine Kd.C_alloc ?_ _)|(with_reducible refine Kd.C_drewN ?_ _)|(with_reducible refine Kd.C_drew ?_)));(case side4=>exact HC2.out);rintro e w11 ⟨rfl,hb⟩;refine ⟨_,rfl,?_⟩;have n0_:=Aside0.mk (blk_below (g:=gb162) (o:=.cells #[.int .i64 a0_0,.int .i64 a0_1,.int .i64 a0_2,.slice A0_3 l0_3.length c0_3] 24 (0,0)) (by (with_reducible repeat (first|refine blk_drewN ?_ _|refine blk_drew ?_|refine blk_alloc ?_ _));exact BK162.out) hb);have n1_:=Aside0.mk (below_step (by repeat (first|(with_reducible first|exact HB.out|apply below_alloc|apply pw_below_drewN|apply below_drew1|refine below_set ?_ GE162.out)|exact HB.out)) hb);clear BK162;clear HB;have BK162:=n0_;have HB:=n1_;clear n0_ n1_;(try clear hb);(try clear hb2);(try clear hk);(try clear hi)))
 (try simp only [Act.put,List.setIfInBounds_toArray,List.set_cons_zero,List.set_cons_succ])
 go_cut [37] (fun v37 wc=>∃ (kq : Nat) (x37_5 : Bool),v37 = .bool x37_5 ∧ Aside0 (coppicerkeep_TableJoins.j0 kq l1 l2 t163 t164 t165 t166 x37_5 a0_0 a0_1 a0_2 l0_3 = some r) ∧ Aside0 (kq ≤ k) ∧ Aside0 (wc.heap[gb162]? = some (.cells #[.int .i64 a0_0,.int .i64 a0_1,.int .i64 a0_2,(.slice A0_3 l0_3.length c0_3)] 24 (0,0))) ∧ Aside0 (Below w.heap.size w wc))
 case first =>
  have H:=HC6.out
  clear HC6
  replace H:=Option.bind_eq_some_iff.mp H
  obtain ⟨t167,A120,H⟩:=H
  replace H : (if t167 = true then ((coppicerkeep_grown.f k a0_0 a0_1 a0_2 l0_3 l2).bind fun t168=>(coppicerkeep_TableJoins.j0 k l1 l2 t163 t164 t165 t166 (!t168) a0_0 a0_1 a0_2 l0_3)) else (coppicerkeep_TableJoins.j0 k l1 l2 t163 t164 t165 t166 true a0_0 a0_1 a0_2 l0_3)) = some r:=H
  have A12:=Aside0.mk A120
  clear A120
  by_cases c13 : t167 = true
  ·subst c13
   have H1 : ((coppicerkeep_grown.f k a0_0 a0_1 a0_2 l0_3 l2).bind fun t168=>(coppicerkeep_TableJoins.j0 k l1 l2 t163 t164 t165 t166 (!t168) a0_0 a0_1 a0_2 l0_3)) = some r:=by rw [if_pos rfl] at H;exact H
   clear H
   have H:=H1
   clear H1
   replace H:=Option.bind_eq_some_iff.mp H
   obtain ⟨t168,A140,H⟩:=H
   replace H : (coppicerkeep_TableJoins.j0 k l1 l2 t163 t164 t165 t166 (!t168) a0_0 a0_1 a0_2 l0_3) = some r:=H
   have A14:=Aside0.mk A140
   clear A140
   have H':=Aside0.mk H
   clear H
   have hcz15_0 : w11.cell? ⟨gb162,0,none⟩ = some (.int .i64 a0_0):=(blk_cell BK162.out 0).trans rfl
   have hcz15_1 : w11.cell? ⟨gb162,1,none⟩ = some (.int .i64 a0_1):=(blk_cell BK162.out 1).trans rfl
   have hcz15_2 : w11.cell? ⟨gb162,2,none⟩ = some (.int .i64 a0_2):=(blk_cell BK162.out 2).trans rfl
   have hcz15_3 : w11.cell? ⟨gb162,3,none⟩ = some (.slice A0_3 l0_3.length c0_3):=(blk_cell BK162.out 3).trans rfl
   have hfz15_0:=blk_frozen BK162.out 0
   have hfz15_1:=blk_frozen BK162.out 1
   have hfz15_2:=blk_frozen BK162.out 2
   have hfz15_3:=blk_frozen BK162.out 3
   go_wp2_with (first|((with_reducible refine gate_callee (f:=21) rfl ?_);refine goesL_ (some 30) rfl rfl Try.func21 (by kernel_rfl) rfl #[.agg #[.int .i64 a0_0,.int .i64 a0_1,.int .i64 a0_2,.slice A0_3 l0_3.length c0_3],.slice A1 l1.length c1] rfl (by (try simp only [List.map_toArray,List.map_cons,List.map_nil]);first|done|rfl|(simp only [List.length_drop,List.length_take];rfl)) ?_;(with_reducible refine (coppicerkeep_grown.calls k a0_0 a0_1 a0_2 _ _ l0_3 _ _ l1 true _ ?side1 ?side2 ?side3 ?side4 A12.out).mono ?_);(case side1=>repeat (first|exact (Kd.C_below HR0_3.out HB.out)|(with_reducible refine Kd.C_alloc ?_ _)|(with_reducible refine Kd.C_drewN ?_ _)|(with_reducible refine Kd.C_drew ?_)));(case side2=>exact HC0_3.out);(case side3=>repeat (first|exact (Kd.C_below HR1.out HB.out)|(with_reducible refine Kd.C_alloc ?_ _)|(with_reducible refine Kd.C_drewN ?_ _)|(with_reducible refine Kd.C_drew ?_)));(case side4=>exact HC1.out);rintro e w16 ⟨rfl,hb⟩;refine ⟨_,rfl,?_⟩;have n0_:=Aside0.mk (blk_below (g:=gb162) (o:=.cells #[.int .i64 a0_0,.int .i64 a0_1,.int .i64 a0_2,.slice A0_3 l0_3.length c0_3] 24 (0,0)) (by (with_reducible repeat (first|refine blk_drewN ?_ _|refine blk_drew ?_|refine blk_alloc ?_ _));exact BK162.out) hb);have n1_:=Aside0.mk (below_step (by repeat (first|(with_reducible first|exact HB.out|apply below_alloc|apply pw_below_drewN|apply below_drew1|refine below_set ?_ GE162.out)|exact HB.out)) hb);clear BK162;clear HB;have BK162:=n0_;have HB:=n1_;clear n0_ n1_;(try clear hb);(try clear hb2);(try clear hk);(try clear hi);have hcz17_0 : w16.cell? ⟨gb162,0,none⟩ = some (.int .i64 a0_0):=(blk_cell BK162.out 0).trans rfl;have hcz17_1 : w16.cell? ⟨gb162,1,none⟩ = some (.int .i64 a0_1):=(blk_cell BK162.out 1).trans rfl;have hcz17_2 : w16.cell? ⟨gb162,2,none⟩ = some (.int .i64 a0_2):=(blk_cell BK162.out 2).trans rfl;have hcz17_3 : w16.cell? ⟨gb162,3,none⟩ = some (.slice A0_3 l0_3.length c0_3):=(blk_cell BK162.out 3).trans rfl;have hfz17_0:=blk_frozen BK162.out 0;have hfz17_1:=blk_frozen BK162.out 1;have hfz17_2:=blk_frozen BK162.out 2;have hfz17_3:=blk_frozen BK162.out 3)|(go_at_call 21;(with_reducible refine (coppicerkeep_grown.calls k a0_0 a0_1 a0_2 _ _ l0_3 _ _ l2 t168 _ ?side1 ?side2 ?side3 ?side4 A14.out).mono ?_);(case side1=>repeat (first|exact (Kd.C_below HR0_3.out HB.out)|(with_reducible refine Kd.C_alloc ?_ _)|(with_reducible refine Kd.C_drewN ?_ _)|(with_reducible refine Kd.C_drew ?_)));(case side2=>exact HC0_3.out);(case side3=>repeat (first|exact (Kd.C_below HR2.out HB.out)|(with_reducible refine Kd.C_alloc ?_ _)|(with_reducible refine Kd.C_drewN ?_ _)|(with_reducible refine Kd.C_drew ?_)));(case side4=>exact HC2.out);rintro e w18 ⟨rfl,hb⟩;have n0_:=Aside0.mk (blk_below (g:=gb162) (o:=.cells #[.int .i64 a0_0,.int .i64 a0_1,.int .i64 a0_2,.slice A0_3 l0_3.length c0_3] 24 (0,0)) (by (with_reducible repeat (first|refine blk_drewN ?_ _|refine blk_drew ?_|refine blk_alloc ?_ _));exact BK162.out) hb);have n1_:=Aside0.mk (below_step (by repeat (first|(with_reducible first|exact HB.out|apply below_alloc|apply pw_below_drewN|apply below_drew1|refine below_set ?_ GE162.out)|exact HB.out)) hb);clear BK162;clear HB;have BK162:=n0_;have HB:=n1_;clear n0_ n1_;(try clear hb);(try clear hb2);(try clear hk);(try clear hi)))
   go_meet
   case rel=>exact ⟨_,(!t168),(by first|rfl|(simp;done)|(simp [*];done)),H',⟨by first|omega|exact Nat.le_refl _⟩,⟨by (with_reducible repeat (first|refine blk_drewN ?_ _|refine blk_drew ?_|refine blk_alloc ?_ _));exact BK162.out⟩,⟨by repeat (first|(with_reducible first|exact HB.out|apply below_alloc|apply pw_below_drewN|apply below_drew1|refine below_set ?_ GE162.out)|exact HB.out)⟩⟩
  ·replace c13:=Bool.eq_false_iff.mpr c13
   subst c13
   have H1 : (coppicerkeep_TableJoins.j0 k l1 l2 t163 t164 t165 t166 true a0_0 a0_1 a0_2 l0_3) = some r:=by rw [if_neg (show ¬ (false = true) by decide)] at H;exact H
   clear H
   have H:=H1
   clear H1
   have H':=Aside0.mk H
   clear H
   have hcz19_0 : w11.cell? ⟨gb162,0,none⟩ = some (.int .i64 a0_0):=(blk_cell BK162.out 0).trans rfl
   have hcz19_1 : w11.cell? ⟨gb162,1,none⟩ = some (.int .i64 a0_1):=(blk_cell BK162.out 1).trans rfl
   have hcz19_2 : w11.cell? ⟨gb162,2,none⟩ = some (.int .i64 a0_2):=(blk_cell BK162.out 2).trans rfl
   have hcz19_3 : w11.cell? ⟨gb162,3,none⟩ = some (.slice A0_3 l0_3.length c0_3):=(blk_cell BK162.out 3).trans rfl
   have hfz19_0:=blk_frozen BK162.out 0
   have hfz19_1:=blk_frozen BK162.out 1
   have hfz19_2:=blk_frozen BK162.out 2
   have hfz19_3:=blk_frozen BK162.out 3
   go_wp2_with (first|((with_reducible refine gate_callee (f:=21) rfl ?_);refine goesL_ (some 30) rfl rfl Try.func21 (by kernel_rfl) rfl #[.agg #[.int .i64 a0_0,.int .i64 a0_1,.int .i64 a0_2,.slice A0_3 l0_3.length c0_3],.slice A1 l1.length c1] rfl (by (try simp only [List.map_toArray,List.map_cons,List.map_nil]);first|done|rfl|(simp only [List.length_drop,List.length_take];rfl)) ?_;(with_reducible refine (coppicerkeep_grown.calls k a0_0 a0_1 a0_2 _ _ l0_3 _ _ l1 false _ ?side1 ?side2 ?side3 ?side4 A12.out).mono ?_);(case side1=>repeat (first|exact (Kd.C_below HR0_3.out HB.out)|(with_reducible refine Kd.C_alloc ?_ _)|(with_reducible refine Kd.C_drewN ?_ _)|(with_reducible refine Kd.C_drew ?_)));(case side2=>exact HC0_3.out);(case side3=>repeat (first|exact (Kd.C_below HR1.out HB.out)|(with_reducible refine Kd.C_alloc ?_ _)|(with_reducible refine Kd.C_drewN ?_ _)|(with_reducible refine Kd.C_drew ?_)));(case side4=>exact HC1.out);rintro e w20 ⟨rfl,hb⟩;refine ⟨_,rfl,?_⟩;have n0_:=Aside0.mk (blk_below (g:=gb162) (o:=.cells #[.int .i64 a0_0,.int .i64 a0_1,.int .i64 a0_2,.slice A0_3 l0_3.length c0_3] 24 (0,0)) (by (with_reducible repeat (first|refine blk_drewN ?_ _|refine blk_drew ?_|refine blk_alloc ?_ _));exact BK162.out) hb);have n1_:=Aside0.mk (below_step (by repeat (first|(with_reducible first|exact HB.out|apply below_alloc|apply pw_below_drewN|apply below_drew1|refine below_set ?_ GE162.out)|exact HB.out)) hb);clear BK162;clear HB;have BK162:=n0_;have HB:=n1_;clear n0_ n1_;(try clear hb);(try clear hb2);(try clear hk);(try clear hi)))
   go_meet
   case rel=>exact ⟨_,(true),(by first|rfl|(simp;done)|(simp [*];done)),H',⟨by first|omega|exact Nat.le_refl _⟩,⟨by (with_reducible repeat (first|refine blk_drewN ?_ _|refine blk_drew ?_|refine blk_alloc ?_ _));exact BK162.out⟩,⟨by repeat (first|(with_reducible first|exact HB.out|apply below_alloc|apply pw_below_drewN|apply below_drew1|refine below_set ?_ GE162.out)|exact HB.out)⟩⟩
 case rest =>
  clear HC6
  try clear c1
  try clear c2
  try clear p2
  try clear c4
  try clear c13
  try clear c20
  try clear hcz10_0
  try clear hcz10_1
  try clear hcz10_2
  try clear hcz10_3
  try clear hcz15_0
  try clear hcz15_1
  try clear hcz15_2
  try clear hcz15_3
  try clear hcz17_0
  try clear hcz17_1
  try clear hcz17_2
  try clear hcz17_3
  try clear hcz19_0
  try clear hcz19_1
  try clear hcz19_2
  try clear hcz19_3
  try clear hcz8_0
  try clear hcz8_1
  try clear hcz8_2
  try clear hcz8_3
  try clear hfz10_0
  try clear hfz10_1
  try clear hfz10_2
  try clear hfz10_3
  try clear hfz15_0
  try clear hfz15_1
  try clear hfz15_2
  try clear hfz15_3
  try clear hfz17_0
  try clear hfz17_1
  try clear hfz17_2
  try clear hfz17_3
  try clear hfz19_0
  try clear hfz19_1
  try clear hfz19_2
  try clear hfz19_3
  try clear hfz8_0
  try clear hfz8_1
  try clear hfz8_2
  try clear hfz8_3
  obtain ⟨kq,x37_5,rfl,HA,HJ5,BK162,HB⟩:=hcut
  cases kq with
  | zero=>exact absurd HA.out (by simp [coppicerkeep_TableJoins.j0])
  | succ kj5 =>
   have H:=HA.out
   clear HA
   simp only [coppicerkeep_TableJoins.j0] at H
   by_cases c21 : x37_5 = true
   ·subst c21
    have H1 : (if t164 = 0 then (some (t166 != 0)) else (some true)) = some r:=by rw [if_pos rfl] at H;exact H
    clear H
    have H:=H1
    clear H1
    by_cases c22 : t164 = 0
    ·rw [if_pos c22] at H
     have c22b0 : (t164 == 0) = true:=beq_iff_eq.mpr c22
     have c22b1 : (t164 != 0) = false:=bne_eq_false_iff_eq.mpr c22
     clear c22
     obtain rfl:=Option.some.inj H
     go_wp2
     go_ret
     exact ⟨by first|rfl|(simp [errW_none,errW_some] <;> rfl)|(simp [*,errW_none,errW_some] <;> rfl),by repeat (first|(with_reducible first|exact HB.out|apply below_alloc|apply pw_below_drewN|apply below_drew1|refine below_set ?_ GE162.out)|exact HB.out)⟩
    ·rw [if_neg c22] at H
     have c22b0 : (t164 == 0) = false:=beq_eq_false_iff_ne.mpr c22
     have c22b1 : (t164 != 0) = true:=bne_iff_ne.mpr c22
     obtain rfl:=Option.some.inj H
     go_wp2
     go_ret
     exact ⟨by first|rfl|(simp [errW_none,errW_some] <;> rfl)|(simp [*,errW_none,errW_some] <;> rfl),by repeat (first|(with_reducible first|exact HB.out|apply below_alloc|apply pw_below_drewN|apply below_drew1|refine below_set ?_ GE162.out)|exact HB.out)⟩
   ·replace c21:=Bool.eq_false_iff.mpr c21
    subst c21
    have H1 : ((some (([] : List Int) : List Int)).bind fun y169=>(if y169.length + l1.length < 17592186044416 then ((some (y169 ++ l1 : List Int)).bind fun y172=>(if y172.length + l2.length < 17592186044416 then ((some (y172 ++ l2 : List Int)).bind fun y175=>((table_Names.f kj5 a0_0 a0_1 a0_2 l0_3 y175).bind fun bt178=>(if t164 = 0 then (coppicerkeep_TableJoins.j1 kj5 t163 t165 y175 bt178.1 bt178.2 (t166 != 0) a0_0 a0_1 a0_2 l0_3) else (coppicerkeep_TableJoins.j1 kj5 t163 t165 y175 bt178.1 bt178.2 true a0_0 a0_1 a0_2 l0_3)))) else (none))) else (none))) = some r:=by rw [if_neg (show ¬ (false = true) by decide)] at H;exact H
    clear H
    have H:=H1
    clear H1
    obtain ⟨y169,hy169⟩ : ∃ y_ : List Int,y_ = (([] : List Int)):=⟨_,rfl⟩
    replace H : (if y169.length + l1.length < 17592186044416 then ((some (y169 ++ l1 : List Int)).bind fun y172=>(if y172.length + l2.length < 17592186044416 then ((some (y172 ++ l2 : List Int)).bind fun y175=>((table_Names.f kj5 a0_0 a0_1 a0_2 l0_3 y175).bind fun bt178=>(if t164 = 0 then (coppicerkeep_TableJoins.j1 kj5 t163 t165 y175 bt178.1 bt178.2 (t166 != 0) a0_0 a0_1 a0_2 l0_3) else (coppicerkeep_TableJoins.j1 kj5 t163 t165 y175 bt178.1 bt178.2 true a0_0 a0_1 a0_2 l0_3)))) else (none))) else (none)) = some r:=by first|(rw [hy169];with_reducible exact H)|(have H2_:=(Option.bind_some _ _).symm.trans H;rw [hy169];with_reducible exact H2_)|(have H2_:=(Option.bind_some _ _).symm.trans H;with_reducible exact H2_)|with_reducible exact H|(rw [hy169];exact H)|exact H
    have Ny169:=Aside0.mk hy169
    clear hy169
    by_cases c23 : y169.length + l1.length < 17592186044416
    ·rw [if_pos c23] at H
     have LMc23:=Aside0.mk c23
     clear c23
     obtain ⟨y172,hy172⟩ : ∃ y_ : List Int,y_ = (y169 ++ l1):=⟨_,rfl⟩
     replace H : (if y172.length + l2.length < 17592186044416 then ((some (y172 ++ l2 : List Int)).bind fun y175=>((table_Names.f kj5 a0_0 a0_1 a0_2 l0_3 y175).bind fun bt178=>(if t164 = 0 then (coppicerkeep_TableJoins.j1 kj5 t163 t165 y175 bt178.1 bt178.2 (t166 != 0) a0_0 a0_1 a0_2 l0_3) else (coppicerkeep_TableJoins.j1 kj5 t163 t165 y175 bt178.1 bt178.2 true a0_0 a0_1 a0_2 l0_3)))) else (none)) = some r:=by first|(rw [hy172];with_reducible exact H)|(have H2_:=(Option.bind_some _ _).symm.trans H;rw [hy172];with_reducible exact H2_)|(have H2_:=(Option.bind_some _ _).symm.trans H;with_reducible exact H2_)|with_reducible exact H|(rw [hy172];exact H)|exact H
     have Ny172:=Aside0.mk hy172
     clear hy172
     by_cases c24 : y172.length + l2.length < 17592186044416
     ·rw [if_pos c24] at H
      have LMc24:=Aside0.mk c24
      clear c24
      obtain ⟨y175,hy175⟩ : ∃ y_ : List Int,y_ = (y172 ++ l2):=⟨_,rfl⟩
      replace H : ((table_Names.f kj5 a0_0 a0_1 a0_2 l0_3 y175).bind fun bt178=>(if t164 = 0 then (coppicerkeep_TableJoins.j1 kj5 t163 t165 y175 bt178.1 bt178.2 (t166 != 0) a0_0 a0_1 a0_2 l0_3) else (coppicerkeep_TableJoins.j1 kj5 t163 t165 y175 bt178.1 bt178.2 true a0_0 a0_1 a0_2 l0_3))) = some r:=by first|(rw [hy175];with_reducible exact H)|(have H2_:=(Option.bind_some _ _).symm.trans H;rw [hy175];with_reducible exact H2_)|(have H2_:=(Option.bind_some _ _).symm.trans H;with_reducible exact H2_)|with_reducible exact H|(rw [hy175];exact H)|exact H
      have Ny175:=Aside0.mk hy175
      clear hy175
      replace H:=Option.bind_eq_some_iff.mp H
      obtain ⟨⟨t178,t179⟩,A250,H⟩:=H
      replace H : (if t164 = 0 then (coppicerkeep_TableJoins.j1 kj5 t163 t165 y175 t178 t179 (t166 != 0) a0_0 a0_1 a0_2 l0_3) else (coppicerkeep_TableJoins.j1 kj5 t163 t165 y175 t178 t179 true a0_0 a0_1 a0_2 l0_3)) = some r:=H
      have A25:=Aside0.mk A250
      clear A250
      have HC26:=Aside0.mk H
      clear H
      go_upto_region 7 with (first|((with_reducible refine gate_dst (N:=44) rfl ?_);refine Kd.R_lit (Kd.int .i64) _ 3 ?hg (N:=44) ?hd (xs:=([] : List Int)) (inner:=[]) (ok:=fun _=>True) (okp:=fun _=>True) ?hr ?hp (fun _ hk=>hk) trivial (Below.refl _ _) (Nat.le_refl _) (by simp) ?_;(case hd=>rfl);(case hg=>rfl);(case hr=>first|(go_simp;done)|(go_simp;rfl));(case hp=>exact (Reps.none _ _));intro v170 w27 ho28 hb hg_ hnew_;clear hg_ hnew_;(first|rw [← Ny169.out] at ho28|(simp only [Int.reduceToNat] at ho28;rw [← Ny169.out] at ho28));have n0_:=Aside0.mk (Kd.R_lower ho28 (below_size (by repeat (first|(with_reducible first|exact HB.out|apply below_alloc|apply pw_below_drewN|apply below_drew1|refine below_set ?_ GE162.out)|exact HB.out))));have n1_:=Aside0.mk (blk_below (g:=gb162) (o:=.cells #[.int .i64 a0_0,.int .i64 a0_1,.int .i64 a0_2,.slice A0_3 l0_3.length c0_3] 24 (0,0)) (by (with_reducible repeat (first|refine blk_drewN ?_ _|refine blk_drew ?_|refine blk_alloc ?_ _));exact BK162.out) hb);have n2_:=Aside0.mk (below_step (by repeat (first|(with_reducible first|exact HB.out|apply below_alloc|apply pw_below_drewN|apply below_drew1|refine below_set ?_ GE162.out)|exact HB.out)) hb);clear BK162;clear HB;have HO171:=n0_;have BK162:=n1_;have HB:=n2_;clear n0_ n1_ n2_;clear hb ho28)|((with_reducible refine gate_builtin (b:=.append) (xs:=#[.tmp 44,.tmp 45]) rfl ?_);at_builtin;refine Kd.R_append_rows (Kd.int .i64) (w0:=w) w.heap.size rfl (.tmp 44) (.tmp 45) 25 3 (.int .i64 0) 8 rfl Try.underlying25 info3 rfl (by decide) (by omega) v170 y169 l1 _ _ _ (fun _=>True) (fun _=>False) rfl rfl ?aO ?aR (fun _ _ h=>h) (fun _ h=>h.elim) ?aF ?aB ?aS ?aL ?_;(case aR=>repeat (first|exact (Kd.C_below HR1.out HB.out)|(with_reducible refine Kd.C_alloc ?_ _)|(with_reducible refine Kd.C_drewN ?_ _)|(with_reducible refine Kd.C_drew ?_)));(case aB=>exact (by repeat (first|(with_reducible first|exact HB.out|apply below_alloc|apply pw_below_drewN|apply below_drew1|refine below_set ?_ GE162.out)|exact HB.out)));(case aF=>exact (fun _ _=>trivial));(case aO=>exact (by (with_reducible repeat (first|apply Kd.R_alloc|apply Kd.R_drewN|apply Kd.R_drew));exact HO171.out));(case aS=>exact (below_size (by repeat (first|(with_reducible first|exact HB.out|apply below_alloc|apply pw_below_drewN|apply below_drew1|refine below_set ?_ GE162.out)|exact HB.out))));(case aL=>have:=LMc23.out;omega);intro v173 w29 ho hb hg hat;rw [← Ny172.out] at ho;have n0_:=Aside0.mk (blk_grown (g:=gb162) (o:=.cells #[.int .i64 a0_0,.int .i64 a0_1,.int .i64 a0_2,.slice A0_3 l0_3.length c0_3] 24 (0,0)) (by (with_reducible repeat (first|refine blk_drewN ?_ _|refine blk_drew ?_|refine blk_alloc ?_ _));exact BK162.out) hg (Kd.R_ne HO171.out BK162.out (by decide)));have n1_:=Aside0.mk (hb);have n2_:=Aside0.mk (ho);clear BK162;clear HB;clear HO171;have BK162:=n0_;have HB:=n1_;have HO174:=n2_;clear n0_ n1_ n2_;clear ho hb hg hat)|((with_reducible refine gate_builtin (b:=.append) (xs:=#[.tmp 46,.tmp 47]) rfl ?_);at_builtin;refine Kd.R_append_rows (Kd.int .i64) (w0:=w) w.heap.size rfl (.tmp 46) (.tmp 47) 25 3 (.int .i64 0) 8 rfl Try.underlying25 info3 rfl (by decide) (by omega) v173 y172 l2 _ _ _ (fun _=>True) (fun _=>False) rfl rfl ?aO ?aR (fun _ _ h=>h) (fun _ h=>h.elim) ?aF ?aB ?aS ?aL ?_;(case aR=>repeat (first|exact (Kd.C_below HR2.out HB.out)|(with_reducible refine Kd.C_alloc ?_ _)|(with_reducible refine Kd.C_drewN ?_ _)|(with_reducible refine Kd.C_drew ?_)));(case aB=>exact (by repeat (first|(with_reducible first|exact HB.out|apply below_alloc|apply pw_below_drewN|apply below_drew1|refine below_set ?_ GE162.out)|exact HB.out)));(case aF=>exact (fun _ _=>trivial));(case aO=>exact (by (with_reducible repeat (first|apply Kd.R_alloc|apply Kd.R_drewN|apply Kd.R_drew));exact HO174.out));(case aS=>exact (below_size (by repeat (first|(with_reducible first|exact HB.out|apply below_alloc|apply pw_below_drewN|apply below_drew1|refine below_set ?_ GE162.out)|exact HB.out))));(case aL=>have:=LMc24.out;omega);intro v176 w30 ho hb hg hat;rw [← Ny175.out] at ho;have n0_:=Aside0.mk (blk_grown (g:=gb162) (o:=.cells #[.int .i64 a0_0,.int .i64 a0_1,.int .i64 a0_2,.slice A0_3 l0_3.length c0_3] 24 (0,0)) (by (with_reducible repeat (first|refine blk_drewN ?_ _|refine blk_drew ?_|refine blk_alloc ?_ _));exact BK162.out) hg (Kd.R_ne HO174.out BK162.out (by decide)));have n1_:=Aside0.mk (hb);have n2_:=Aside0.mk (ho);clear BK162;clear HB;clear HO174;have BK162:=n0_;have HB:=n1_;have HO177:=n2_;clear n0_ n1_ n2_;clear ho hb hg hat;have hcz31_0 : w30.cell? ⟨gb162,0,none⟩ = some (.int .i64 a0_0):=(blk_cell BK162.out 0).trans rfl;have hcz31_1 : w30.cell? ⟨gb162,1,none⟩ = some (.int .i64 a0_1):=(blk_cell BK162.out 1).trans rfl;have hcz31_2 : w30.cell? ⟨gb162,2,none⟩ = some (.int .i64 a0_2):=(blk_cell BK162.out 2).trans rfl;have hcz31_3 : w30.cell? ⟨gb162,3,none⟩ = some (.slice A0_3 l0_3.length c0_3):=(blk_cell BK162.out 3).trans rfl;have hfz31_0:=blk_frozen BK162.out 0;have hfz31_1:=blk_frozen BK162.out 1;have hfz31_2:=blk_frozen BK162.out 2;have hfz31_3:=blk_frozen BK162.out 3;obtain ⟨Ao32,co32,eo32⟩:=Kd.R_slice HO177.out;subst eo32)|((with_reducible refine gate_callee (f:=20) rfl ?_);refine goesL_ (some 52) rfl rfl Try.func20 (by kernel_rfl) rfl #[.agg #[.int .i64 a0_0,.int .i64 a0_1,.int .i64 a0_2,.slice A0_3 l0_3.length c0_3],.slice Ao32 y175.length co32] rfl (by (try simp only [List.map_toArray,List.map_cons,List.map_nil]);first|done|rfl|(simp only [List.length_drop,List.length_take];rfl)) ?_;(with_reducible refine (table_Names.calls kj5 a0_0 a0_1 a0_2 _ _ l0_3 _ _ y175 t178 t179 _ ?side1 ?side2 ?side3 ?side4 A25.out).mono ?_);(case side1=>repeat (first|exact (Kd.C_below HR0_3.out HB.out)|(with_reducible refine Kd.C_alloc ?_ _)|(with_reducible refine Kd.C_drewN ?_ _)|(with_reducible refine Kd.C_drew ?_)));(case side2=>exact HC0_3.out);(case side3=>repeat (first|exact (Kd.R_reads' HO177.out).2.2|(with_reducible refine Kd.C_alloc ?_ _)|(with_reducible refine Kd.C_drewN ?_ _)|(with_reducible refine Kd.C_drew ?_)));(case side4=>exact (Kd.R_reads' HO177.out).2.1);rintro e w33 ⟨rfl,hb⟩;refine ⟨_,rfl,?_⟩;have n0_:=Aside0.mk (Kd.R_below (by (with_reducible repeat (first|apply Kd.R_alloc|apply Kd.R_drewN|apply Kd.R_drew));exact HO177.out) hb);have n1_:=Aside0.mk (blk_below (g:=gb162) (o:=.cells #[.int .i64 a0_0,.int .i64 a0_1,.int .i64 a0_2,.slice A0_3 l0_3.length c0_3] 24 (0,0)) (by (with_reducible repeat (first|refine blk_drewN ?_ _|refine blk_drew ?_|refine blk_alloc ?_ _));exact BK162.out) hb);have n2_:=Aside0.mk (below_step (by repeat (first|(with_reducible first|exact HB.out|apply below_alloc|apply pw_below_drewN|apply below_drew1|refine below_set ?_ GE162.out)|exact HB.out)) hb);clear HO177;clear BK162;clear HB;have HO177:=n0_;have BK162:=n1_;have HB:=n2_;clear n0_ n1_ n2_;(try clear hb);(try clear hb2);(try clear hk);(try clear hi)))
      (try simp only [Act.put,List.setIfInBounds_toArray,List.set_cons_zero,List.set_cons_succ])
      go_cut [60] (fun v60 wc=>∃ (kq : Nat) (x60_25 : Bool),v60 = .bool x60_25 ∧ Aside0 (coppicerkeep_TableJoins.j1 kq t163 t165 y175 t178 t179 x60_25 a0_0 a0_1 a0_2 l0_3 = some r) ∧ Aside0 (kq ≤ kj5) ∧ Aside0 (Kd.R (Kd.int .i64) 3 wc w.heap.size (fun _=>True) (.slice Ao32 y175.length co32) y175) ∧ Aside0 (wc.heap[gb162]? = some (.cells #[.int .i64 a0_0,.int .i64 a0_1,.int .i64 a0_2,(.slice A0_3 l0_3.length c0_3)] 24 (0,0))) ∧ Aside0 (Below w.heap.size w wc))
      case first =>
       have H:=HC26.out
       clear HC26
       by_cases c34 : t164 = 0
       ·rw [if_pos c34] at H
        have c34b0 : (t164 == 0) = true:=beq_iff_eq.mpr c34
        have c34b1 : (t164 != 0) = false:=bne_eq_false_iff_eq.mpr c34
        clear c34
        (first|rw [c34b0]|(simp only [i64_w,i32_w];rw [c34b0])|skip)
        have H':=Aside0.mk H
        clear H
        go_wp2
        go_meet
        case rel=>exact ⟨_,((t166 != 0)),(by first|rfl|(simp;done)|(simp [*];done)),H',⟨by have:=HJ5.out;first|omega|exact Nat.le_refl _⟩,⟨by (with_reducible repeat (first|apply Kd.R_alloc|apply Kd.R_drewN|apply Kd.R_drew));exact HO177.out⟩,⟨by (with_reducible repeat (first|refine blk_drewN ?_ _|refine blk_drew ?_|refine blk_alloc ?_ _));exact BK162.out⟩,⟨by repeat (first|(with_reducible first|exact HB.out|apply below_alloc|apply pw_below_drewN|apply below_drew1|refine below_set ?_ GE162.out)|exact HB.out)⟩⟩
       ·rw [if_neg c34] at H
        have c34b0 : (t164 == 0) = false:=beq_eq_false_iff_ne.mpr c34
        have c34b1 : (t164 != 0) = true:=bne_iff_ne.mpr c34
        (first|rw [c34b0]|(simp only [i64_w,i32_w];rw [c34b0])|skip)
        have H':=Aside0.mk H
        clear H
        go_wp2
        go_meet
        case rel=>exact ⟨_,(true),(by first|rfl|(simp;done)|(simp [*];done)),H',⟨by have:=HJ5.out;first|omega|exact Nat.le_refl _⟩,⟨by (with_reducible repeat (first|apply Kd.R_alloc|apply Kd.R_drewN|apply Kd.R_drew));exact HO177.out⟩,⟨by (with_reducible repeat (first|refine blk_drewN ?_ _|refine blk_drew ?_|refine blk_alloc ?_ _));exact BK162.out⟩,⟨by repeat (first|(with_reducible first|exact HB.out|apply below_alloc|apply pw_below_drewN|apply below_drew1|refine below_set ?_ GE162.out)|exact HB.out)⟩⟩
      case rest =>
       clear HC26
       try clear c1
       try clear c2
       try clear p2
       try clear c3
       try clear c4
       try clear c13
       try clear c20
       try clear c21
       try clear c22
       try clear c22b0
       try clear c22b1
       try clear c23
       try clear c24
       try clear c34
       try clear c34b0
       try clear c34b1
       try clear hcz10_0
       try clear hcz10_1
       try clear hcz10_2
       try clear hcz10_3
       try clear hcz15_0
       try clear hcz15_1
       try clear hcz15_2
       try clear hcz15_3
       try clear hcz17_0
       try clear hcz17_1
       try clear hcz17_2
       try clear hcz17_3
       try clear hcz19_0
       try clear hcz19_1
       try clear hcz19_2
       try clear hcz19_3
       try clear hcz31_0
       try clear hcz31_1
       try clear hcz31_2
       try clear hcz31_3
       try clear hcz8_0
       try clear hcz8_1
       try clear hcz8_2
       try clear hcz8_3
       try clear hfz10_0
       try clear hfz10_1
       try clear hfz10_2
       try clear hfz10_3
       try clear hfz15_0
       try clear hfz15_1
       try clear hfz15_2
       try clear hfz15_3
       try clear hfz17_0
       try clear hfz17_1
       try clear hfz17_2
       try clear hfz17_3
       try clear hfz19_0
       try clear hfz19_1
       try clear hfz19_2
       try clear hfz19_3
       try clear hfz31_0
       try clear hfz31_1
       try clear hfz31_2
       try clear hfz31_3
       try clear hfz8_0
       try clear hfz8_1
       try clear hfz8_2
       try clear hfz8_3
       try clear p2
       obtain ⟨kq,x60_25,rfl,HA,HJ25,HO_11,BK162,HB⟩:=hcut
       cases kq with
       | zero=>exact absurd HA.out (by simp [coppicerkeep_TableJoins.j1])
       | succ kj25 =>
        have H:=HA.out
        clear HA
        simp only [coppicerkeep_TableJoins.j1] at H
        by_cases c35 : x60_25 = true
        ·subst c35
         have H1 : (some false) = some r:=by rw [if_pos rfl] at H;exact H
         clear H
         have H:=H1
         clear H1
         obtain rfl:=Option.some.inj H
         go_wp2
         go_ret
         exact ⟨by first|rfl|(simp [errW_none,errW_some] <;> rfl)|(simp [*,errW_none,errW_some] <;> rfl),by repeat (first|(with_reducible first|exact HB.out|apply below_alloc|apply pw_below_drewN|apply below_drew1|refine below_set ?_ GE162.out)|exact HB.out)⟩
        ·replace c35:=Bool.eq_false_iff.mpr c35
         subst c35
         have H1 : (if (y175.length : Int) > 12 then (some (t179 != 0)) else (if t179 = 0 then (coppicerkeep_TableJoins.l0 kj25 t163 t165 y175 t178 l0_3 (l0_3.length : Int) 0 a0_0 a0_1 a0_2 l0_3) else (some false))) = some r:=by rw [if_neg (show ¬ (false = true) by decide)] at H;exact H
         clear H
         have H:=H1
         clear H1
         by_cases c36 : (y175.length : Int) > 12
         ·rw [if_pos c36] at H
          have c36b0 : decide (12 < (y175.length : Int)) = true:=decide_eq_true c36
          have c36b1 : decide (12 < y175.length) = true:=decide_eq_true (by omega)
          clear c36
          obtain rfl:=Option.some.inj H
          go_wp2
          go_ret
          exact ⟨by first|rfl|(simp [errW_none,errW_some] <;> rfl)|(simp [*,errW_none,errW_some] <;> rfl),by repeat (first|(with_reducible first|exact HB.out|apply below_alloc|apply pw_below_drewN|apply below_drew1|refine below_set ?_ GE162.out)|exact HB.out)⟩
         ·rw [if_neg c36] at H
          have c36b0 : decide (12 < (y175.length : Int)) = false:=decide_eq_false c36
          have c36b1 : decide (12 < y175.length) = false:=decide_eq_false (by omega)
          clear c36
          by_cases c37 : t179 = 0
          ·rw [if_pos c37] at H
           have c37b0 : (t179 == 0) = true:=beq_iff_eq.mpr c37
           have c37b1 : (t179 != 0) = false:=bne_eq_false_iff_eq.mpr c37
           clear c37
           have H':=Aside0.mk H
           clear H
           have hcz38_0 : wc.cell? ⟨gb162,0,none⟩ = some (.int .i64 a0_0):=(blk_cell BK162.out 0).trans rfl
           have hcz38_1 : wc.cell? ⟨gb162,1,none⟩ = some (.int .i64 a0_1):=(blk_cell BK162.out 1).trans rfl
           have hcz38_2 : wc.cell? ⟨gb162,2,none⟩ = some (.int .i64 a0_2):=(blk_cell BK162.out 2).trans rfl
           have hcz38_3 : wc.cell? ⟨gb162,3,none⟩ = some (.slice A0_3 l0_3.length c0_3):=(blk_cell BK162.out 3).trans rfl
           have hfz38_0:=blk_frozen BK162.out 0
           have hfz38_1:=blk_frozen BK162.out 1
           have hfz38_2:=blk_frozen BK162.out 2
           have hfz38_3:=blk_frozen BK162.out 3
           go_wp2
           go_loopg [71] kj25 (fun kq v71 w'=>∃ (x71_3 : Int),v71 = .int .i64 x71_3 ∧ Aside0 (coppicerkeep_TableJoins.l0 kq t163 t165 y175 t178 l0_3 (l0_3.length : Int) x71_3 a0_0 a0_1 a0_2 l0_3 = some r) ∧ Aside0 (kq ≤ kj25) ∧ Aside0 (Kd.R (Kd.int .i64) 3 w' w.heap.size (fun _=>True) (.slice Ao32 y175.length co32) y175) ∧ Aside0 (w'.heap[gb162]? = some (.cells #[.int .i64 a0_0,.int .i64 a0_1,.int .i64 a0_2,(.slice A0_3 l0_3.length c0_3)] 24 (0,0))) ∧ Aside0 (Below w.heap.size w w'))
           case atStart=>exact ⟨(0),(by first|rfl|(simp;done)|(simp [*];done)),H',⟨Nat.le_refl _⟩,⟨by (with_reducible repeat (first|apply Kd.R_alloc|apply Kd.R_drewN|apply Kd.R_drew));exact HO_11.out⟩,⟨by (with_reducible repeat (first|refine blk_drewN ?_ _|refine blk_drew ?_|refine blk_alloc ?_ _));exact BK162.out⟩,⟨by repeat (first|(with_reducible first|exact HB.out|apply below_alloc|apply pw_below_drewN|apply below_drew1|refine below_set ?_ GE162.out)|exact HB.out)⟩⟩
           case round =>
            clear H'
            try clear c1
            try clear c2
            try clear p2
            try clear c3
            try clear c4
            try clear c13
            try clear c20
            try clear c21
            try clear c22
            try clear c22b0
            try clear c22b1
            try clear c23
            try clear c24
            try clear c34
            try clear c34b0
            try clear c34b1
            try clear c35
            try clear c36
            try clear c36b0
            try clear c36b1
            try clear c37
            try clear c37b0
            try clear c37b1
            try clear hcz10_0
            try clear hcz10_1
            try clear hcz10_2
            try clear hcz10_3
            try clear hcz15_0
            try clear hcz15_1
            try clear hcz15_2
            try clear hcz15_3
            try clear hcz17_0
            try clear hcz17_1
            try clear hcz17_2
            try clear hcz17_3
            try clear hcz19_0
            try clear hcz19_1
            try clear hcz19_2
            try clear hcz19_3
            try clear hcz31_0
            try clear hcz31_1
            try clear hcz31_2
            try clear hcz31_3
            try clear hcz38_0
            try clear hcz38_1
            try clear hcz38_2
            try clear hcz38_3
            try clear hcz8_0
            try clear hcz8_1
            try clear hcz8_2
            try clear hcz8_3
            try clear hfz10_0
            try clear hfz10_1
            try clear hfz10_2
            try clear hfz10_3
            try clear hfz15_0
            try clear hfz15_1
            try clear hfz15_2
            try clear hfz15_3
            try clear hfz17_0
            try clear hfz17_1
            try clear hfz17_2
            try clear hfz17_3
            try clear hfz19_0
            try clear hfz19_1
            try clear hfz19_2
            try clear hfz19_3
            try clear hfz31_0
            try clear hfz31_1
            try clear hfz31_2
            try clear hfz31_3
            try clear hfz38_0
            try clear hfz38_1
            try clear hfz38_2
            try clear hfz38_3
            try clear hfz8_0
            try clear hfz8_1
            try clear hfz8_2
            try clear hfz8_3
            try clear p2
            obtain ⟨x71_3,rfl,HA,HK3,HO_11,BK162,HB⟩:=hrel
            cases gk with
            | zero=>exact absurd HA.out (by simp [coppicerkeep_TableJoins.l0])
            | succ k3 =>
             have H:=HA.out
             clear HA
             simp only [coppicerkeep_TableJoins.l0] at H
             by_cases c39 : x71_3 < (l0_3.length : Int)
             ·rw [if_pos c39] at H
              have c39b0 : decide (x71_3 < (l0_3.length : Int)) = true:=decide_eq_true c39
              clear c39
              by_cases c40 : 0 ≤ x71_3
              ·rw [if_pos c40] at H
               have c40b0 : decide (0 ≤ x71_3) = true:=decide_eq_true c40
               clear c40
               by_cases c41 : x71_3 < (l0_3.length : Int)
               ·rw [if_pos c41] at H
                have c41b0 : decide (x71_3 < (l0_3.length : Int)) = true:=decide_eq_true c41
                clear c41
                have HC42:=Aside0.mk H
                clear H
                have p180 : 0 ≤ (x71_3 : Int):=of_decide_eq_true (by first|(with_reducible assumption)|assumption)
                have q180 : x71_3 < (l0_3.length : Int):=of_decide_eq_true (by first|(with_reducible assumption)|assumption)
                obtain ⟨ad180,A180_1,c180_1,e180,hx180_0,hx180_1,hl180_1,hi180_1⟩:=at_T27 HR0_3.out x71_3 p180 q180
                cases e180
                replace hx180_0:=(HB.out.cell (World.block_lt_of_cell? w _ hx180_0)).trans hx180_0
                replace hx180_1:=(HB.out.cell (World.block_lt_of_cell? w _ hx180_1)).trans hx180_1
                have HR180_1:=Aside0.mk hi180_1
                have HC180_1:=Aside0.mk hl180_1
                clear hi180_1 hl180_1
                replace p180:=eq_true p180
                replace q180:=eq_true q180
                go_upto_region 16 with (first|((with_reducible refine gate_dst (N:=15) rfl ?_);refine box_event ?hg (N:=15) ?hd (cs:=#[.int .i64 0,.slice none 0 0]) (t:=27) ?hr ?_;(case hd=>rfl);(case hg=>rfl);(case hr=>first|(go_simp;done)|(go_simp;rfl));intro gb181 hg w43 hbox hb;have n0_:=Aside0.mk (Kd.R_below (by (with_reducible repeat (first|apply Kd.R_alloc|apply Kd.R_drewN|apply Kd.R_drew));exact HO_11.out) hb);have n1_:=Aside0.mk (blk_below (g:=gb162) (o:=.cells #[.int .i64 a0_0,.int .i64 a0_1,.int .i64 a0_2,.slice (some ad180) l0_3.length c0_3] 24 (0,0)) (by (with_reducible repeat (first|refine blk_drewN ?_ _|refine blk_drew ?_|refine blk_alloc ?_ _));exact BK162.out) hb);have n2_:=Aside0.mk (below_step (by repeat (first|(with_reducible first|exact HB.out|apply below_alloc|apply pw_below_drewN|apply below_drew1|refine below_set ?_ GE162.out)|exact HB.out)) hb);have n3_:=Aside0.mk (hbox);have n4_:=Aside0.mk ((by rw [hg];exact (below_size (by repeat (first|(with_reducible first|exact HB.out|apply below_alloc|apply pw_below_drewN|apply below_drew1|refine below_set ?_ GE162.out)|exact HB.out))) : w.heap.size ≤ gb181));have n5_:=Aside0.mk ((by rw [hg];exact (below_size (by repeat (first|(with_reducible first|exact HB.out|apply below_alloc|apply pw_below_drewN|apply below_drew1|refine below_set ?_ GE162.out)|exact HB.out))) : w.heap.size ≤ gb181));have n6_:=Aside0.mk ((by rw [hg];exact Nat.ne_of_lt (blk_lt (g:=gb162) (o:=.cells #[.int .i64 a0_0,.int .i64 a0_1,.int .i64 a0_2,.slice (some ad180) l0_3.length c0_3] 24 (0,0)) (by (with_reducible repeat (first|refine blk_drewN ?_ _|refine blk_drew ?_|refine blk_alloc ?_ _));exact BK162.out)) : gb162 ≠ gb181));have n7_:=Aside0.mk ((by rw [hg];exact Nat.ne_of_gt (blk_lt (g:=gb162) (o:=.cells #[.int .i64 a0_0,.int .i64 a0_1,.int .i64 a0_2,.slice (some ad180) l0_3.length c0_3] 24 (0,0)) (by (with_reducible repeat (first|refine blk_drewN ?_ _|refine blk_drew ?_|refine blk_alloc ?_ _));exact BK162.out)) : gb181 ≠ gb162));clear HO_11;clear BK162;clear HB;have HO_11:=n0_;have BK162:=n1_;have HB:=n2_;have BK181:=n3_;have GW181:=n4_;have GE181:=n5_;have NB162_181:=n6_;have NB181_162:=n7_;clear n0_ n1_ n2_ n3_ n4_ n5_ n6_ n7_;clear hb hbox hg;have hnb44:=NB181_162.out;have hnc44:=NB162_181.out;have hcz45_0 : w43.cell? ⟨gb181,0,none⟩ = some (.int .i64 0):=(blk_cell BK181.out 0).trans rfl;have hcz45_1 : w43.cell? ⟨gb181,1,none⟩ = some (.slice none 0 0):=(blk_cell BK181.out 1).trans rfl;have hfz45_0:=blk_frozen BK181.out 0;have hfz45_1:=blk_frozen BK181.out 1))
                (try simp only [Act.put,List.setIfInBounds_toArray,List.set_cons_zero,List.set_cons_succ])
                go_cut [125] (fun v125 wc=>∃ (kq : Nat) (x125_41 : Bool),v125 = .bool x125_41 ∧ Aside0 (coppicerkeep_TableJoins.j3 kq t163 t165 y175 t178 l0_3 (l0_3.length : Int) x71_3 x125_41 a0_0 a0_1 a0_2 l0_3 ((rd_T27 l0_3 x71_3).f0) ((rd_T27 l0_3 x71_3).f1) = some r) ∧ Aside0 (kq ≤ k3) ∧ Aside0 (Kd.R (Kd.int .i64) 3 wc w.heap.size (fun _=>True) (.slice Ao32 y175.length co32) y175) ∧ Aside0 (wc.heap[gb162]? = some (.cells #[.int .i64 a0_0,.int .i64 a0_1,.int .i64 a0_2,(.slice (some ad180) l0_3.length c0_3)] 24 (0,0))) ∧ Aside0 (wc.heap[gb181]? = some (.cells #[.int .i64 ((rd_T27 l0_3 x71_3).f0),(.slice A180_1 ((rd_T27 l0_3 x71_3).f1).length c180_1)] 27 (0,0))) ∧ Aside0 (Below w.heap.size w wc))
                case first =>
                 have H:=HC42.out
                 clear HC42
                 by_cases c46 : (((rd_T27 l0_3 x71_3).f1).length : Int) = 2
                 ·rw [if_pos c46] at H
                  have c46b0 : ((((rd_T27 l0_3 x71_3).f1).length : Int) == 2) = true:=beq_iff_eq.mpr c46
                  have c46b1 : ((((rd_T27 l0_3 x71_3).f1).length : Int) != 2) = false:=bne_eq_false_iff_eq.mpr c46
                  clear c46
                  (first|rw [c46b0]|(simp only [i64_w,i32_w];rw [c46b0])|skip)
                  by_cases c47 : 0 < (((rd_T27 l0_3 x71_3).f1).length : Int)
                  ·rw [if_pos c47] at H
                   have c47b0 : decide (0 < (((rd_T27 l0_3 x71_3).f1).length : Int)) = true:=decide_eq_true c47
                   have c47b1 : decide (0 < ((rd_T27 l0_3 x71_3).f1).length) = true:=decide_eq_true (by omega)
                   clear c47
                   by_cases c48 : (rd ((rd_T27 l0_3 x71_3).f1) 0) ≥ a0_0
                   ·rw [if_pos c48] at H
                    have c48b0 : decide (a0_0 ≤ (rd ((rd_T27 l0_3 x71_3).f1) 0)) = true:=decide_eq_true c48
                    clear c48
                    by_cases c49 : 1 < (((rd_T27 l0_3 x71_3).f1).length : Int)
                    ·rw [if_pos c49] at H
                     have c49b0 : decide (1 < (((rd_T27 l0_3 x71_3).f1).length : Int)) = true:=decide_eq_true c49
                     have c49b1 : decide (1 < ((rd_T27 l0_3 x71_3).f1).length) = true:=decide_eq_true (by omega)
                     clear c49
                     by_cases c50 : (rd ((rd_T27 l0_3 x71_3).f1) 1) ≥ a0_0
                     ·rw [if_pos c50] at H
                      have c50b0 : decide (a0_0 ≤ (rd ((rd_T27 l0_3 x71_3).f1) 1)) = true:=decide_eq_true c50
                      clear c50
                      replace H:=Option.bind_eq_some_iff.mp H
                      obtain ⟨t185,A510,H⟩:=H
                      replace H : (if t185 = true then ((coppicerref_Bit.f t165 (wrap64 ((rd ((rd_T27 l0_3 x71_3).f1) 1) - a0_0))).bind fun t187=>(if t187 = true then ((coppicerref_Bit.f t178 ((rd_T27 l0_3 x71_3).f0)).bind fun t188=>(coppicerkeep_TableJoins.j3 k3 t163 t165 y175 t178 l0_3 (l0_3.length : Int) x71_3 (!t188) a0_0 a0_1 a0_2 l0_3 ((rd_T27 l0_3 x71_3).f0) ((rd_T27 l0_3 x71_3).f1))) else (coppicerkeep_TableJoins.j3 k3 t163 t165 y175 t178 l0_3 (l0_3.length : Int) x71_3 false a0_0 a0_1 a0_2 l0_3 ((rd_T27 l0_3 x71_3).f0) ((rd_T27 l0_3 x71_3).f1)))) else (coppicerkeep_TableJoins.j3 k3 t163 t165 y175 t178 l0_3 (l0_3.length : Int) x71_3 false a0_0 a0_1 a0_2 l0_3 ((rd_T27 l0_3 x71_3).f0) ((rd_T27 l0_3 x71_3).f1))) = some r:=H
                      have A51:=Aside0.mk A510
                      clear A510
                      by_cases c52 : t185 = true
                      ·subst c52
                       have H1 : ((coppicerref_Bit.f t165 (wrap64 ((rd ((rd_T27 l0_3 x71_3).f1) 1) - a0_0))).bind fun t187=>(if t187 = true then ((coppicerref_Bit.f t178 ((rd_T27 l0_3 x71_3).f0)).bind fun t188=>(coppicerkeep_TableJoins.j3 k3 t163 t165 y175 t178 l0_3 (l0_3.length : Int) x71_3 (!t188) a0_0 a0_1 a0_2 l0_3 ((rd_T27 l0_3 x71_3).f0) ((rd_T27 l0_3 x71_3).f1))) else (coppicerkeep_TableJoins.j3 k3 t163 t165 y175 t178 l0_3 (l0_3.length : Int) x71_3 false a0_0 a0_1 a0_2 l0_3 ((rd_T27 l0_3 x71_3).f0) ((rd_T27 l0_3 x71_3).f1)))) = some r:=by rw [if_pos rfl] at H;exact H
                       clear H
                       have H:=H1
                       clear H1
                       replace H:=Option.bind_eq_some_iff.mp H
                       obtain ⟨t187,A530,H⟩:=H
                       replace H : (if t187 = true then ((coppicerref_Bit.f t178 ((rd_T27 l0_3 x71_3).f0)).bind fun t188=>(coppicerkeep_TableJoins.j3 k3 t163 t165 y175 t178 l0_3 (l0_3.length : Int) x71_3 (!t188) a0_0 a0_1 a0_2 l0_3 ((rd_T27 l0_3 x71_3).f0) ((rd_T27 l0_3 x71_3).f1))) else (coppicerkeep_TableJoins.j3 k3 t163 t165 y175 t178 l0_3 (l0_3.length : Int) x71_3 false a0_0 a0_1 a0_2 l0_3 ((rd_T27 l0_3 x71_3).f0) ((rd_T27 l0_3 x71_3).f1))) = some r:=H
                       have A53:=Aside0.mk A530
                       clear A530
                       by_cases c54 : t187 = true
                       ·subst c54
                        have H1 : ((coppicerref_Bit.f t178 ((rd_T27 l0_3 x71_3).f0)).bind fun t188=>(coppicerkeep_TableJoins.j3 k3 t163 t165 y175 t178 l0_3 (l0_3.length : Int) x71_3 (!t188) a0_0 a0_1 a0_2 l0_3 ((rd_T27 l0_3 x71_3).f0) ((rd_T27 l0_3 x71_3).f1))) = some r:=by rw [if_pos rfl] at H;exact H
                        clear H
                        have H:=H1
                        clear H1
                        replace H:=Option.bind_eq_some_iff.mp H
                        obtain ⟨t188,A550,H⟩:=H
                        replace H : (coppicerkeep_TableJoins.j3 k3 t163 t165 y175 t178 l0_3 (l0_3.length : Int) x71_3 (!t188) a0_0 a0_1 a0_2 l0_3 ((rd_T27 l0_3 x71_3).f0) ((rd_T27 l0_3 x71_3).f1)) = some r:=H
                        have A55:=Aside0.mk A550
                        clear A550
                        have H':=Aside0.mk H
                        clear H
                        try go_wp2
                        have n0_ : Aside0 (Kd.R (Kd.int .i64) 3 ((w43.setCell ⟨gb181,0,none⟩ (.int .i64 ((rd_T27 l0_3 x71_3).f0))).setCell ⟨gb181,1,none⟩ (.slice A180_1 ((rd_T27 l0_3 x71_3).f1).length c180_1)) w.heap.size (fun _=>True) (.slice Ao32 y175.length co32) y175):=⟨by (with_reducible repeat (first|apply Kd.R_alloc|apply Kd.R_drewN|apply Kd.R_drew));exact Kd.R_mono (Kd.R_far (p:=⟨gb181,1,none⟩) (Kd.R_far (p:=⟨gb181,0,none⟩) (Kd.R_types HO_11.out BK181.out (by decide)) (fun _ hk=>hk.2) (.int .i64 ((rd_T27 l0_3 x71_3).f0))) (fun _ hk=>hk.2) (.slice A180_1 ((rd_T27 l0_3 x71_3).f1).length c180_1)) (fun _ hk=>trivial)⟩
                        have n1_ : Aside0 (((w43.setCell ⟨gb181,0,none⟩ (.int .i64 ((rd_T27 l0_3 x71_3).f0))).setCell ⟨gb181,1,none⟩ (.slice A180_1 ((rd_T27 l0_3 x71_3).f1).length c180_1)).heap[gb162]? = some (.cells #[.int .i64 a0_0,.int .i64 a0_1,.int .i64 a0_2,.slice (some ad180) l0_3.length c0_3] 24 (0,0))):=⟨by (with_reducible repeat (first|refine blk_drewN ?_ _|refine blk_drew ?_|refine blk_alloc ?_ _));refine blk_far ?_ NB162_181.out _;(with_reducible repeat (first|refine blk_drewN ?_ _|refine blk_drew ?_|refine blk_alloc ?_ _));refine blk_far ?_ NB162_181.out _;(with_reducible repeat (first|refine blk_drewN ?_ _|refine blk_drew ?_|refine blk_alloc ?_ _));exact BK162.out⟩
                        have n2_ : Aside0 (((w43.setCell ⟨gb181,0,none⟩ (.int .i64 ((rd_T27 l0_3 x71_3).f0))).setCell ⟨gb181,1,none⟩ (.slice A180_1 ((rd_T27 l0_3 x71_3).f1).length c180_1)).heap[gb181]? = some (.cells #[.int .i64 ((rd_T27 l0_3 x71_3).f0),.slice A180_1 ((rd_T27 l0_3 x71_3).f1).length c180_1] 27 (0,0))):=⟨by (with_reducible repeat (first|refine blk_drewN ?_ _|refine blk_drew ?_|refine blk_alloc ?_ _));refine blk_put (cs:=#[.int .i64 ((rd_T27 l0_3 x71_3).f0),.slice none 0 0]) ?_ 1 _ rfl;(with_reducible repeat (first|refine blk_drewN ?_ _|refine blk_drew ?_|refine blk_alloc ?_ _));refine blk_put (cs:=#[.int .i64 0,.slice none 0 0]) ?_ 0 _ rfl;(with_reducible repeat (first|refine blk_drewN ?_ _|refine blk_drew ?_|refine blk_alloc ?_ _));exact BK181.out⟩
                        have n3_ : Aside0 (Below w.heap.size w ((w43.setCell ⟨gb181,0,none⟩ (.int .i64 ((rd_T27 l0_3 x71_3).f0))).setCell ⟨gb181,1,none⟩ (.slice A180_1 ((rd_T27 l0_3 x71_3).f1).length c180_1))):=⟨by repeat (first|(with_reducible first|exact HB.out|apply below_alloc|apply pw_below_drewN|apply below_drew1|refine below_set ?_ GE162.out|refine below_set ?_ GE181.out)|exact HB.out)⟩
                        (try clear HO_11)
                        (try clear BK162)
                        (try clear BK181)
                        (try clear HB)
                        generalize ((w43.setCell ⟨gb181,0,none⟩ (.int .i64 ((rd_T27 l0_3 x71_3).f0))).setCell ⟨gb181,1,none⟩ (.slice A180_1 ((rd_T27 l0_3 x71_3).f1).length c180_1)) = w56 at n0_ n1_ n2_ n3_ ⊢
                        have HO_11:=n0_
                        have BK162:=n1_
                        have BK181:=n2_
                        have HB:=n3_
                        clear n0_ n1_ n2_ n3_
                        have n0_:=Aside0.mk (Kd.R_drew HO_11.out)
                        have n1_:=Aside0.mk (blk_drew BK162.out)
                        have n2_:=Aside0.mk (blk_drew BK181.out)
                        have n3_:=Aside0.mk (below_drew1 HB.out)
                        clear HO_11
                        clear BK162
                        clear BK181
                        clear HB
                        have HO_11:=n0_
                        have BK162:=n1_
                        have BK181:=n2_
                        have HB:=n3_
                        clear n0_ n1_ n2_ n3_
                        have p182 : 0 ≤ (0 : Int):=(by omega)
                        have q182 : 0 < (((rd_T27 l0_3 x71_3).f1).length : Int):=of_decide_eq_true (by first|(with_reducible assumption)|assumption)
                        obtain ⟨ad182,e182,hx182_0⟩:=Kd.at_int HR180_1.out 0 p182 q182
                        have hw182_0:=hx182_0
                        (try rw [show ((0 : Int)).toNat = 0 from rfl] at hw182_0)
                        (try rw [show 0 * 1 = 0 from rfl] at hw182_0)
                        (try rw [Addr.add_zero'] at hw182_0)
                        cases e182
                        have qi182 : (0 < ((rd_T27 l0_3 x71_3).f1).length) = True:=eq_true (by omega)
                        (try rw [show ((0 : Int)).toNat = 0 from rfl] at hx182_0)
                        (try rw [Addr.add_zero'] at hx182_0)
                        replace hx182_0:=(HB.out.cell (World.block_lt_of_cell? w _ hx182_0)).trans hx182_0
                        replace p182:=eq_true p182
                        replace q182:=eq_true q182
                        have p183 : 0 ≤ (1 : Int):=(by omega)
                        have q183 : 1 < (((rd_T27 l0_3 x71_3).f1).length : Int):=of_decide_eq_true (by first|(with_reducible assumption)|assumption)
                        obtain ⟨ad183,e183,hx183_0⟩:=Kd.at_int HR180_1.out 1 p183 q183
                        have hw183_0:=hx183_0
                        (try rw [show ((1 : Int)).toNat = 1 from rfl] at hw183_0)
                        (try rw [show 1 * 1 = 1 from rfl] at hw183_0)
                        (try simp only [Nat.reduceMul,Nat.reduceEqDiff,Go.Addr.add,↓reduceIte] at hw183_0)
                        obtain rfl : ad182 = ad183:=(by injection e183)
                        (try simp only [show (1 : Int).toNat = 1 from rfl,Nat.reduceMul,Nat.reduceEqDiff,Go.Addr.add,↓reduceIte] at hx183_0)
                        have qi183 : (1 < ((rd_T27 l0_3 x71_3).f1).length) = True:=eq_true (by omega)
                        (try rw [show ((1 : Int)).toNat = 1 from rfl] at hx183_0)
                        replace hx183_0:=(HB.out.cell (World.block_lt_of_cell? w _ hx183_0)).trans hx183_0
                        replace p183:=eq_true p183
                        replace q183:=eq_true q183
                        have p184 : 0 ≤ (0 : Int):=(by omega)
                        have q184 : 0 < (((rd_T27 l0_3 x71_3).f1).length : Int):=of_decide_eq_true (by first|(with_reducible assumption)|assumption)
                        obtain ⟨ad184,e184,hx184_0⟩:=Kd.at_int HR180_1.out 0 p184 q184
                        have hw184_0:=hx184_0
                        (try rw [show ((0 : Int)).toNat = 0 from rfl] at hw184_0)
                        (try rw [show 0 * 1 = 0 from rfl] at hw184_0)
                        (try rw [Addr.add_zero'] at hw184_0)
                        obtain rfl : ad182 = ad184:=(by injection e184)
                        have qi184 : (0 < ((rd_T27 l0_3 x71_3).f1).length) = True:=eq_true (by omega)
                        (try rw [show ((0 : Int)).toNat = 0 from rfl] at hx184_0)
                        (try rw [Addr.add_zero'] at hx184_0)
                        replace hx184_0:=(HB.out.cell (World.block_lt_of_cell? w _ hx184_0)).trans hx184_0
                        replace p184:=eq_true p184
                        replace q184:=eq_true q184
                        have p186 : 0 ≤ (1 : Int):=(by omega)
                        have q186 : 1 < (((rd_T27 l0_3 x71_3).f1).length : Int):=of_decide_eq_true (by first|(with_reducible assumption)|assumption)
                        obtain ⟨ad186,e186,hx186_0⟩:=Kd.at_int HR180_1.out 1 p186 q186
                        have hw186_0:=hx186_0
                        (try rw [show ((1 : Int)).toNat = 1 from rfl] at hw186_0)
                        (try rw [show 1 * 1 = 1 from rfl] at hw186_0)
                        (try simp only [Nat.reduceMul,Nat.reduceEqDiff,Go.Addr.add,↓reduceIte] at hw186_0)
                        obtain rfl : ad182 = ad186:=(by injection e186)
                        (try simp only [show (1 : Int).toNat = 1 from rfl,Nat.reduceMul,Nat.reduceEqDiff,Go.Addr.add,↓reduceIte] at hx186_0)
                        have qi186 : (1 < ((rd_T27 l0_3 x71_3).f1).length) = True:=eq_true (by omega)
                        (try rw [show ((1 : Int)).toNat = 1 from rfl] at hx186_0)
                        replace hx186_0:=(HB.out.cell (World.block_lt_of_cell? w _ hx186_0)).trans hx186_0
                        replace p186:=eq_true p186
                        replace q186:=eq_true q186
                        refine start_ (n:=51) (S:=fun w'=>w'.cell? ⟨gb181,0,none⟩ = some (.int .i64 ((rd_T27 l0_3 x71_3).f0)) ∧ w'.cell? ⟨gb181,1,none⟩ = some (.slice (some ad182) ((rd_T27 l0_3 x71_3).f1).length c180_1) ∧ w'.cell? ⟨gb162,0,none⟩ = some (.int .i64 a0_0) ∧ w'.cell? ⟨gb162,1,none⟩ = some (.int .i64 a0_1) ∧ w'.cell? ⟨gb162,2,none⟩ = some (.int .i64 a0_2) ∧ w'.cell? ⟨gb162,3,none⟩ = some (.slice (some ad180) l0_3.length c0_3) ∧ w'.cell? ad182 = some (.int .i64 (rd ((rd_T27 l0_3 x71_3).f1) 0)) ∧ w'.cell? ⟨ad182.block,ad182.off + 1,none⟩ = some (.int .i64 (rd ((rd_T27 l0_3 x71_3).f1) 1)) ∧ w'.cell? ad182 = some (.int .i64 (rd ((rd_T27 l0_3 x71_3).f1) 0)) ∧ w'.cell? ⟨ad182.block,ad182.off + 1,none⟩ = some (.int .i64 (rd ((rd_T27 l0_3 x71_3).f1) 1))) (ds:=[]) bA0_ (by kernel_rfl) rfl rfl ⟨(blk_cell BK181.out 0).trans rfl,(blk_cell BK181.out 1).trans rfl,(blk_cell BK162.out 0).trans rfl,(blk_cell BK162.out 1).trans rfl,(blk_cell BK162.out 2).trans rfl,(blk_cell BK162.out 3).trans rfl,((HB.out.cell (World.block_lt_of_cell? w _ hw182_0)).trans hw182_0),((HB.out.cell (World.block_lt_of_cell? w _ hw183_0)).trans hw183_0),((HB.out.cell (World.block_lt_of_cell? w _ hw184_0)).trans hw184_0),((HB.out.cell (World.block_lt_of_cell? w _ hw186_0)).trans hw186_0)⟩ (fun hHeld=>?_);refine with_tabW coppicerkeep_TableJoins.tab16 coppicerkeep_TableJoins.bits16 (fun HT_ HW_=>?_)
                        generalize w56.drew = w57 at HO_11 BK162 BK181 HB hx182_0 hx183_0 hx184_0 hx186_0 hHeld ⊢
                        refine pure_ (i:=0) (N:=some 75) (v:=?_) (a':=?_) bA1_ rfl rfl (any_of HT_.out (by kernel_rfl)) (fun _ _ _ h=>h) (Or.inl ⟨by rfl,?_⟩) ?_ ?_
                        rotate_left
                        ·intro w'
                         go_simp
                         with_reducible rfl
                        rotate_left
                        ·simp only [Act.put,List.setIfInBounds_toArray,List.set_cons_zero,List.set_cons_succ,i64_w,i32_w]
                         rfl
                        refine take_ (i:=1) (N:=some 76) (v:=?_) (a':=?_) bA2_ rfl rfl (take_ofW HT_.out HW_.out (by kernel_rfl)) (fun _ _ _ h=>h) (Or.inl ⟨by rfl,?_⟩) hHeld ?_ ?_
                        rotate_left
                        ·rintro w' ⟨s0,s1,s2,s3,s4,s5,s6,s7,s8,s9⟩
                         go_simp
                         with_reducible rfl
                        rotate_left
                        ·simp only [Act.put,List.setIfInBounds_toArray,List.set_cons_zero,List.set_cons_succ,i64_w,i32_w]
                         rfl
                        refine pure_ (i:=2) (N:=some 77) (v:=?_) (a':=?_) bA3_ rfl rfl (any_of HT_.out (by kernel_rfl)) (fun _ _ _ h=>h) (Or.inl ⟨by rfl,?_⟩) ?_ ?_
                        rotate_left
                        ·intro w'
                         go_simp
                         with_reducible rfl
                        rotate_left
                        ·simp only [Act.put,List.setIfInBounds_toArray,List.set_cons_zero,List.set_cons_succ,i64_w,i32_w]
                         rfl
                        refine pure_ (i:=3) (N:=some 78) (v:=?_) (a':=?_) bA4_ rfl rfl (any_of HT_.out (by kernel_rfl)) (fun _ _ _ h=>h) (Or.inl ⟨by rfl,?_⟩) ?_ ?_
                        rotate_left
                        ·intro w'
                         go_simp
                         with_reducible rfl
                        rotate_left
                        ·simp only [Act.put,List.setIfInBounds_toArray,List.set_cons_zero,List.set_cons_succ,i64_w,i32_w]
                         rfl
                        refine pure_ (i:=4) (N:=some 79) (v:=?_) (a':=?_) bA5_ rfl rfl (any_of HT_.out (by kernel_rfl)) (fun _ _ _ h=>h) (Or.inl ⟨by rfl,?_⟩) ?_ ?_
                        rotate_left
                        ·intro w'
                         go_simp
                         with_reducible rfl
                        rotate_left
                        ·simp only [Act.put,List.setIfInBounds_toArray,List.set_cons_zero,List.set_cons_succ,i64_w,i32_w]
                         rfl
                        refine pure_ (i:=5) (N:=some 80) (v:=?_) (a':=?_) bA6_ rfl rfl (any_of HT_.out (by kernel_rfl)) (fun _ _ _ h=>h) (Or.inl ⟨by rfl,?_⟩) ?_ ?_
                        rotate_left
                        ·intro w'
                         go_simp
                         with_reducible rfl
                        rotate_left
                        ·simp only [Act.put,List.setIfInBounds_toArray,List.set_cons_zero,List.set_cons_succ,i64_w,i32_w]
                         rfl
                        refine pure_ (i:=9) (N:=some 84) (v:=?_) (a':=?_) bA7_ rfl rfl (any_of HT_.out (by kernel_rfl)) (fun _ _ _ h=>h) (Or.inl ⟨by rfl,?_⟩) ?_ ?_
                        rotate_left
                        ·intro w'
                         go_simp
                         with_reducible rfl
                        rotate_left
                        ·simp only [Act.put,List.setIfInBounds_toArray,List.set_cons_zero,List.set_cons_succ,i64_w,i32_w]
                         rfl
                        refine take_ (i:=6) (N:=some 81) (v:=?_) (a':=?_) bA8_ rfl rfl (take_ofW HT_.out HW_.out (by kernel_rfl)) (fun _ _ _ h=>h) (Or.inl ⟨by rfl,?_⟩) hHeld ?_ ?_
                        rotate_left
                        ·rintro w' ⟨s0,s1,s2,s3,s4,s5,s6,s7,s8,s9⟩
                         go_simp
                         with_reducible rfl
                        rotate_left
                        ·simp only [Act.put,List.setIfInBounds_toArray,List.set_cons_zero,List.set_cons_succ,i64_w,i32_w]
                         rfl
                        refine pure_ (i:=7) (N:=some 82) (v:=?_) (a':=?_) bA9_ rfl rfl (any_of HT_.out (by kernel_rfl)) (fun _ _ _ h=>h) (Or.inl ⟨by rfl,?_⟩) ?_ ?_
                        rotate_left
                        ·intro w'
                         go_simp
                         with_reducible rfl
                        rotate_left
                        ·simp only [Act.put,List.setIfInBounds_toArray,List.set_cons_zero,List.set_cons_succ,i64_w,i32_w]
                         rfl
                        refine take_ (i:=8) (N:=some 83) (v:=?_) (a':=?_) bA10_ rfl rfl (take_ofW HT_.out HW_.out (by kernel_rfl)) (fun _ _ _ h=>h) (Or.inl ⟨by rfl,?_⟩) hHeld ?_ ?_
                        rotate_left
                        ·rintro w' ⟨s0,s1,s2,s3,s4,s5,s6,s7,s8,s9⟩
                         go_simp
                         with_reducible rfl
                        rotate_left
                        ·simp only [Act.put,List.setIfInBounds_toArray,List.set_cons_zero,List.set_cons_succ,i64_w,i32_w]
                         rfl
                        refine take_ (i:=10) (N:=some 85) (v:=?_) (a':=?_) bA11_ rfl rfl (take_ofW HT_.out HW_.out (by kernel_rfl)) (fun _ _ _ h=>h) (Or.inl ⟨by rfl,?_⟩) hHeld ?_ ?_
                        rotate_left
                        ·rintro w' ⟨s0,s1,s2,s3,s4,s5,s6,s7,s8,s9⟩
                         go_simp
                         with_reducible rfl
                        rotate_left
                        ·simp only [Act.put,List.setIfInBounds_toArray,List.set_cons_zero,List.set_cons_succ,i64_w,i32_w]
                         rfl
                        refine pure_ (i:=11) (N:=some 86) (v:=?_) (a':=?_) bA12_ rfl rfl (any_of HT_.out (by kernel_rfl)) (fun _ _ _ h=>h) (Or.inl ⟨by rfl,?_⟩) ?_ ?_
                        rotate_left
                        ·intro w'
                         go_simp
                         with_reducible rfl
                        rotate_left
                        ·simp only [Act.put,List.setIfInBounds_toArray,List.set_cons_zero,List.set_cons_succ,i64_w,i32_w]
                         rfl
                        refine pure_ (i:=12) (N:=some 87) (v:=?_) (a':=?_) bA13_ rfl rfl (any_of HT_.out (by kernel_rfl)) (fun _ _ _ h=>h) (Or.inl ⟨by rfl,?_⟩) ?_ ?_
                        rotate_left
                        ·intro w'
                         go_simp
                         with_reducible rfl
                        rotate_left
                        ·simp only [Act.put,List.setIfInBounds_toArray,List.set_cons_zero,List.set_cons_succ,i64_w,i32_w]
                         rfl
                        refine pure_ (i:=13) (N:=some 88) (v:=?_) (a':=?_) bA14_ rfl rfl (any_of HT_.out (by kernel_rfl)) (fun _ _ _ h=>h) (Or.inl ⟨by rfl,?_⟩) ?_ ?_
                        rotate_left
                        ·intro w'
                         go_simp
                         with_reducible rfl
                        rotate_left
                        ·simp only [Act.put,List.setIfInBounds_toArray,List.set_cons_zero,List.set_cons_succ,i64_w,i32_w]
                         rfl
                        refine pure_ (i:=14) (N:=some 89) (v:=?_) (a':=?_) bA15_ rfl rfl (any_of HT_.out (by kernel_rfl)) (fun _ _ _ h=>h) (Or.inl ⟨by rfl,?_⟩) ?_ ?_
                        rotate_left
                        ·intro w'
                         go_simp
                         with_reducible rfl
                        rotate_left
                        ·simp only [Act.put,List.setIfInBounds_toArray,List.set_cons_zero,List.set_cons_succ,i64_w,i32_w]
                         rfl
                        refine pure_ (i:=18) (N:=some 93) (v:=?_) (a':=?_) bA16_ rfl rfl (any_of HT_.out (by kernel_rfl)) (fun _ _ _ h=>h) (Or.inl ⟨by rfl,?_⟩) ?_ ?_
                        rotate_left
                        ·intro w'
                         go_simp
                         with_reducible rfl
                        rotate_left
                        ·simp only [Act.put,List.setIfInBounds_toArray,List.set_cons_zero,List.set_cons_succ,i64_w,i32_w]
                         rfl
                        refine take_ (i:=15) (N:=some 90) (v:=?_) (a':=?_) bA17_ rfl rfl (take_ofW HT_.out HW_.out (by kernel_rfl)) (fun _ _ _ h=>h) (Or.inl ⟨by rfl,?_⟩) hHeld ?_ ?_
                        rotate_left
                        ·rintro w' ⟨s0,s1,s2,s3,s4,s5,s6,s7,s8,s9⟩
                         go_simp
                         with_reducible rfl
                        rotate_left
                        ·simp only [Act.put,List.setIfInBounds_toArray,List.set_cons_zero,List.set_cons_succ,i64_w,i32_w]
                         rfl
                        refine pure_ (i:=16) (N:=some 91) (v:=?_) (a':=?_) bA18_ rfl rfl (any_of HT_.out (by kernel_rfl)) (fun _ _ _ h=>h) (Or.inl ⟨by rfl,?_⟩) ?_ ?_
                        rotate_left
                        ·intro w'
                         go_simp
                         with_reducible rfl
                        rotate_left
                        ·simp only [Act.put,List.setIfInBounds_toArray,List.set_cons_zero,List.set_cons_succ,i64_w,i32_w]
                         rfl
                        refine take_ (i:=17) (N:=some 92) (v:=?_) (a':=?_) bA19_ rfl rfl (take_ofW HT_.out HW_.out (by kernel_rfl)) (fun _ _ _ h=>h) (Or.inl ⟨by rfl,?_⟩) hHeld ?_ ?_
                        rotate_left
                        ·rintro w' ⟨s0,s1,s2,s3,s4,s5,s6,s7,s8,s9⟩
                         go_simp
                         with_reducible rfl
                        rotate_left
                        ·simp only [Act.put,List.setIfInBounds_toArray,List.set_cons_zero,List.set_cons_succ,i64_w,i32_w]
                         rfl
                        refine take_ (i:=19) (N:=some 94) (v:=?_) (a':=?_) bA20_ rfl rfl (take_ofW HT_.out HW_.out (by kernel_rfl)) (fun _ _ _ h=>h) (Or.inl ⟨by rfl,?_⟩) hHeld ?_ ?_
                        rotate_left
                        ·rintro w' ⟨s0,s1,s2,s3,s4,s5,s6,s7,s8,s9⟩
                         go_simp
                         with_reducible rfl
                        rotate_left
                        ·simp only [Act.put,List.setIfInBounds_toArray,List.set_cons_zero,List.set_cons_succ,i64_w,i32_w]
                         rfl
                        refine pure_ (i:=20) (N:=some 95) (v:=?_) (a':=?_) bA21_ rfl rfl (any_of HT_.out (by kernel_rfl)) (fun _ _ _ h=>h) (Or.inl ⟨by rfl,?_⟩) ?_ ?_
                        rotate_left
                        ·intro w'
                         go_simp
                         with_reducible rfl
                        rotate_left
                        ·simp only [Act.put,List.setIfInBounds_toArray,List.set_cons_zero,List.set_cons_succ,i64_w,i32_w]
                         rfl
                        refine pure_ (i:=21) (N:=some 96) (v:=?_) (a':=?_) bA22_ rfl rfl (any_of HT_.out (by kernel_rfl)) (fun _ _ _ h=>h) (Or.inl ⟨by rfl,?_⟩) ?_ ?_
                        rotate_left
                        ·intro w'
                         go_simp
                         with_reducible rfl
                        rotate_left
                        ·simp only [Act.put,List.setIfInBounds_toArray,List.set_cons_zero,List.set_cons_succ,i64_w,i32_w]
                         rfl
                        refine pure_ (i:=22) (N:=some 97) (v:=?_) (a':=?_) bA23_ rfl rfl (any_of HT_.out (by kernel_rfl)) (fun _ _ _ h=>h) (Or.inl ⟨by rfl,?_⟩) ?_ ?_
                        rotate_left
                        ·intro w'
                         go_simp
                         with_reducible rfl
                        rotate_left
                        ·simp only [Act.put,List.setIfInBounds_toArray,List.set_cons_zero,List.set_cons_succ,i64_w,i32_w]
                         rfl
                        refine pure_ (i:=23) (N:=some 98) (v:=?_) (a':=?_) bA24_ rfl rfl (any_of HT_.out (by kernel_rfl)) (fun _ _ _ h=>h) (Or.inl ⟨by rfl,?_⟩) ?_ ?_
                        rotate_left
                        ·intro w'
                         go_simp
                         with_reducible rfl
                        rotate_left
                        ·simp only [Act.put,List.setIfInBounds_toArray,List.set_cons_zero,List.set_cons_succ,i64_w,i32_w]
                         rfl
                        refine pure_ (i:=24) (N:=some 99) (v:=?_) (a':=?_) bA25_ rfl rfl (any_of HT_.out (by kernel_rfl)) (fun _ _ _ h=>h) (Or.inl ⟨by rfl,?_⟩) ?_ ?_
                        rotate_left
                        ·intro w'
                         go_simp
                         with_reducible rfl
                        rotate_left
                        ·simp only [Act.put,List.setIfInBounds_toArray,List.set_cons_zero,List.set_cons_succ,i64_w,i32_w]
                         rfl
                        refine pure_ (i:=28) (N:=some 103) (v:=?_) (a':=?_) bA26_ rfl rfl (any_of HT_.out (by kernel_rfl)) (fun _ _ _ h=>h) (Or.inl ⟨by rfl,?_⟩) ?_ ?_
                        rotate_left
                        ·intro w'
                         go_simp
                         with_reducible rfl
                        rotate_left
                        ·simp only [Act.put,List.setIfInBounds_toArray,List.set_cons_zero,List.set_cons_succ,i64_w,i32_w]
                         rfl
                        refine take_ (i:=25) (N:=some 100) (v:=?_) (a':=?_) bA27_ rfl rfl (take_ofW HT_.out HW_.out (by kernel_rfl)) (fun _ _ _ h=>h) (Or.inl ⟨by rfl,?_⟩) hHeld ?_ ?_
                        rotate_left
                        ·rintro w' ⟨s0,s1,s2,s3,s4,s5,s6,s7,s8,s9⟩
                         go_simp
                         with_reducible rfl
                        rotate_left
                        ·simp only [Act.put,List.setIfInBounds_toArray,List.set_cons_zero,List.set_cons_succ,i64_w,i32_w]
                         rfl
                        refine pure_ (i:=26) (N:=some 101) (v:=?_) (a':=?_) bA28_ rfl rfl (any_of HT_.out (by kernel_rfl)) (fun _ _ _ h=>h) (Or.inl ⟨by rfl,?_⟩) ?_ ?_
                        rotate_left
                        ·intro w'
                         go_simp
                         with_reducible rfl
                        rotate_left
                        ·simp only [Act.put,List.setIfInBounds_toArray,List.set_cons_zero,List.set_cons_succ,i64_w,i32_w]
                         rfl
                        refine take_ (i:=27) (N:=some 102) (v:=?_) (a':=?_) bA29_ rfl rfl (take_ofW HT_.out HW_.out (by kernel_rfl)) (fun _ _ _ h=>h) (Or.inl ⟨by rfl,?_⟩) hHeld ?_ ?_
                        rotate_left
                        ·rintro w' ⟨s0,s1,s2,s3,s4,s5,s6,s7,s8,s9⟩
                         go_simp
                         with_reducible rfl
                        rotate_left
                        ·simp only [Act.put,List.setIfInBounds_toArray,List.set_cons_zero,List.set_cons_succ,i64_w,i32_w]
                         rfl
                        refine take_ (i:=29) (N:=some 104) (v:=?_) (a':=?_) bA30_ rfl rfl (take_ofW HT_.out HW_.out (by kernel_rfl)) (fun _ _ _ h=>h) (Or.inl ⟨by rfl,?_⟩) hHeld ?_ ?_
                        rotate_left
                        ·rintro w' ⟨s0,s1,s2,s3,s4,s5,s6,s7,s8,s9⟩
                         go_simp
                         with_reducible rfl
                        rotate_left
                        ·simp only [Act.put,List.setIfInBounds_toArray,List.set_cons_zero,List.set_cons_succ,i64_w,i32_w]
                         rfl
                        refine pure_ (i:=30) (N:=some 105) (v:=?_) (a':=?_) bA31_ rfl rfl (any_of HT_.out (by kernel_rfl)) (fun _ _ _ h=>h) (Or.inl ⟨by rfl,?_⟩) ?_ ?_
                        rotate_left
                        ·intro w'
                         go_simp
                         with_reducible rfl
                        rotate_left
                        ·simp only [Act.put,List.setIfInBounds_toArray,List.set_cons_zero,List.set_cons_succ,i64_w,i32_w]
                         rfl
                        refine one_ (i:=31) (N:=some 106) bA32_ rfl rfl (one_of HT_.out (by kernel_rfl)) (by decide) (fun K hK=>?_)
                        refine goes_ Try.func19 (by kernel_rfl) rfl #[.int .u32 t163,.int .i64 (wrap64 ((rd ((rd_T27 l0_3 x71_3).f1) 0) - a0_0))] (by rfl) rfl rfl (by (try simp only [List.map_toArray,List.map_cons,List.map_nil]);first|done|rfl|(simp only [List.length_drop,List.length_take];rfl)) ?_
                        with_reducible refine (coppicerref_Bit.calls t163 (wrap64 ((rd ((rd_T27 l0_3 x71_3).f1) 0) - a0_0)) true _ A51.out).mono ?_
                        rintro e w' ⟨rfl,⟨nd,rfl⟩⟩
                        refine ⟨_,rfl,?_⟩
                        refine hK.out _ _ ⟨(blk_cell BK181.out 0).trans rfl,(blk_cell BK181.out 1).trans rfl,(blk_cell BK162.out 0).trans rfl,(blk_cell BK162.out 1).trans rfl,(blk_cell BK162.out 2).trans rfl,(blk_cell BK162.out 3).trans rfl,((HB.out.cell (World.block_lt_of_cell? w _ hw182_0)).trans hw182_0),((HB.out.cell (World.block_lt_of_cell? w _ hw183_0)).trans hw183_0),((HB.out.cell (World.block_lt_of_cell? w _ hw184_0)).trans hw184_0),((HB.out.cell (World.block_lt_of_cell? w _ hw186_0)).trans hw186_0)⟩ (fun hHeld=>?_)
                        clear hK K
                        refine norm_ (a':=?_) ?_ ?_
                        rotate_left
                        ·show Act.put _ (some 106) _ = _
                         simp only [Act.put,List.setIfInBounds_toArray,List.set_cons_zero,List.set_cons_succ,i64_w,i32_w]
                         rfl
                        refine pure_ (i:=32) (N:=some 107) (v:=?_) (a':=?_) bA33_ rfl rfl (any_of HT_.out (by kernel_rfl)) (fun _ _ _ h=>h) (Or.inl ⟨by rfl,?_⟩) ?_ ?_
                        rotate_left
                        ·intro w'
                         go_simp
                         with_reducible rfl
                        rotate_left
                        ·simp only [Act.put,List.setIfInBounds_toArray,List.set_cons_zero,List.set_cons_succ,i64_w,i32_w]
                         rfl
                        refine pure_ (i:=33) (N:=some 108) (v:=?_) (a':=?_) bA34_ rfl rfl (any_of HT_.out (by kernel_rfl)) (fun _ _ _ h=>h) (Or.inl ⟨by rfl,?_⟩) ?_ ?_
                        rotate_left
                        ·intro w'
                         go_simp
                         with_reducible rfl
                        rotate_left
                        ·simp only [Act.put,List.setIfInBounds_toArray,List.set_cons_zero,List.set_cons_succ,i64_w,i32_w]
                         rfl
                        refine pure_ (i:=34) (N:=some 109) (v:=?_) (a':=?_) bA35_ rfl rfl (any_of HT_.out (by kernel_rfl)) (fun _ _ _ h=>h) (Or.inl ⟨by rfl,?_⟩) ?_ ?_
                        rotate_left
                        ·intro w'
                         go_simp
                         with_reducible rfl
                        rotate_left
                        ·simp only [Act.put,List.setIfInBounds_toArray,List.set_cons_zero,List.set_cons_succ,i64_w,i32_w]
                         rfl
                        refine pure_ (i:=35) (N:=some 110) (v:=?_) (a':=?_) bA36_ rfl rfl (any_of HT_.out (by kernel_rfl)) (fun _ _ _ h=>h) (Or.inl ⟨by rfl,?_⟩) ?_ ?_
                        rotate_left
                        ·intro w'
                         go_simp
                         with_reducible rfl
                        rotate_left
                        ·simp only [Act.put,List.setIfInBounds_toArray,List.set_cons_zero,List.set_cons_succ,i64_w,i32_w]
                         rfl
                        refine pure_ (i:=39) (N:=some 114) (v:=?_) (a':=?_) bA37_ rfl rfl (any_of HT_.out (by kernel_rfl)) (fun _ _ _ h=>h) (Or.inl ⟨by rfl,?_⟩) ?_ ?_
                        rotate_left
                        ·intro w'
                         go_simp
                         with_reducible rfl
                        rotate_left
                        ·simp only [Act.put,List.setIfInBounds_toArray,List.set_cons_zero,List.set_cons_succ,i64_w,i32_w]
                         rfl
                        refine take_ (i:=36) (N:=some 111) (v:=?_) (a':=?_) bA38_ rfl rfl (take_ofW HT_.out HW_.out (by kernel_rfl)) (fun _ _ _ h=>h) (Or.inl ⟨by rfl,?_⟩) hHeld ?_ ?_
                        rotate_left
                        ·rintro w' ⟨s0,s1,s2,s3,s4,s5,s6,s7,s8,s9⟩
                         go_simp
                         with_reducible rfl
                        rotate_left
                        ·simp only [Act.put,List.setIfInBounds_toArray,List.set_cons_zero,List.set_cons_succ,i64_w,i32_w]
                         rfl
                        refine pure_ (i:=37) (N:=some 112) (v:=?_) (a':=?_) bA39_ rfl rfl (any_of HT_.out (by kernel_rfl)) (fun _ _ _ h=>h) (Or.inl ⟨by rfl,?_⟩) ?_ ?_
                        rotate_left
                        ·intro w'
                         go_simp
                         with_reducible rfl
                        rotate_left
                        ·simp only [Act.put,List.setIfInBounds_toArray,List.set_cons_zero,List.set_cons_succ,i64_w,i32_w]
                         rfl
                        refine take_ (i:=38) (N:=some 113) (v:=?_) (a':=?_) bA40_ rfl rfl (take_ofW HT_.out HW_.out (by kernel_rfl)) (fun _ _ _ h=>h) (Or.inl ⟨by rfl,?_⟩) hHeld ?_ ?_
                        rotate_left
                        ·rintro w' ⟨s0,s1,s2,s3,s4,s5,s6,s7,s8,s9⟩
                         go_simp
                         with_reducible rfl
                        rotate_left
                        ·simp only [Act.put,List.setIfInBounds_toArray,List.set_cons_zero,List.set_cons_succ,i64_w,i32_w]
                         rfl
                        refine take_ (i:=40) (N:=some 115) (v:=?_) (a':=?_) bA41_ rfl rfl (take_ofW HT_.out HW_.out (by kernel_rfl)) (fun _ _ _ h=>h) (Or.inl ⟨by rfl,?_⟩) hHeld ?_ ?_
                        rotate_left
                        ·rintro w' ⟨s0,s1,s2,s3,s4,s5,s6,s7,s8,s9⟩
                         go_simp
                         with_reducible rfl
                        rotate_left
                        ·simp only [Act.put,List.setIfInBounds_toArray,List.set_cons_zero,List.set_cons_succ,i64_w,i32_w]
                         rfl
                        refine pure_ (i:=41) (N:=some 116) (v:=?_) (a':=?_) bA42_ rfl rfl (any_of HT_.out (by kernel_rfl)) (fun _ _ _ h=>h) (Or.inl ⟨by rfl,?_⟩) ?_ ?_
                        rotate_left
                        ·intro w'
                         go_simp
                         with_reducible rfl
                        rotate_left
                        ·simp only [Act.put,List.setIfInBounds_toArray,List.set_cons_zero,List.set_cons_succ,i64_w,i32_w]
                         rfl
                        refine one_ (i:=42) (N:=some 117) bA43_ rfl rfl (one_of HT_.out (by kernel_rfl)) (by decide) (fun K hK=>?_)
                        refine goes_ Try.func19 (by kernel_rfl) rfl #[.int .u32 t165,.int .i64 (wrap64 ((rd ((rd_T27 l0_3 x71_3).f1) 1) - a0_0))] (by rfl) rfl rfl (by (try simp only [List.map_toArray,List.map_cons,List.map_nil]);first|done|rfl|(simp only [List.length_drop,List.length_take];rfl)) ?_
                        with_reducible refine (coppicerref_Bit.calls t165 (wrap64 ((rd ((rd_T27 l0_3 x71_3).f1) 1) - a0_0)) true _ A53.out).mono ?_
                        rintro e w' ⟨rfl,⟨nd,rfl⟩⟩
                        refine ⟨_,rfl,?_⟩
                        refine hK.out _ _ ⟨(blk_cell BK181.out 0).trans rfl,(blk_cell BK181.out 1).trans rfl,(blk_cell BK162.out 0).trans rfl,(blk_cell BK162.out 1).trans rfl,(blk_cell BK162.out 2).trans rfl,(blk_cell BK162.out 3).trans rfl,((HB.out.cell (World.block_lt_of_cell? w _ hw182_0)).trans hw182_0),((HB.out.cell (World.block_lt_of_cell? w _ hw183_0)).trans hw183_0),((HB.out.cell (World.block_lt_of_cell? w _ hw184_0)).trans hw184_0),((HB.out.cell (World.block_lt_of_cell? w _ hw186_0)).trans hw186_0)⟩ (fun hHeld=>?_)
                        clear hK K
                        refine norm_ (a':=?_) ?_ ?_
                        rotate_left
                        ·show Act.put _ (some 117) _ = _
                         simp only [Act.put,List.setIfInBounds_toArray,List.set_cons_zero,List.set_cons_succ,i64_w,i32_w]
                         rfl
                        refine pure_ (i:=43) (N:=some 118) (v:=?_) (a':=?_) bA44_ rfl rfl (any_of HT_.out (by kernel_rfl)) (fun _ _ _ h=>h) (Or.inl ⟨by rfl,?_⟩) ?_ ?_
                        rotate_left
                        ·intro w'
                         go_simp
                         with_reducible rfl
                        rotate_left
                        ·simp only [Act.put,List.setIfInBounds_toArray,List.set_cons_zero,List.set_cons_succ,i64_w,i32_w]
                         rfl
                        refine pure_ (i:=44) (N:=some 119) (v:=?_) (a':=?_) bA45_ rfl rfl (any_of HT_.out (by kernel_rfl)) (fun _ _ _ h=>h) (Or.inl ⟨by rfl,?_⟩) ?_ ?_
                        rotate_left
                        ·intro w'
                         go_simp
                         with_reducible rfl
                        rotate_left
                        ·simp only [Act.put,List.setIfInBounds_toArray,List.set_cons_zero,List.set_cons_succ,i64_w,i32_w]
                         rfl
                        refine pure_ (i:=45) (N:=some 120) (v:=?_) (a':=?_) bA46_ rfl rfl (any_of HT_.out (by kernel_rfl)) (fun _ _ _ h=>h) (Or.inl ⟨by rfl,?_⟩) ?_ ?_
                        rotate_left
                        ·intro w'
                         go_simp
                         with_reducible rfl
                        rotate_left
                        ·simp only [Act.put,List.setIfInBounds_toArray,List.set_cons_zero,List.set_cons_succ,i64_w,i32_w]
                         rfl
                        refine pure_ (i:=46) (N:=some 121) (v:=?_) (a':=?_) bA47_ rfl rfl (any_of HT_.out (by kernel_rfl)) (fun _ _ _ h=>h) (Or.inl ⟨by rfl,?_⟩) ?_ ?_
                        rotate_left
                        ·intro w'
                         go_simp
                         with_reducible rfl
                        rotate_left
                        ·simp only [Act.put,List.setIfInBounds_toArray,List.set_cons_zero,List.set_cons_succ,i64_w,i32_w]
                         rfl
                        refine take_ (i:=47) (N:=some 122) (v:=?_) (a':=?_) bA48_ rfl rfl (take_ofW HT_.out HW_.out (by kernel_rfl)) (fun _ _ _ h=>h) (Or.inl ⟨by rfl,?_⟩) hHeld ?_ ?_
                        rotate_left
                        ·rintro w' ⟨s0,s1,s2,s3,s4,s5,s6,s7,s8,s9⟩
                         go_simp
                         with_reducible rfl
                        rotate_left
                        ·simp only [Act.put,List.setIfInBounds_toArray,List.set_cons_zero,List.set_cons_succ,i64_w,i32_w]
                         rfl
                        refine one_ (i:=48) (N:=some 123) bA49_ rfl rfl (one_of HT_.out (by kernel_rfl)) (by decide) (fun K hK=>?_)
                        refine goes_ Try.func19 (by kernel_rfl) rfl #[.int .u32 t178,.int .i64 ((rd_T27 l0_3 x71_3).f0)] (by rfl) rfl rfl (by (try simp only [List.map_toArray,List.map_cons,List.map_nil]);first|done|rfl|(simp only [List.length_drop,List.length_take];rfl)) ?_
                        with_reducible refine (coppicerref_Bit.calls t178 ((rd_T27 l0_3 x71_3).f0) t188 _ A55.out).mono ?_
                        rintro e w' ⟨rfl,⟨nd,rfl⟩⟩
                        refine ⟨_,rfl,?_⟩
                        refine hK.out _ _ ⟨(blk_cell BK181.out 0).trans rfl,(blk_cell BK181.out 1).trans rfl,(blk_cell BK162.out 0).trans rfl,(blk_cell BK162.out 1).trans rfl,(blk_cell BK162.out 2).trans rfl,(blk_cell BK162.out 3).trans rfl,((HB.out.cell (World.block_lt_of_cell? w _ hw182_0)).trans hw182_0),((HB.out.cell (World.block_lt_of_cell? w _ hw183_0)).trans hw183_0),((HB.out.cell (World.block_lt_of_cell? w _ hw184_0)).trans hw184_0),((HB.out.cell (World.block_lt_of_cell? w _ hw186_0)).trans hw186_0)⟩ (fun hHeld=>?_)
                        clear hK K
                        refine norm_ (a':=?_) ?_ ?_
                        rotate_left
                        ·show Act.put _ (some 123) _ = _
                         simp only [Act.put,List.setIfInBounds_toArray,List.set_cons_zero,List.set_cons_succ,i64_w,i32_w]
                         rfl
                        refine pure_ (i:=49) (N:=some 124) (v:=?_) (a':=?_) bA50_ rfl rfl (any_of HT_.out (by kernel_rfl)) (fun _ _ _ h=>h) (Or.inl ⟨by rfl,?_⟩) ?_ ?_
                        rotate_left
                        ·intro w'
                         go_simp
                         with_reducible rfl
                        rotate_left
                        ·simp only [Act.put,List.setIfInBounds_toArray,List.set_cons_zero,List.set_cons_succ,i64_w,i32_w]
                         rfl
                        refine pure_ (i:=50) (N:=some 125) (v:=?_) (a':=?_) bA51_ rfl rfl (any_of HT_.out (by kernel_rfl)) (fun _ _ _ h=>h) (Or.inl ⟨by rfl,?_⟩) ?_ ?_
                        rotate_left
                        ·intro w'
                         go_simp
                         with_reducible rfl
                        rotate_left
                        ·simp only [Act.put,List.setIfInBounds_toArray,List.set_cons_zero,List.set_cons_succ,i64_w,i32_w]
                         rfl
                        refine done_ (done_of HT_.out (by kernel_rfl)) ?_
                        try go_wp2
                        go_meet
                        case rel=>exact ⟨_,(!t188),(by first|rfl|(simp;done)|(simp [*];done)),H',⟨by have:=HJ5.out;have:=HJ25.out;have:=HK3.out;first|omega|exact Nat.le_refl _⟩,⟨by (with_reducible repeat (first|apply Kd.R_alloc|apply Kd.R_drewN|apply Kd.R_drew));exact HO_11.out⟩,⟨by (with_reducible repeat (first|refine blk_drewN ?_ _|refine blk_drew ?_|refine blk_alloc ?_ _));exact BK162.out⟩,⟨by (with_reducible repeat (first|refine blk_drewN ?_ _|refine blk_drew ?_|refine blk_alloc ?_ _));exact BK181.out⟩,⟨by repeat (first|(with_reducible first|exact HB.out|apply below_alloc|apply pw_below_drewN|apply below_drew1|refine below_set ?_ GE162.out|refine below_set ?_ GE181.out)|exact HB.out)⟩⟩
                       ·replace c54:=Bool.eq_false_iff.mpr c54
                        subst c54
                        have H1 : (coppicerkeep_TableJoins.j3 k3 t163 t165 y175 t178 l0_3 (l0_3.length : Int) x71_3 false a0_0 a0_1 a0_2 l0_3 ((rd_T27 l0_3 x71_3).f0) ((rd_T27 l0_3 x71_3).f1)) = some r:=by rw [if_neg (show ¬ (false = true) by decide)] at H;exact H
                        clear H
                        have H:=H1
                        clear H1
                        have H':=Aside0.mk H
                        clear H
                        try go_wp2
                        have n0_ : Aside0 (Kd.R (Kd.int .i64) 3 ((w43.setCell ⟨gb181,0,none⟩ (.int .i64 ((rd_T27 l0_3 x71_3).f0))).setCell ⟨gb181,1,none⟩ (.slice A180_1 ((rd_T27 l0_3 x71_3).f1).length c180_1)) w.heap.size (fun _=>True) (.slice Ao32 y175.length co32) y175):=⟨by (with_reducible repeat (first|apply Kd.R_alloc|apply Kd.R_drewN|apply Kd.R_drew));exact Kd.R_mono (Kd.R_far (p:=⟨gb181,1,none⟩) (Kd.R_far (p:=⟨gb181,0,none⟩) (Kd.R_types HO_11.out BK181.out (by decide)) (fun _ hk=>hk.2) (.int .i64 ((rd_T27 l0_3 x71_3).f0))) (fun _ hk=>hk.2) (.slice A180_1 ((rd_T27 l0_3 x71_3).f1).length c180_1)) (fun _ hk=>trivial)⟩
                        have n1_ : Aside0 (((w43.setCell ⟨gb181,0,none⟩ (.int .i64 ((rd_T27 l0_3 x71_3).f0))).setCell ⟨gb181,1,none⟩ (.slice A180_1 ((rd_T27 l0_3 x71_3).f1).length c180_1)).heap[gb162]? = some (.cells #[.int .i64 a0_0,.int .i64 a0_1,.int .i64 a0_2,.slice (some ad180) l0_3.length c0_3] 24 (0,0))):=⟨by (with_reducible repeat (first|refine blk_drewN ?_ _|refine blk_drew ?_|refine blk_alloc ?_ _));refine blk_far ?_ NB162_181.out _;(with_reducible repeat (first|refine blk_drewN ?_ _|refine blk_drew ?_|refine blk_alloc ?_ _));refine blk_far ?_ NB162_181.out _;(with_reducible repeat (first|refine blk_drewN ?_ _|refine blk_drew ?_|refine blk_alloc ?_ _));exact BK162.out⟩
                        have n2_ : Aside0 (((w43.setCell ⟨gb181,0,none⟩ (.int .i64 ((rd_T27 l0_3 x71_3).f0))).setCell ⟨gb181,1,none⟩ (.slice A180_1 ((rd_T27 l0_3 x71_3).f1).length c180_1)).heap[gb181]? = some (.cells #[.int .i64 ((rd_T27 l0_3 x71_3).f0),.slice A180_1 ((rd_T27 l0_3 x71_3).f1).length c180_1] 27 (0,0))):=⟨by (with_reducible repeat (first|refine blk_drewN ?_ _|refine blk_drew ?_|refine blk_alloc ?_ _));refine blk_put (cs:=#[.int .i64 ((rd_T27 l0_3 x71_3).f0),.slice none 0 0]) ?_ 1 _ rfl;(with_reducible repeat (first|refine blk_drewN ?_ _|refine blk_drew ?_|refine blk_alloc ?_ _));refine blk_put (cs:=#[.int .i64 0,.slice none 0 0]) ?_ 0 _ rfl;(with_reducible repeat (first|refine blk_drewN ?_ _|refine blk_drew ?_|refine blk_alloc ?_ _));exact BK181.out⟩
                        have n3_ : Aside0 (Below w.heap.size w ((w43.setCell ⟨gb181,0,none⟩ (.int .i64 ((rd_T27 l0_3 x71_3).f0))).setCell ⟨gb181,1,none⟩ (.slice A180_1 ((rd_T27 l0_3 x71_3).f1).length c180_1))):=⟨by repeat (first|(with_reducible first|exact HB.out|apply below_alloc|apply pw_below_drewN|apply below_drew1|refine below_set ?_ GE162.out|refine below_set ?_ GE181.out)|exact HB.out)⟩
                        (try clear HO_11)
                        (try clear BK162)
                        (try clear BK181)
                        (try clear HB)
                        generalize ((w43.setCell ⟨gb181,0,none⟩ (.int .i64 ((rd_T27 l0_3 x71_3).f0))).setCell ⟨gb181,1,none⟩ (.slice A180_1 ((rd_T27 l0_3 x71_3).f1).length c180_1)) = w58 at n0_ n1_ n2_ n3_ ⊢
                        have HO_11:=n0_
                        have BK162:=n1_
                        have BK181:=n2_
                        have HB:=n3_
                        clear n0_ n1_ n2_ n3_
                        have n0_:=Aside0.mk (Kd.R_drew HO_11.out)
                        have n1_:=Aside0.mk (blk_drew BK162.out)
                        have n2_:=Aside0.mk (blk_drew BK181.out)
                        have n3_:=Aside0.mk (below_drew1 HB.out)
                        clear HO_11
                        clear BK162
                        clear BK181
                        clear HB
                        have HO_11:=n0_
                        have BK162:=n1_
                        have BK181:=n2_
                        have HB:=n3_
                        clear n0_ n1_ n2_ n3_
                        have p182 : 0 ≤ (0 : Int):=(by omega)
                        have q182 : 0 < (((rd_T27 l0_3 x71_3).f1).length : Int):=of_decide_eq_true (by first|(with_reducible assumption)|assumption)
                        obtain ⟨ad182,e182,hx182_0⟩:=Kd.at_int HR180_1.out 0 p182 q182
                        have hw182_0:=hx182_0
                        (try rw [show ((0 : Int)).toNat = 0 from rfl] at hw182_0)
                        (try rw [show 0 * 1 = 0 from rfl] at hw182_0)
                        (try rw [Addr.add_zero'] at hw182_0)
                        cases e182
                        have qi182 : (0 < ((rd_T27 l0_3 x71_3).f1).length) = True:=eq_true (by omega)
                        (try rw [show ((0 : Int)).toNat = 0 from rfl] at hx182_0)
                        (try rw [Addr.add_zero'] at hx182_0)
                        replace hx182_0:=(HB.out.cell (World.block_lt_of_cell? w _ hx182_0)).trans hx182_0
                        replace p182:=eq_true p182
                        replace q182:=eq_true q182
                        have p183 : 0 ≤ (1 : Int):=(by omega)
                        have q183 : 1 < (((rd_T27 l0_3 x71_3).f1).length : Int):=of_decide_eq_true (by first|(with_reducible assumption)|assumption)
                        obtain ⟨ad183,e183,hx183_0⟩:=Kd.at_int HR180_1.out 1 p183 q183
                        have hw183_0:=hx183_0
                        (try rw [show ((1 : Int)).toNat = 1 from rfl] at hw183_0)
                        (try rw [show 1 * 1 = 1 from rfl] at hw183_0)
                        (try simp only [Nat.reduceMul,Nat.reduceEqDiff,Go.Addr.add,↓reduceIte] at hw183_0)
                        obtain rfl : ad182 = ad183:=(by injection e183)
                        (try simp only [show (1 : Int).toNat = 1 from rfl,Nat.reduceMul,Nat.reduceEqDiff,Go.Addr.add,↓reduceIte] at hx183_0)
                        have qi183 : (1 < ((rd_T27 l0_3 x71_3).f1).length) = True:=eq_true (by omega)
                        (try rw [show ((1 : Int)).toNat = 1 from rfl] at hx183_0)
                        replace hx183_0:=(HB.out.cell (World.block_lt_of_cell? w _ hx183_0)).trans hx183_0
                        replace p183:=eq_true p183
                        replace q183:=eq_true q183
                        have p184 : 0 ≤ (0 : Int):=(by omega)
                        have q184 : 0 < (((rd_T27 l0_3 x71_3).f1).length : Int):=of_decide_eq_true (by first|(with_reducible assumption)|assumption)
                        obtain ⟨ad184,e184,hx184_0⟩:=Kd.at_int HR180_1.out 0 p184 q184
                        have hw184_0:=hx184_0
                        (try rw [show ((0 : Int)).toNat = 0 from rfl] at hw184_0)
                        (try rw [show 0 * 1 = 0 from rfl] at hw184_0)
                        (try rw [Addr.add_zero'] at hw184_0)
                        obtain rfl : ad182 = ad184:=(by injection e184)
                        have qi184 : (0 < ((rd_T27 l0_3 x71_3).f1).length) = True:=eq_true (by omega)
                        (try rw [show ((0 : Int)).toNat = 0 from rfl] at hx184_0)
                        (try rw [Addr.add_zero'] at hx184_0)
                        replace hx184_0:=(HB.out.cell (World.block_lt_of_cell? w _ hx184_0)).trans hx184_0
                        replace p184:=eq_true p184
                        replace q184:=eq_true q184
                        have p186 : 0 ≤ (1 : Int):=(by omega)
                        have q186 : 1 < (((rd_T27 l0_3 x71_3).f1).length : Int):=of_decide_eq_true (by first|(with_reducible assumption)|assumption)
                        obtain ⟨ad186,e186,hx186_0⟩:=Kd.at_int HR180_1.out 1 p186 q186
                        have hw186_0:=hx186_0
                        (try rw [show ((1 : Int)).toNat = 1 from rfl] at hw186_0)
                        (try rw [show 1 * 1 = 1 from rfl] at hw186_0)
                        (try simp only [Nat.reduceMul,Nat.reduceEqDiff,Go.Addr.add,↓reduceIte] at hw186_0)
                        obtain rfl : ad182 = ad186:=(by injection e186)
                        (try simp only [show (1 : Int).toNat = 1 from rfl,Nat.reduceMul,Nat.reduceEqDiff,Go.Addr.add,↓reduceIte] at hx186_0)
                        have qi186 : (1 < ((rd_T27 l0_3 x71_3).f1).length) = True:=eq_true (by omega)
                        (try rw [show ((1 : Int)).toNat = 1 from rfl] at hx186_0)
                        replace hx186_0:=(HB.out.cell (World.block_lt_of_cell? w _ hx186_0)).trans hx186_0
                        replace p186:=eq_true p186
                        replace q186:=eq_true q186
                        refine start_ (n:=51) (S:=fun w'=>w'.cell? ⟨gb181,0,none⟩ = some (.int .i64 ((rd_T27 l0_3 x71_3).f0)) ∧ w'.cell? ⟨gb181,1,none⟩ = some (.slice (some ad182) ((rd_T27 l0_3 x71_3).f1).length c180_1) ∧ w'.cell? ⟨gb162,0,none⟩ = some (.int .i64 a0_0) ∧ w'.cell? ⟨gb162,1,none⟩ = some (.int .i64 a0_1) ∧ w'.cell? ⟨gb162,2,none⟩ = some (.int .i64 a0_2) ∧ w'.cell? ⟨gb162,3,none⟩ = some (.slice (some ad180) l0_3.length c0_3) ∧ w'.cell? ad182 = some (.int .i64 (rd ((rd_T27 l0_3 x71_3).f1) 0)) ∧ w'.cell? ⟨ad182.block,ad182.off + 1,none⟩ = some (.int .i64 (rd ((rd_T27 l0_3 x71_3).f1) 1)) ∧ w'.cell? ad182 = some (.int .i64 (rd ((rd_T27 l0_3 x71_3).f1) 0)) ∧ w'.cell? ⟨ad182.block,ad182.off + 1,none⟩ = some (.int .i64 (rd ((rd_T27 l0_3 x71_3).f1) 1))) (ds:=[]) bA0_ (by kernel_rfl) rfl rfl ⟨(blk_cell BK181.out 0).trans rfl,(blk_cell BK181.out 1).trans rfl,(blk_cell BK162.out 0).trans rfl,(blk_cell BK162.out 1).trans rfl,(blk_cell BK162.out 2).trans rfl,(blk_cell BK162.out 3).trans rfl,((HB.out.cell (World.block_lt_of_cell? w _ hw182_0)).trans hw182_0),((HB.out.cell (World.block_lt_of_cell? w _ hw183_0)).trans hw183_0),((HB.out.cell (World.block_lt_of_cell? w _ hw184_0)).trans hw184_0),((HB.out.cell (World.block_lt_of_cell? w _ hw186_0)).trans hw186_0)⟩ (fun hHeld=>?_);refine with_tabW coppicerkeep_TableJoins.tab16 coppicerkeep_TableJoins.bits16 (fun HT_ HW_=>?_)
                        generalize w58.drew = w59 at HO_11 BK162 BK181 HB hx182_0 hx183_0 hx184_0 hx186_0 hHeld ⊢
                        refine pure_ (i:=0) (N:=some 75) (v:=?_) (a':=?_) bA1_ rfl rfl (any_of HT_.out (by kernel_rfl)) (fun _ _ _ h=>h) (Or.inl ⟨by rfl,?_⟩) ?_ ?_
                        rotate_left
                        ·intro w'
                         go_simp
                         with_reducible rfl
                        rotate_left
                        ·simp only [Act.put,List.setIfInBounds_toArray,List.set_cons_zero,List.set_cons_succ,i64_w,i32_w]
                         rfl
                        refine take_ (i:=1) (N:=some 76) (v:=?_) (a':=?_) bA2_ rfl rfl (take_ofW HT_.out HW_.out (by kernel_rfl)) (fun _ _ _ h=>h) (Or.inl ⟨by rfl,?_⟩) hHeld ?_ ?_
                        rotate_left
                        ·rintro w' ⟨s0,s1,s2,s3,s4,s5,s6,s7,s8,s9⟩
                         go_simp
                         with_reducible rfl
                        rotate_left
                        ·simp only [Act.put,List.setIfInBounds_toArray,List.set_cons_zero,List.set_cons_succ,i64_w,i32_w]
                         rfl
                        refine pure_ (i:=2) (N:=some 77) (v:=?_) (a':=?_) bA3_ rfl rfl (any_of HT_.out (by kernel_rfl)) (fun _ _ _ h=>h) (Or.inl ⟨by rfl,?_⟩) ?_ ?_
                        rotate_left
                        ·intro w'
                         go_simp
                         with_reducible rfl
                        rotate_left
                        ·simp only [Act.put,List.setIfInBounds_toArray,List.set_cons_zero,List.set_cons_succ,i64_w,i32_w]
                         rfl
                        refine pure_ (i:=3) (N:=some 78) (v:=?_) (a':=?_) bA4_ rfl rfl (any_of HT_.out (by kernel_rfl)) (fun _ _ _ h=>h) (Or.inl ⟨by rfl,?_⟩) ?_ ?_
                        rotate_left
                        ·intro w'
                         go_simp
                         with_reducible rfl
                        rotate_left
                        ·simp only [Act.put,List.setIfInBounds_toArray,List.set_cons_zero,List.set_cons_succ,i64_w,i32_w]
                         rfl
                        refine pure_ (i:=4) (N:=some 79) (v:=?_) (a':=?_) bA5_ rfl rfl (any_of HT_.out (by kernel_rfl)) (fun _ _ _ h=>h) (Or.inl ⟨by rfl,?_⟩) ?_ ?_
                        rotate_left
                        ·intro w'
                         go_simp
                         with_reducible rfl
                        rotate_left
                        ·simp only [Act.put,List.setIfInBounds_toArray,List.set_cons_zero,List.set_cons_succ,i64_w,i32_w]
                         rfl
                        refine pure_ (i:=5) (N:=some 80) (v:=?_) (a':=?_) bA6_ rfl rfl (any_of HT_.out (by kernel_rfl)) (fun _ _ _ h=>h) (Or.inl ⟨by rfl,?_⟩) ?_ ?_
                        rotate_left
                        ·intro w'
                         go_simp
                         with_reducible rfl
                        rotate_left
                        ·simp only [Act.put,List.setIfInBounds_toArray,List.set_cons_zero,List.set_cons_succ,i64_w,i32_w]
                         rfl
                        refine pure_ (i:=9) (N:=some 84) (v:=?_) (a':=?_) bA7_ rfl rfl (any_of HT_.out (by kernel_rfl)) (fun _ _ _ h=>h) (Or.inl ⟨by rfl,?_⟩) ?_ ?_
                        rotate_left
                        ·intro w'
                         go_simp
                         with_reducible rfl
                        rotate_left
                        ·simp only [Act.put,List.setIfInBounds_toArray,List.set_cons_zero,List.set_cons_succ,i64_w,i32_w]
                         rfl
                        refine take_ (i:=6) (N:=some 81) (v:=?_) (a':=?_) bA8_ rfl rfl (take_ofW HT_.out HW_.out (by kernel_rfl)) (fun _ _ _ h=>h) (Or.inl ⟨by rfl,?_⟩) hHeld ?_ ?_
                        rotate_left
                        ·rintro w' ⟨s0,s1,s2,s3,s4,s5,s6,s7,s8,s9⟩
                         go_simp
                         with_reducible rfl
                        rotate_left
                        ·simp only [Act.put,List.setIfInBounds_toArray,List.set_cons_zero,List.set_cons_succ,i64_w,i32_w]
                         rfl
                        refine pure_ (i:=7) (N:=some 82) (v:=?_) (a':=?_) bA9_ rfl rfl (any_of HT_.out (by kernel_rfl)) (fun _ _ _ h=>h) (Or.inl ⟨by rfl,?_⟩) ?_ ?_
                        rotate_left
                        ·intro w'
                         go_simp
                         with_reducible rfl
                        rotate_left
                        ·simp only [Act.put,List.setIfInBounds_toArray,List.set_cons_zero,List.set_cons_succ,i64_w,i32_w]
                         rfl
                        refine take_ (i:=8) (N:=some 83) (v:=?_) (a':=?_) bA10_ rfl rfl (take_ofW HT_.out HW_.out (by kernel_rfl)) (fun _ _ _ h=>h) (Or.inl ⟨by rfl,?_⟩) hHeld ?_ ?_
                        rotate_left
                        ·rintro w' ⟨s0,s1,s2,s3,s4,s5,s6,s7,s8,s9⟩
                         go_simp
                         with_reducible rfl
                        rotate_left
                        ·simp only [Act.put,List.setIfInBounds_toArray,List.set_cons_zero,List.set_cons_succ,i64_w,i32_w]
                         rfl
                        refine take_ (i:=10) (N:=some 85) (v:=?_) (a':=?_) bA11_ rfl rfl (take_ofW HT_.out HW_.out (by kernel_rfl)) (fun _ _ _ h=>h) (Or.inl ⟨by rfl,?_⟩) hHeld ?_ ?_
                        rotate_left
                        ·rintro w' ⟨s0,s1,s2,s3,s4,s5,s6,s7,s8,s9⟩
                         go_simp
                         with_reducible rfl
                        rotate_left
                        ·simp only [Act.put,List.setIfInBounds_toArray,List.set_cons_zero,List.set_cons_succ,i64_w,i32_w]
                         rfl
                        refine pure_ (i:=11) (N:=some 86) (v:=?_) (a':=?_) bA12_ rfl rfl (any_of HT_.out (by kernel_rfl)) (fun _ _ _ h=>h) (Or.inl ⟨by rfl,?_⟩) ?_ ?_
                        rotate_left
                        ·intro w'
                         go_simp
                         with_reducible rfl
                        rotate_left
                        ·simp only [Act.put,List.setIfInBounds_toArray,List.set_cons_zero,List.set_cons_succ,i64_w,i32_w]
                         rfl
                        refine pure_ (i:=12) (N:=some 87) (v:=?_) (a':=?_) bA13_ rfl rfl (any_of HT_.out (by kernel_rfl)) (fun _ _ _ h=>h) (Or.inl ⟨by rfl,?_⟩) ?_ ?_
                        rotate_left
                        ·intro w'
                         go_simp
                         with_reducible rfl
                        rotate_left
                        ·simp only [Act.put,List.setIfInBounds_toArray,List.set_cons_zero,List.set_cons_succ,i64_w,i32_w]
                         rfl
                        refine pure_ (i:=13) (N:=some 88) (v:=?_) (a':=?_) bA14_ rfl rfl (any_of HT_.out (by kernel_rfl)) (fun _ _ _ h=>h) (Or.inl ⟨by rfl,?_⟩) ?_ ?_
                        rotate_left
                        ·intro w'
                         go_simp
                         with_reducible rfl
                        rotate_left
                        ·simp only [Act.put,List.setIfInBounds_toArray,List.set_cons_zero,List.set_cons_succ,i64_w,i32_w]
                         rfl
                        refine pure_ (i:=14) (N:=some 89) (v:=?_) (a':=?_) bA15_ rfl rfl (any_of HT_.out (by kernel_rfl)) (fun _ _ _ h=>h) (Or.inl ⟨by rfl,?_⟩) ?_ ?_
                        rotate_left
                        ·intro w'
                         go_simp
                         with_reducible rfl
                        rotate_left
                        ·simp only [Act.put,List.setIfInBounds_toArray,List.set_cons_zero,List.set_cons_succ,i64_w,i32_w]
                         rfl
                        refine pure_ (i:=18) (N:=some 93) (v:=?_) (a':=?_) bA16_ rfl rfl (any_of HT_.out (by kernel_rfl)) (fun _ _ _ h=>h) (Or.inl ⟨by rfl,?_⟩) ?_ ?_
                        rotate_left
                        ·intro w'
                         go_simp
                         with_reducible rfl
                        rotate_left
                        ·simp only [Act.put,List.setIfInBounds_toArray,List.set_cons_zero,List.set_cons_succ,i64_w,i32_w]
                         rfl
                        refine take_ (i:=15) (N:=some 90) (v:=?_) (a':=?_) bA17_ rfl rfl (take_ofW HT_.out HW_.out (by kernel_rfl)) (fun _ _ _ h=>h) (Or.inl ⟨by rfl,?_⟩) hHeld ?_ ?_
                        rotate_left
                        ·rintro w' ⟨s0,s1,s2,s3,s4,s5,s6,s7,s8,s9⟩
                         go_simp
                         with_reducible rfl
                        rotate_left
                        ·simp only [Act.put,List.setIfInBounds_toArray,List.set_cons_zero,List.set_cons_succ,i64_w,i32_w]
                         rfl
                        refine pure_ (i:=16) (N:=some 91) (v:=?_) (a':=?_) bA18_ rfl rfl (any_of HT_.out (by kernel_rfl)) (fun _ _ _ h=>h) (Or.inl ⟨by rfl,?_⟩) ?_ ?_
                        rotate_left
                        ·intro w'
                         go_simp
                         with_reducible rfl
                        rotate_left
                        ·simp only [Act.put,List.setIfInBounds_toArray,List.set_cons_zero,List.set_cons_succ,i64_w,i32_w]
                         rfl
                        refine take_ (i:=17) (N:=some 92) (v:=?_) (a':=?_) bA19_ rfl rfl (take_ofW HT_.out HW_.out (by kernel_rfl)) (fun _ _ _ h=>h) (Or.inl ⟨by rfl,?_⟩) hHeld ?_ ?_
                        rotate_left
                        ·rintro w' ⟨s0,s1,s2,s3,s4,s5,s6,s7,s8,s9⟩
                         go_simp
                         with_reducible rfl
                        rotate_left
                        ·simp only [Act.put,List.setIfInBounds_toArray,List.set_cons_zero,List.set_cons_succ,i64_w,i32_w]
                         rfl
                        refine take_ (i:=19) (N:=some 94) (v:=?_) (a':=?_) bA20_ rfl rfl (take_ofW HT_.out HW_.out (by kernel_rfl)) (fun _ _ _ h=>h) (Or.inl ⟨by rfl,?_⟩) hHeld ?_ ?_
                        rotate_left
                        ·rintro w' ⟨s0,s1,s2,s3,s4,s5,s6,s7,s8,s9⟩
                         go_simp
                         with_reducible rfl
                        rotate_left
                        ·simp only [Act.put,List.setIfInBounds_toArray,List.set_cons_zero,List.set_cons_succ,i64_w,i32_w]
                         rfl
                        refine pure_ (i:=20) (N:=some 95) (v:=?_) (a':=?_) bA21_ rfl rfl (any_of HT_.out (by kernel_rfl)) (fun _ _ _ h=>h) (Or.inl ⟨by rfl,?_⟩) ?_ ?_
                        rotate_left
                        ·intro w'
                         go_simp
                         with_reducible rfl
                        rotate_left
                        ·simp only [Act.put,List.setIfInBounds_toArray,List.set_cons_zero,List.set_cons_succ,i64_w,i32_w]
                         rfl
                        refine pure_ (i:=21) (N:=some 96) (v:=?_) (a':=?_) bA22_ rfl rfl (any_of HT_.out (by kernel_rfl)) (fun _ _ _ h=>h) (Or.inl ⟨by rfl,?_⟩) ?_ ?_
                        rotate_left
                        ·intro w'
                         go_simp
                         with_reducible rfl
                        rotate_left
                        ·simp only [Act.put,List.setIfInBounds_toArray,List.set_cons_zero,List.set_cons_succ,i64_w,i32_w]
                         rfl
                        refine pure_ (i:=22) (N:=some 97) (v:=?_) (a':=?_) bA23_ rfl rfl (any_of HT_.out (by kernel_rfl)) (fun _ _ _ h=>h) (Or.inl ⟨by rfl,?_⟩) ?_ ?_
                        rotate_left
                        ·intro w'
                         go_simp
                         with_reducible rfl
                        rotate_left
                        ·simp only [Act.put,List.setIfInBounds_toArray,List.set_cons_zero,List.set_cons_succ,i64_w,i32_w]
                         rfl
                        refine pure_ (i:=23) (N:=some 98) (v:=?_) (a':=?_) bA24_ rfl rfl (any_of HT_.out (by kernel_rfl)) (fun _ _ _ h=>h) (Or.inl ⟨by rfl,?_⟩) ?_ ?_
                        rotate_left
                        ·intro w'
                         go_simp
                         with_reducible rfl
                        rotate_left
                        ·simp only [Act.put,List.setIfInBounds_toArray,List.set_cons_zero,List.set_cons_succ,i64_w,i32_w]
                         rfl
                        refine pure_ (i:=24) (N:=some 99) (v:=?_) (a':=?_) bA25_ rfl rfl (any_of HT_.out (by kernel_rfl)) (fun _ _ _ h=>h) (Or.inl ⟨by rfl,?_⟩) ?_ ?_
                        rotate_left
                        ·intro w'
                         go_simp
                         with_reducible rfl
                        rotate_left
                        ·simp only [Act.put,List.setIfInBounds_toArray,List.set_cons_zero,List.set_cons_succ,i64_w,i32_w]
                         rfl
                        refine pure_ (i:=28) (N:=some 103) (v:=?_) (a':=?_) bA26_ rfl rfl (any_of HT_.out (by kernel_rfl)) (fun _ _ _ h=>h) (Or.inl ⟨by rfl,?_⟩) ?_ ?_
                        rotate_left
                        ·intro w'
                         go_simp
                         with_reducible rfl
                        rotate_left
                        ·simp only [Act.put,List.setIfInBounds_toArray,List.set_cons_zero,List.set_cons_succ,i64_w,i32_w]
                         rfl
                        refine take_ (i:=25) (N:=some 100) (v:=?_) (a':=?_) bA27_ rfl rfl (take_ofW HT_.out HW_.out (by kernel_rfl)) (fun _ _ _ h=>h) (Or.inl ⟨by rfl,?_⟩) hHeld ?_ ?_
                        rotate_left
                        ·rintro w' ⟨s0,s1,s2,s3,s4,s5,s6,s7,s8,s9⟩
                         go_simp
                         with_reducible rfl
                        rotate_left
                        ·simp only [Act.put,List.setIfInBounds_toArray,List.set_cons_zero,List.set_cons_succ,i64_w,i32_w]
                         rfl
                        refine pure_ (i:=26) (N:=some 101) (v:=?_) (a':=?_) bA28_ rfl rfl (any_of HT_.out (by kernel_rfl)) (fun _ _ _ h=>h) (Or.inl ⟨by rfl,?_⟩) ?_ ?_
                        rotate_left
                        ·intro w'
                         go_simp
                         with_reducible rfl
                        rotate_left
                        ·simp only [Act.put,List.setIfInBounds_toArray,List.set_cons_zero,List.set_cons_succ,i64_w,i32_w]
                         rfl
                        refine take_ (i:=27) (N:=some 102) (v:=?_) (a':=?_) bA29_ rfl rfl (take_ofW HT_.out HW_.out (by kernel_rfl)) (fun _ _ _ h=>h) (Or.inl ⟨by rfl,?_⟩) hHeld ?_ ?_
                        rotate_left
                        ·rintro w' ⟨s0,s1,s2,s3,s4,s5,s6,s7,s8,s9⟩
                         go_simp
                         with_reducible rfl
                        rotate_left
                        ·simp only [Act.put,List.setIfInBounds_toArray,List.set_cons_zero,List.set_cons_succ,i64_w,i32_w]
                         rfl
                        refine take_ (i:=29) (N:=some 104) (v:=?_) (a':=?_) bA30_ rfl rfl (take_ofW HT_.out HW_.out (by kernel_rfl)) (fun _ _ _ h=>h) (Or.inl ⟨by rfl,?_⟩) hHeld ?_ ?_
                        rotate_left
                        ·rintro w' ⟨s0,s1,s2,s3,s4,s5,s6,s7,s8,s9⟩
                         go_simp
                         with_reducible rfl
                        rotate_left
                        ·simp only [Act.put,List.setIfInBounds_toArray,List.set_cons_zero,List.set_cons_succ,i64_w,i32_w]
                         rfl
                        refine pure_ (i:=30) (N:=some 105) (v:=?_) (a':=?_) bA31_ rfl rfl (any_of HT_.out (by kernel_rfl)) (fun _ _ _ h=>h) (Or.inl ⟨by rfl,?_⟩) ?_ ?_
                        rotate_left
                        ·intro w'
                         go_simp
                         with_reducible rfl
                        rotate_left
                        ·simp only [Act.put,List.setIfInBounds_toArray,List.set_cons_zero,List.set_cons_succ,i64_w,i32_w]
                         rfl
                        refine one_ (i:=31) (N:=some 106) bA32_ rfl rfl (one_of HT_.out (by kernel_rfl)) (by decide) (fun K hK=>?_)
                        refine goes_ Try.func19 (by kernel_rfl) rfl #[.int .u32 t163,.int .i64 (wrap64 ((rd ((rd_T27 l0_3 x71_3).f1) 0) - a0_0))] (by rfl) rfl rfl (by (try simp only [List.map_toArray,List.map_cons,List.map_nil]);first|done|rfl|(simp only [List.length_drop,List.length_take];rfl)) ?_
                        with_reducible refine (coppicerref_Bit.calls t163 (wrap64 ((rd ((rd_T27 l0_3 x71_3).f1) 0) - a0_0)) true _ A51.out).mono ?_
                        rintro e w' ⟨rfl,⟨nd,rfl⟩⟩
                        refine ⟨_,rfl,?_⟩
                        refine hK.out _ _ ⟨(blk_cell BK181.out 0).trans rfl,(blk_cell BK181.out 1).trans rfl,(blk_cell BK162.out 0).trans rfl,(blk_cell BK162.out 1).trans rfl,(blk_cell BK162.out 2).trans rfl,(blk_cell BK162.out 3).trans rfl,((HB.out.cell (World.block_lt_of_cell? w _ hw182_0)).trans hw182_0),((HB.out.cell (World.block_lt_of_cell? w _ hw183_0)).trans hw183_0),((HB.out.cell (World.block_lt_of_cell? w _ hw184_0)).trans hw184_0),((HB.out.cell (World.block_lt_of_cell? w _ hw186_0)).trans hw186_0)⟩ (fun hHeld=>?_)
                        clear hK K
                        refine norm_ (a':=?_) ?_ ?_
                        rotate_left
                        ·show Act.put _ (some 106) _ = _
                         simp only [Act.put,List.setIfInBounds_toArray,List.set_cons_zero,List.set_cons_succ,i64_w,i32_w]
                         rfl
                        refine pure_ (i:=32) (N:=some 107) (v:=?_) (a':=?_) bA33_ rfl rfl (any_of HT_.out (by kernel_rfl)) (fun _ _ _ h=>h) (Or.inl ⟨by rfl,?_⟩) ?_ ?_
                        rotate_left
                        ·intro w'
                         go_simp
                         with_reducible rfl
                        rotate_left
                        ·simp only [Act.put,List.setIfInBounds_toArray,List.set_cons_zero,List.set_cons_succ,i64_w,i32_w]
                         rfl
                        refine pure_ (i:=33) (N:=some 108) (v:=?_) (a':=?_) bA34_ rfl rfl (any_of HT_.out (by kernel_rfl)) (fun _ _ _ h=>h) (Or.inl ⟨by rfl,?_⟩) ?_ ?_
                        rotate_left
                        ·intro w'
                         go_simp
                         with_reducible rfl
                        rotate_left
                        ·simp only [Act.put,List.setIfInBounds_toArray,List.set_cons_zero,List.set_cons_succ,i64_w,i32_w]
                         rfl
                        refine pure_ (i:=34) (N:=some 109) (v:=?_) (a':=?_) bA35_ rfl rfl (any_of HT_.out (by kernel_rfl)) (fun _ _ _ h=>h) (Or.inl ⟨by rfl,?_⟩) ?_ ?_
                        rotate_left
                        ·intro w'
                         go_simp
                         with_reducible rfl
                        rotate_left
                        ·simp only [Act.put,List.setIfInBounds_toArray,List.set_cons_zero,List.set_cons_succ,i64_w,i32_w]
                         rfl
                        refine pure_ (i:=35) (N:=some 110) (v:=?_) (a':=?_) bA36_ rfl rfl (any_of HT_.out (by kernel_rfl)) (fun _ _ _ h=>h) (Or.inl ⟨by rfl,?_⟩) ?_ ?_
                        rotate_left
                        ·intro w'
                         go_simp
                         with_reducible rfl
                        rotate_left
                        ·simp only [Act.put,List.setIfInBounds_toArray,List.set_cons_zero,List.set_cons_succ,i64_w,i32_w]
                         rfl
                        refine pure_ (i:=39) (N:=some 114) (v:=?_) (a':=?_) bA37_ rfl rfl (any_of HT_.out (by kernel_rfl)) (fun _ _ _ h=>h) (Or.inl ⟨by rfl,?_⟩) ?_ ?_
                        rotate_left
                        ·intro w'
                         go_simp
                         with_reducible rfl
                        rotate_left
                        ·simp only [Act.put,List.setIfInBounds_toArray,List.set_cons_zero,List.set_cons_succ,i64_w,i32_w]
                         rfl
                        refine take_ (i:=36) (N:=some 111) (v:=?_) (a':=?_) bA38_ rfl rfl (take_ofW HT_.out HW_.out (by kernel_rfl)) (fun _ _ _ h=>h) (Or.inl ⟨by rfl,?_⟩) hHeld ?_ ?_
                        rotate_left
                        ·rintro w' ⟨s0,s1,s2,s3,s4,s5,s6,s7,s8,s9⟩
                         go_simp
                         with_reducible rfl
                        rotate_left
                        ·simp only [Act.put,List.setIfInBounds_toArray,List.set_cons_zero,List.set_cons_succ,i64_w,i32_w]
                         rfl
                        refine pure_ (i:=37) (N:=some 112) (v:=?_) (a':=?_) bA39_ rfl rfl (any_of HT_.out (by kernel_rfl)) (fun _ _ _ h=>h) (Or.inl ⟨by rfl,?_⟩) ?_ ?_
                        rotate_left
                        ·intro w'
                         go_simp
                         with_reducible rfl
                        rotate_left
                        ·simp only [Act.put,List.setIfInBounds_toArray,List.set_cons_zero,List.set_cons_succ,i64_w,i32_w]
                         rfl
                        refine take_ (i:=38) (N:=some 113) (v:=?_) (a':=?_) bA40_ rfl rfl (take_ofW HT_.out HW_.out (by kernel_rfl)) (fun _ _ _ h=>h) (Or.inl ⟨by rfl,?_⟩) hHeld ?_ ?_
                        rotate_left
                        ·rintro w' ⟨s0,s1,s2,s3,s4,s5,s6,s7,s8,s9⟩
                         go_simp
                         with_reducible rfl
                        rotate_left
                        ·simp only [Act.put,List.setIfInBounds_toArray,List.set_cons_zero,List.set_cons_succ,i64_w,i32_w]
                         rfl
                        refine take_ (i:=40) (N:=some 115) (v:=?_) (a':=?_) bA41_ rfl rfl (take_ofW HT_.out HW_.out (by kernel_rfl)) (fun _ _ _ h=>h) (Or.inl ⟨by rfl,?_⟩) hHeld ?_ ?_
                        rotate_left
                        ·rintro w' ⟨s0,s1,s2,s3,s4,s5,s6,s7,s8,s9⟩
                         go_simp
                         with_reducible rfl
                        rotate_left
                        ·simp only [Act.put,List.setIfInBounds_toArray,List.set_cons_zero,List.set_cons_succ,i64_w,i32_w]
                         rfl
                        refine pure_ (i:=41) (N:=some 116) (v:=?_) (a':=?_) bA42_ rfl rfl (any_of HT_.out (by kernel_rfl)) (fun _ _ _ h=>h) (Or.inl ⟨by rfl,?_⟩) ?_ ?_
                        rotate_left
                        ·intro w'
                         go_simp
                         with_reducible rfl
                        rotate_left
                        ·simp only [Act.put,List.setIfInBounds_toArray,List.set_cons_zero,List.set_cons_succ,i64_w,i32_w]
                         rfl
                        refine one_ (i:=42) (N:=some 117) bA43_ rfl rfl (one_of HT_.out (by kernel_rfl)) (by decide) (fun K hK=>?_)
                        refine goes_ Try.func19 (by kernel_rfl) rfl #[.int .u32 t165,.int .i64 (wrap64 ((rd ((rd_T27 l0_3 x71_3).f1) 1) - a0_0))] (by rfl) rfl rfl (by (try simp only [List.map_toArray,List.map_cons,List.map_nil]);first|done|rfl|(simp only [List.length_drop,List.length_take];rfl)) ?_
                        with_reducible refine (coppicerref_Bit.calls t165 (wrap64 ((rd ((rd_T27 l0_3 x71_3).f1) 1) - a0_0)) false _ A53.out).mono ?_
                        rintro e w' ⟨rfl,⟨nd,rfl⟩⟩
                        refine ⟨_,rfl,?_⟩
                        refine hK.out _ _ ⟨(blk_cell BK181.out 0).trans rfl,(blk_cell BK181.out 1).trans rfl,(blk_cell BK162.out 0).trans rfl,(blk_cell BK162.out 1).trans rfl,(blk_cell BK162.out 2).trans rfl,(blk_cell BK162.out 3).trans rfl,((HB.out.cell (World.block_lt_of_cell? w _ hw182_0)).trans hw182_0),((HB.out.cell (World.block_lt_of_cell? w _ hw183_0)).trans hw183_0),((HB.out.cell (World.block_lt_of_cell? w _ hw184_0)).trans hw184_0),((HB.out.cell (World.block_lt_of_cell? w _ hw186_0)).trans hw186_0)⟩ (fun hHeld=>?_)
                        clear hK K
                        refine norm_ (a':=?_) ?_ ?_
                        rotate_left
                        ·show Act.put _ (some 117) _ = _
                         simp only [Act.put,List.setIfInBounds_toArray,List.set_cons_zero,List.set_cons_succ,i64_w,i32_w]
                         rfl
                        refine pure_ (i:=43) (N:=some 118) (v:=?_) (a':=?_) bA44_ rfl rfl (any_of HT_.out (by kernel_rfl)) (fun _ _ _ h=>h) (Or.inl ⟨by rfl,?_⟩) ?_ ?_
                        rotate_left
                        ·intro w'
                         go_simp
                         with_reducible rfl
                        rotate_left
                        ·simp only [Act.put,List.setIfInBounds_toArray,List.set_cons_zero,List.set_cons_succ,i64_w,i32_w]
                         rfl
                        refine pure_ (i:=44) (N:=some 119) (v:=?_) (a':=?_) bA45_ rfl rfl (any_of HT_.out (by kernel_rfl)) (fun _ _ _ h=>h) (Or.inl ⟨by rfl,?_⟩) ?_ ?_
                        rotate_left
                        ·intro w'
                         go_simp
                         with_reducible rfl
                        rotate_left
                        ·simp only [Act.put,List.setIfInBounds_toArray,List.set_cons_zero,List.set_cons_succ,i64_w,i32_w]
                         rfl
                        refine pure_ (i:=45) (N:=some 120) (v:=undef) (a':=?_) bA46_ rfl rfl (any_of HT_.out (by kernel_rfl)) (fun _ _ _ h=>h) (Or.inr ⟨by rfl,rfl⟩) ?_ ?_
                        rotate_left
                        ·simp only [Act.put,List.setIfInBounds_toArray,List.set_cons_zero,List.set_cons_succ,i64_w,i32_w]
                         rfl
                        refine pure_ (i:=46) (N:=some 121) (v:=undef) (a':=?_) bA47_ rfl rfl (any_of HT_.out (by kernel_rfl)) (fun _ _ _ h=>h) (Or.inr ⟨by rfl,rfl⟩) ?_ ?_
                        rotate_left
                        ·simp only [Act.put,List.setIfInBounds_toArray,List.set_cons_zero,List.set_cons_succ,i64_w,i32_w]
                         rfl
                        refine pure_ (i:=47) (N:=some 122) (v:=undef) (a':=?_) bA48_ rfl rfl (any_of HT_.out (by kernel_rfl)) (fun _ _ _ h=>h) (Or.inr ⟨by rfl,rfl⟩) ?_ ?_
                        rotate_left
                        ·simp only [Act.put,List.setIfInBounds_toArray,List.set_cons_zero,List.set_cons_succ,i64_w,i32_w]
                         rfl
                        refine pure_ (i:=48) (N:=some 123) (v:=undef) (a':=?_) bA49_ rfl rfl (any_of HT_.out (by kernel_rfl)) (fun _ _ _ h=>h) (Or.inr ⟨by rfl,rfl⟩) ?_ ?_
                        rotate_left
                        ·simp only [Act.put,List.setIfInBounds_toArray,List.set_cons_zero,List.set_cons_succ,i64_w,i32_w]
                         rfl
                        refine pure_ (i:=49) (N:=some 124) (v:=undef) (a':=?_) bA50_ rfl rfl (any_of HT_.out (by kernel_rfl)) (fun _ _ _ h=>h) (Or.inr ⟨by rfl,rfl⟩) ?_ ?_
                        rotate_left
                        ·simp only [Act.put,List.setIfInBounds_toArray,List.set_cons_zero,List.set_cons_succ,i64_w,i32_w]
                         rfl
                        refine pure_ (i:=50) (N:=some 125) (v:=?_) (a':=?_) bA51_ rfl rfl (any_of HT_.out (by kernel_rfl)) (fun _ _ _ h=>h) (Or.inl ⟨by rfl,?_⟩) ?_ ?_
                        rotate_left
                        ·intro w'
                         go_simp
                         with_reducible rfl
                        rotate_left
                        ·simp only [Act.put,List.setIfInBounds_toArray,List.set_cons_zero,List.set_cons_succ,i64_w,i32_w]
                         rfl
                        refine done_ (done_of HT_.out (by kernel_rfl)) ?_
                        try go_wp2
                        go_meet
                        case rel=>exact ⟨_,(false),(by first|rfl|(simp;done)|(simp [*];done)),H',⟨by have:=HJ5.out;have:=HJ25.out;have:=HK3.out;first|omega|exact Nat.le_refl _⟩,⟨by (with_reducible repeat (first|apply Kd.R_alloc|apply Kd.R_drewN|apply Kd.R_drew));exact HO_11.out⟩,⟨by (with_reducible repeat (first|refine blk_drewN ?_ _|refine blk_drew ?_|refine blk_alloc ?_ _));exact BK162.out⟩,⟨by (with_reducible repeat (first|refine blk_drewN ?_ _|refine blk_drew ?_|refine blk_alloc ?_ _));exact BK181.out⟩,⟨by repeat (first|(with_reducible first|exact HB.out|apply below_alloc|apply pw_below_drewN|apply below_drew1|refine below_set ?_ GE162.out|refine below_set ?_ GE181.out)|exact HB.out)⟩⟩
                      ·replace c52:=Bool.eq_false_iff.mpr c52
                       subst c52
                       have H1 : (coppicerkeep_TableJoins.j3 k3 t163 t165 y175 t178 l0_3 (l0_3.length : Int) x71_3 false a0_0 a0_1 a0_2 l0_3 ((rd_T27 l0_3 x71_3).f0) ((rd_T27 l0_3 x71_3).f1)) = some r:=by rw [if_neg (show ¬ (false = true) by decide)] at H;exact H
                       clear H
                       have H:=H1
                       clear H1
                       have H':=Aside0.mk H
                       clear H
                       try go_wp2
                       have n0_ : Aside0 (Kd.R (Kd.int .i64) 3 ((w43.setCell ⟨gb181,0,none⟩ (.int .i64 ((rd_T27 l0_3 x71_3).f0))).setCell ⟨gb181,1,none⟩ (.slice A180_1 ((rd_T27 l0_3 x71_3).f1).length c180_1)) w.heap.size (fun _=>True) (.slice Ao32 y175.length co32) y175):=⟨by (with_reducible repeat (first|apply Kd.R_alloc|apply Kd.R_drewN|apply Kd.R_drew));exact Kd.R_mono (Kd.R_far (p:=⟨gb181,1,none⟩) (Kd.R_far (p:=⟨gb181,0,none⟩) (Kd.R_types HO_11.out BK181.out (by decide)) (fun _ hk=>hk.2) (.int .i64 ((rd_T27 l0_3 x71_3).f0))) (fun _ hk=>hk.2) (.slice A180_1 ((rd_T27 l0_3 x71_3).f1).length c180_1)) (fun _ hk=>trivial)⟩
                       have n1_ : Aside0 (((w43.setCell ⟨gb181,0,none⟩ (.int .i64 ((rd_T27 l0_3 x71_3).f0))).setCell ⟨gb181,1,none⟩ (.slice A180_1 ((rd_T27 l0_3 x71_3).f1).length c180_1)).heap[gb162]? = some (.cells #[.int .i64 a0_0,.int .i64 a0_1,.int .i64 a0_2,.slice (some ad180) l0_3.length c0_3] 24 (0,0))):=⟨by (with_reducible repeat (first|refine blk_drewN ?_ _|refine blk_drew ?_|refine blk_alloc ?_ _));refine blk_far ?_ NB162_181.out _;(with_reducible repeat (first|refine blk_drewN ?_ _|refine blk_drew ?_|refine blk_alloc ?_ _));refine blk_far ?_ NB162_181.out _;(with_reducible repeat (first|refine blk_drewN ?_ _|refine blk_drew ?_|refine blk_alloc ?_ _));exact BK162.out⟩
                       have n2_ : Aside0 (((w43.setCell ⟨gb181,0,none⟩ (.int .i64 ((rd_T27 l0_3 x71_3).f0))).setCell ⟨gb181,1,none⟩ (.slice A180_1 ((rd_T27 l0_3 x71_3).f1).length c180_1)).heap[gb181]? = some (.cells #[.int .i64 ((rd_T27 l0_3 x71_3).f0),.slice A180_1 ((rd_T27 l0_3 x71_3).f1).length c180_1] 27 (0,0))):=⟨by (with_reducible repeat (first|refine blk_drewN ?_ _|refine blk_drew ?_|refine blk_alloc ?_ _));refine blk_put (cs:=#[.int .i64 ((rd_T27 l0_3 x71_3).f0),.slice none 0 0]) ?_ 1 _ rfl;(with_reducible repeat (first|refine blk_drewN ?_ _|refine blk_drew ?_|refine blk_alloc ?_ _));refine blk_put (cs:=#[.int .i64 0,.slice none 0 0]) ?_ 0 _ rfl;(with_reducible repeat (first|refine blk_drewN ?_ _|refine blk_drew ?_|refine blk_alloc ?_ _));exact BK181.out⟩
                       have n3_ : Aside0 (Below w.heap.size w ((w43.setCell ⟨gb181,0,none⟩ (.int .i64 ((rd_T27 l0_3 x71_3).f0))).setCell ⟨gb181,1,none⟩ (.slice A180_1 ((rd_T27 l0_3 x71_3).f1).length c180_1))):=⟨by repeat (first|(with_reducible first|exact HB.out|apply below_alloc|apply pw_below_drewN|apply below_drew1|refine below_set ?_ GE162.out|refine below_set ?_ GE181.out)|exact HB.out)⟩
                       (try clear HO_11)
                       (try clear BK162)
                       (try clear BK181)
                       (try clear HB)
                       generalize ((w43.setCell ⟨gb181,0,none⟩ (.int .i64 ((rd_T27 l0_3 x71_3).f0))).setCell ⟨gb181,1,none⟩ (.slice A180_1 ((rd_T27 l0_3 x71_3).f1).length c180_1)) = w60 at n0_ n1_ n2_ n3_ ⊢
                       have HO_11:=n0_
                       have BK162:=n1_
                       have BK181:=n2_
                       have HB:=n3_
                       clear n0_ n1_ n2_ n3_
                       have n0_:=Aside0.mk (Kd.R_drew HO_11.out)
                       have n1_:=Aside0.mk (blk_drew BK162.out)
                       have n2_:=Aside0.mk (blk_drew BK181.out)
                       have n3_:=Aside0.mk (below_drew1 HB.out)
                       clear HO_11
                       clear BK162
                       clear BK181
                       clear HB
                       have HO_11:=n0_
                       have BK162:=n1_
                       have BK181:=n2_
                       have HB:=n3_
                       clear n0_ n1_ n2_ n3_
                       have p182 : 0 ≤ (0 : Int):=(by omega)
                       have q182 : 0 < (((rd_T27 l0_3 x71_3).f1).length : Int):=of_decide_eq_true (by first|(with_reducible assumption)|assumption)
                       obtain ⟨ad182,e182,hx182_0⟩:=Kd.at_int HR180_1.out 0 p182 q182
                       have hw182_0:=hx182_0
                       (try rw [show ((0 : Int)).toNat = 0 from rfl] at hw182_0)
                       (try rw [show 0 * 1 = 0 from rfl] at hw182_0)
                       (try rw [Addr.add_zero'] at hw182_0)
                       cases e182
                       have qi182 : (0 < ((rd_T27 l0_3 x71_3).f1).length) = True:=eq_true (by omega)
                       (try rw [show ((0 : Int)).toNat = 0 from rfl] at hx182_0)
                       (try rw [Addr.add_zero'] at hx182_0)
                       replace hx182_0:=(HB.out.cell (World.block_lt_of_cell? w _ hx182_0)).trans hx182_0
                       replace p182:=eq_true p182
                       replace q182:=eq_true q182
                       have p183 : 0 ≤ (1 : Int):=(by omega)
                       have q183 : 1 < (((rd_T27 l0_3 x71_3).f1).length : Int):=of_decide_eq_true (by first|(with_reducible assumption)|assumption)
                       obtain ⟨ad183,e183,hx183_0⟩:=Kd.at_int HR180_1.out 1 p183 q183
                       have hw183_0:=hx183_0
                       (try rw [show ((1 : Int)).toNat = 1 from rfl] at hw183_0)
                       (try rw [show 1 * 1 = 1 from rfl] at hw183_0)
                       (try simp only [Nat.reduceMul,Nat.reduceEqDiff,Go.Addr.add,↓reduceIte] at hw183_0)
                       obtain rfl : ad182 = ad183:=(by injection e183)
                       (try simp only [show (1 : Int).toNat = 1 from rfl,Nat.reduceMul,Nat.reduceEqDiff,Go.Addr.add,↓reduceIte] at hx183_0)
                       have qi183 : (1 < ((rd_T27 l0_3 x71_3).f1).length) = True:=eq_true (by omega)
                       (try rw [show ((1 : Int)).toNat = 1 from rfl] at hx183_0)
                       replace hx183_0:=(HB.out.cell (World.block_lt_of_cell? w _ hx183_0)).trans hx183_0
                       replace p183:=eq_true p183
                       replace q183:=eq_true q183
                       have p184 : 0 ≤ (0 : Int):=(by omega)
                       have q184 : 0 < (((rd_T27 l0_3 x71_3).f1).length : Int):=of_decide_eq_true (by first|(with_reducible assumption)|assumption)
                       obtain ⟨ad184,e184,hx184_0⟩:=Kd.at_int HR180_1.out 0 p184 q184
                       have hw184_0:=hx184_0
                       (try rw [show ((0 : Int)).toNat = 0 from rfl] at hw184_0)
                       (try rw [show 0 * 1 = 0 from rfl] at hw184_0)
                       (try rw [Addr.add_zero'] at hw184_0)
                       obtain rfl : ad182 = ad184:=(by injection e184)
                       have qi184 : (0 < ((rd_T27 l0_3 x71_3).f1).length) = True:=eq_true (by omega)
                       (try rw [show ((0 : Int)).toNat = 0 from rfl] at hx184_0)
                       (try rw [Addr.add_zero'] at hx184_0)
                       replace hx184_0:=(HB.out.cell (World.block_lt_of_cell? w _ hx184_0)).trans hx184_0
                       replace p184:=eq_true p184
                       replace q184:=eq_true q184
                       refine start_ (n:=51) (S:=fun w'=>w'.cell? ⟨gb181,0,none⟩ = some (.int .i64 ((rd_T27 l0_3 x71_3).f0)) ∧ w'.cell? ⟨gb181,1,none⟩ = some (.slice (some ad182) ((rd_T27 l0_3 x71_3).f1).length c180_1) ∧ w'.cell? ⟨gb162,0,none⟩ = some (.int .i64 a0_0) ∧ w'.cell? ⟨gb162,1,none⟩ = some (.int .i64 a0_1) ∧ w'.cell? ⟨gb162,2,none⟩ = some (.int .i64 a0_2) ∧ w'.cell? ⟨gb162,3,none⟩ = some (.slice (some ad180) l0_3.length c0_3) ∧ w'.cell? ad182 = some (.int .i64 (rd ((rd_T27 l0_3 x71_3).f1) 0)) ∧ w'.cell? ⟨ad182.block,ad182.off + 1,none⟩ = some (.int .i64 (rd ((rd_T27 l0_3 x71_3).f1) 1)) ∧ w'.cell? ad182 = some (.int .i64 (rd ((rd_T27 l0_3 x71_3).f1) 0))) (ds:=[]) bA0_ (by kernel_rfl) rfl rfl ⟨(blk_cell BK181.out 0).trans rfl,(blk_cell BK181.out 1).trans rfl,(blk_cell BK162.out 0).trans rfl,(blk_cell BK162.out 1).trans rfl,(blk_cell BK162.out 2).trans rfl,(blk_cell BK162.out 3).trans rfl,((HB.out.cell (World.block_lt_of_cell? w _ hw182_0)).trans hw182_0),((HB.out.cell (World.block_lt_of_cell? w _ hw183_0)).trans hw183_0),((HB.out.cell (World.block_lt_of_cell? w _ hw184_0)).trans hw184_0)⟩ (fun hHeld=>?_);refine with_tabW coppicerkeep_TableJoins.tab16 coppicerkeep_TableJoins.bits16 (fun HT_ HW_=>?_)
                       generalize w60.drew = w61 at HO_11 BK162 BK181 HB hx182_0 hx183_0 hx184_0 hHeld ⊢
                       refine pure_ (i:=0) (N:=some 75) (v:=?_) (a':=?_) bA1_ rfl rfl (any_of HT_.out (by kernel_rfl)) (fun _ _ _ h=>h) (Or.inl ⟨by rfl,?_⟩) ?_ ?_
                       rotate_left
                       ·intro w'
                        go_simp
                        with_reducible rfl
                       rotate_left
                       ·simp only [Act.put,List.setIfInBounds_toArray,List.set_cons_zero,List.set_cons_succ,i64_w,i32_w]
                        rfl
                       refine take_ (i:=1) (N:=some 76) (v:=?_) (a':=?_) bA2_ rfl rfl (take_ofW HT_.out HW_.out (by kernel_rfl)) (fun _ _ _ h=>h) (Or.inl ⟨by rfl,?_⟩) hHeld ?_ ?_
                       rotate_left
                       ·rintro w' ⟨s0,s1,s2,s3,s4,s5,s6,s7,s8⟩
                        go_simp
                        with_reducible rfl
                       rotate_left
                       ·simp only [Act.put,List.setIfInBounds_toArray,List.set_cons_zero,List.set_cons_succ,i64_w,i32_w]
                        rfl
                       refine pure_ (i:=2) (N:=some 77) (v:=?_) (a':=?_) bA3_ rfl rfl (any_of HT_.out (by kernel_rfl)) (fun _ _ _ h=>h) (Or.inl ⟨by rfl,?_⟩) ?_ ?_
                       rotate_left
                       ·intro w'
                        go_simp
                        with_reducible rfl
                       rotate_left
                       ·simp only [Act.put,List.setIfInBounds_toArray,List.set_cons_zero,List.set_cons_succ,i64_w,i32_w]
                        rfl
                       refine pure_ (i:=3) (N:=some 78) (v:=?_) (a':=?_) bA4_ rfl rfl (any_of HT_.out (by kernel_rfl)) (fun _ _ _ h=>h) (Or.inl ⟨by rfl,?_⟩) ?_ ?_
                       rotate_left
                       ·intro w'
                        go_simp
                        with_reducible rfl
                       rotate_left
                       ·simp only [Act.put,List.setIfInBounds_toArray,List.set_cons_zero,List.set_cons_succ,i64_w,i32_w]
                        rfl
                       refine pure_ (i:=4) (N:=some 79) (v:=?_) (a':=?_) bA5_ rfl rfl (any_of HT_.out (by kernel_rfl)) (fun _ _ _ h=>h) (Or.inl ⟨by rfl,?_⟩) ?_ ?_
                       rotate_left
                       ·intro w'
                        go_simp
                        with_reducible rfl
                       rotate_left
                       ·simp only [Act.put,List.setIfInBounds_toArray,List.set_cons_zero,List.set_cons_succ,i64_w,i32_w]
                        rfl
                       refine pure_ (i:=5) (N:=some 80) (v:=?_) (a':=?_) bA6_ rfl rfl (any_of HT_.out (by kernel_rfl)) (fun _ _ _ h=>h) (Or.inl ⟨by rfl,?_⟩) ?_ ?_
                       rotate_left
                       ·intro w'
                        go_simp
                        with_reducible rfl
                       rotate_left
                       ·simp only [Act.put,List.setIfInBounds_toArray,List.set_cons_zero,List.set_cons_succ,i64_w,i32_w]
                        rfl
                       refine pure_ (i:=9) (N:=some 84) (v:=?_) (a':=?_) bA7_ rfl rfl (any_of HT_.out (by kernel_rfl)) (fun _ _ _ h=>h) (Or.inl ⟨by rfl,?_⟩) ?_ ?_
                       rotate_left
                       ·intro w'
                        go_simp
                        with_reducible rfl
                       rotate_left
                       ·simp only [Act.put,List.setIfInBounds_toArray,List.set_cons_zero,List.set_cons_succ,i64_w,i32_w]
                        rfl
                       refine take_ (i:=6) (N:=some 81) (v:=?_) (a':=?_) bA8_ rfl rfl (take_ofW HT_.out HW_.out (by kernel_rfl)) (fun _ _ _ h=>h) (Or.inl ⟨by rfl,?_⟩) hHeld ?_ ?_
                       rotate_left
                       ·rintro w' ⟨s0,s1,s2,s3,s4,s5,s6,s7,s8⟩
                        go_simp
                        with_reducible rfl
                       rotate_left
                       ·simp only [Act.put,List.setIfInBounds_toArray,List.set_cons_zero,List.set_cons_succ,i64_w,i32_w]
                        rfl
                       refine pure_ (i:=7) (N:=some 82) (v:=?_) (a':=?_) bA9_ rfl rfl (any_of HT_.out (by kernel_rfl)) (fun _ _ _ h=>h) (Or.inl ⟨by rfl,?_⟩) ?_ ?_
                       rotate_left
                       ·intro w'
                        go_simp
                        with_reducible rfl
                       rotate_left
                       ·simp only [Act.put,List.setIfInBounds_toArray,List.set_cons_zero,List.set_cons_succ,i64_w,i32_w]
                        rfl
                       refine take_ (i:=8) (N:=some 83) (v:=?_) (a':=?_) bA10_ rfl rfl (take_ofW HT_.out HW_.out (by kernel_rfl)) (fun _ _ _ h=>h) (Or.inl ⟨by rfl,?_⟩) hHeld ?_ ?_
                       rotate_left
                       ·rintro w' ⟨s0,s1,s2,s3,s4,s5,s6,s7,s8⟩
                        go_simp
                        with_reducible rfl
                       rotate_left
                       ·simp only [Act.put,List.setIfInBounds_toArray,List.set_cons_zero,List.set_cons_succ,i64_w,i32_w]
                        rfl
                       refine take_ (i:=10) (N:=some 85) (v:=?_) (a':=?_) bA11_ rfl rfl (take_ofW HT_.out HW_.out (by kernel_rfl)) (fun _ _ _ h=>h) (Or.inl ⟨by rfl,?_⟩) hHeld ?_ ?_
                       rotate_left
                       ·rintro w' ⟨s0,s1,s2,s3,s4,s5,s6,s7,s8⟩
                        go_simp
                        with_reducible rfl
                       rotate_left
                       ·simp only [Act.put,List.setIfInBounds_toArray,List.set_cons_zero,List.set_cons_succ,i64_w,i32_w]
                        rfl
                       refine pure_ (i:=11) (N:=some 86) (v:=?_) (a':=?_) bA12_ rfl rfl (any_of HT_.out (by kernel_rfl)) (fun _ _ _ h=>h) (Or.inl ⟨by rfl,?_⟩) ?_ ?_
                       rotate_left
                       ·intro w'
                        go_simp
                        with_reducible rfl
                       rotate_left
                       ·simp only [Act.put,List.setIfInBounds_toArray,List.set_cons_zero,List.set_cons_succ,i64_w,i32_w]
                        rfl
                       refine pure_ (i:=12) (N:=some 87) (v:=?_) (a':=?_) bA13_ rfl rfl (any_of HT_.out (by kernel_rfl)) (fun _ _ _ h=>h) (Or.inl ⟨by rfl,?_⟩) ?_ ?_
                       rotate_left
                       ·intro w'
                        go_simp
                        with_reducible rfl
                       rotate_left
                       ·simp only [Act.put,List.setIfInBounds_toArray,List.set_cons_zero,List.set_cons_succ,i64_w,i32_w]
                        rfl
                       refine pure_ (i:=13) (N:=some 88) (v:=?_) (a':=?_) bA14_ rfl rfl (any_of HT_.out (by kernel_rfl)) (fun _ _ _ h=>h) (Or.inl ⟨by rfl,?_⟩) ?_ ?_
                       rotate_left
                       ·intro w'
                        go_simp
                        with_reducible rfl
                       rotate_left
                       ·simp only [Act.put,List.setIfInBounds_toArray,List.set_cons_zero,List.set_cons_succ,i64_w,i32_w]
                        rfl
                       refine pure_ (i:=14) (N:=some 89) (v:=?_) (a':=?_) bA15_ rfl rfl (any_of HT_.out (by kernel_rfl)) (fun _ _ _ h=>h) (Or.inl ⟨by rfl,?_⟩) ?_ ?_
                       rotate_left
                       ·intro w'
                        go_simp
                        with_reducible rfl
                       rotate_left
                       ·simp only [Act.put,List.setIfInBounds_toArray,List.set_cons_zero,List.set_cons_succ,i64_w,i32_w]
                        rfl
                       refine pure_ (i:=18) (N:=some 93) (v:=?_) (a':=?_) bA16_ rfl rfl (any_of HT_.out (by kernel_rfl)) (fun _ _ _ h=>h) (Or.inl ⟨by rfl,?_⟩) ?_ ?_
                       rotate_left
                       ·intro w'
                        go_simp
                        with_reducible rfl
                       rotate_left
                       ·simp only [Act.put,List.setIfInBounds_toArray,List.set_cons_zero,List.set_cons_succ,i64_w,i32_w]
                        rfl
                       refine take_ (i:=15) (N:=some 90) (v:=?_) (a':=?_) bA17_ rfl rfl (take_ofW HT_.out HW_.out (by kernel_rfl)) (fun _ _ _ h=>h) (Or.inl ⟨by rfl,?_⟩) hHeld ?_ ?_
                       rotate_left
                       ·rintro w' ⟨s0,s1,s2,s3,s4,s5,s6,s7,s8⟩
                        go_simp
                        with_reducible rfl
                       rotate_left
                       ·simp only [Act.put,List.setIfInBounds_toArray,List.set_cons_zero,List.set_cons_succ,i64_w,i32_w]
                        rfl
                       refine pure_ (i:=16) (N:=some 91) (v:=?_) (a':=?_) bA18_ rfl rfl (any_of HT_.out (by kernel_rfl)) (fun _ _ _ h=>h) (Or.inl ⟨by rfl,?_⟩) ?_ ?_
                       rotate_left
                       ·intro w'
                        go_simp
                        with_reducible rfl
                       rotate_left
                       ·simp only [Act.put,List.setIfInBounds_toArray,List.set_cons_zero,List.set_cons_succ,i64_w,i32_w]
                        rfl
                       refine take_ (i:=17) (N:=some 92) (v:=?_) (a':=?_) bA19_ rfl rfl (take_ofW HT_.out HW_.out (by kernel_rfl)) (fun _ _ _ h=>h) (Or.inl ⟨by rfl,?_⟩) hHeld ?_ ?_
                       rotate_left
                       ·rintro w' ⟨s0,s1,s2,s3,s4,s5,s6,s7,s8⟩
                        go_simp
                        with_reducible rfl
                       rotate_left
                       ·simp only [Act.put,List.setIfInBounds_toArray,List.set_cons_zero,List.set_cons_succ,i64_w,i32_w]
                        rfl
                       refine take_ (i:=19) (N:=some 94) (v:=?_) (a':=?_) bA20_ rfl rfl (take_ofW HT_.out HW_.out (by kernel_rfl)) (fun _ _ _ h=>h) (Or.inl ⟨by rfl,?_⟩) hHeld ?_ ?_
                       rotate_left
                       ·rintro w' ⟨s0,s1,s2,s3,s4,s5,s6,s7,s8⟩
                        go_simp
                        with_reducible rfl
                       rotate_left
                       ·simp only [Act.put,List.setIfInBounds_toArray,List.set_cons_zero,List.set_cons_succ,i64_w,i32_w]
                        rfl
                       refine pure_ (i:=20) (N:=some 95) (v:=?_) (a':=?_) bA21_ rfl rfl (any_of HT_.out (by kernel_rfl)) (fun _ _ _ h=>h) (Or.inl ⟨by rfl,?_⟩) ?_ ?_
                       rotate_left
                       ·intro w'
                        go_simp
                        with_reducible rfl
                       rotate_left
                       ·simp only [Act.put,List.setIfInBounds_toArray,List.set_cons_zero,List.set_cons_succ,i64_w,i32_w]
                        rfl
                       refine pure_ (i:=21) (N:=some 96) (v:=?_) (a':=?_) bA22_ rfl rfl (any_of HT_.out (by kernel_rfl)) (fun _ _ _ h=>h) (Or.inl ⟨by rfl,?_⟩) ?_ ?_
                       rotate_left
                       ·intro w'
                        go_simp
                        with_reducible rfl
                       rotate_left
                       ·simp only [Act.put,List.setIfInBounds_toArray,List.set_cons_zero,List.set_cons_succ,i64_w,i32_w]
                        rfl
                       refine pure_ (i:=22) (N:=some 97) (v:=?_) (a':=?_) bA23_ rfl rfl (any_of HT_.out (by kernel_rfl)) (fun _ _ _ h=>h) (Or.inl ⟨by rfl,?_⟩) ?_ ?_
                       rotate_left
                       ·intro w'
                        go_simp
                        with_reducible rfl
                       rotate_left
                       ·simp only [Act.put,List.setIfInBounds_toArray,List.set_cons_zero,List.set_cons_succ,i64_w,i32_w]
                        rfl
                       refine pure_ (i:=23) (N:=some 98) (v:=?_) (a':=?_) bA24_ rfl rfl (any_of HT_.out (by kernel_rfl)) (fun _ _ _ h=>h) (Or.inl ⟨by rfl,?_⟩) ?_ ?_
                       rotate_left
                       ·intro w'
                        go_simp
                        with_reducible rfl
                       rotate_left
                       ·simp only [Act.put,List.setIfInBounds_toArray,List.set_cons_zero,List.set_cons_succ,i64_w,i32_w]
                        rfl
                       refine pure_ (i:=24) (N:=some 99) (v:=?_) (a':=?_) bA25_ rfl rfl (any_of HT_.out (by kernel_rfl)) (fun _ _ _ h=>h) (Or.inl ⟨by rfl,?_⟩) ?_ ?_
                       rotate_left
                       ·intro w'
                        go_simp
                        with_reducible rfl
                       rotate_left
                       ·simp only [Act.put,List.setIfInBounds_toArray,List.set_cons_zero,List.set_cons_succ,i64_w,i32_w]
                        rfl
                       refine pure_ (i:=28) (N:=some 103) (v:=?_) (a':=?_) bA26_ rfl rfl (any_of HT_.out (by kernel_rfl)) (fun _ _ _ h=>h) (Or.inl ⟨by rfl,?_⟩) ?_ ?_
                       rotate_left
                       ·intro w'
                        go_simp
                        with_reducible rfl
                       rotate_left
                       ·simp only [Act.put,List.setIfInBounds_toArray,List.set_cons_zero,List.set_cons_succ,i64_w,i32_w]
                        rfl
                       refine take_ (i:=25) (N:=some 100) (v:=?_) (a':=?_) bA27_ rfl rfl (take_ofW HT_.out HW_.out (by kernel_rfl)) (fun _ _ _ h=>h) (Or.inl ⟨by rfl,?_⟩) hHeld ?_ ?_
                       rotate_left
                       ·rintro w' ⟨s0,s1,s2,s3,s4,s5,s6,s7,s8⟩
                        go_simp
                        with_reducible rfl
                       rotate_left
                       ·simp only [Act.put,List.setIfInBounds_toArray,List.set_cons_zero,List.set_cons_succ,i64_w,i32_w]
                        rfl
                       refine pure_ (i:=26) (N:=some 101) (v:=?_) (a':=?_) bA28_ rfl rfl (any_of HT_.out (by kernel_rfl)) (fun _ _ _ h=>h) (Or.inl ⟨by rfl,?_⟩) ?_ ?_
                       rotate_left
                       ·intro w'
                        go_simp
                        with_reducible rfl
                       rotate_left
                       ·simp only [Act.put,List.setIfInBounds_toArray,List.set_cons_zero,List.set_cons_succ,i64_w,i32_w]
                        rfl
                       refine take_ (i:=27) (N:=some 102) (v:=?_) (a':=?_) bA29_ rfl rfl (take_ofW HT_.out HW_.out (by kernel_rfl)) (fun _ _ _ h=>h) (Or.inl ⟨by rfl,?_⟩) hHeld ?_ ?_
                       rotate_left
                       ·rintro w' ⟨s0,s1,s2,s3,s4,s5,s6,s7,s8⟩
                        go_simp
                        with_reducible rfl
                       rotate_left
                       ·simp only [Act.put,List.setIfInBounds_toArray,List.set_cons_zero,List.set_cons_succ,i64_w,i32_w]
                        rfl
                       refine take_ (i:=29) (N:=some 104) (v:=?_) (a':=?_) bA30_ rfl rfl (take_ofW HT_.out HW_.out (by kernel_rfl)) (fun _ _ _ h=>h) (Or.inl ⟨by rfl,?_⟩) hHeld ?_ ?_
                       rotate_left
                       ·rintro w' ⟨s0,s1,s2,s3,s4,s5,s6,s7,s8⟩
                        go_simp
                        with_reducible rfl
                       rotate_left
                       ·simp only [Act.put,List.setIfInBounds_toArray,List.set_cons_zero,List.set_cons_succ,i64_w,i32_w]
                        rfl
                       refine pure_ (i:=30) (N:=some 105) (v:=?_) (a':=?_) bA31_ rfl rfl (any_of HT_.out (by kernel_rfl)) (fun _ _ _ h=>h) (Or.inl ⟨by rfl,?_⟩) ?_ ?_
                       rotate_left
                       ·intro w'
                        go_simp
                        with_reducible rfl
                       rotate_left
                       ·simp only [Act.put,List.setIfInBounds_toArray,List.set_cons_zero,List.set_cons_succ,i64_w,i32_w]
                        rfl
                       refine one_ (i:=31) (N:=some 106) bA32_ rfl rfl (one_of HT_.out (by kernel_rfl)) (by decide) (fun K hK=>?_)
                       refine goes_ Try.func19 (by kernel_rfl) rfl #[.int .u32 t163,.int .i64 (wrap64 ((rd ((rd_T27 l0_3 x71_3).f1) 0) - a0_0))] (by rfl) rfl rfl (by (try simp only [List.map_toArray,List.map_cons,List.map_nil]);first|done|rfl|(simp only [List.length_drop,List.length_take];rfl)) ?_
                       with_reducible refine (coppicerref_Bit.calls t163 (wrap64 ((rd ((rd_T27 l0_3 x71_3).f1) 0) - a0_0)) false _ A51.out).mono ?_
                       rintro e w' ⟨rfl,⟨nd,rfl⟩⟩
                       refine ⟨_,rfl,?_⟩
                       refine hK.out _ _ ⟨(blk_cell BK181.out 0).trans rfl,(blk_cell BK181.out 1).trans rfl,(blk_cell BK162.out 0).trans rfl,(blk_cell BK162.out 1).trans rfl,(blk_cell BK162.out 2).trans rfl,(blk_cell BK162.out 3).trans rfl,((HB.out.cell (World.block_lt_of_cell? w _ hw182_0)).trans hw182_0),((HB.out.cell (World.block_lt_of_cell? w _ hw183_0)).trans hw183_0),((HB.out.cell (World.block_lt_of_cell? w _ hw184_0)).trans hw184_0)⟩ (fun hHeld=>?_)
                       clear hK K
                       refine norm_ (a':=?_) ?_ ?_
                       rotate_left
                       ·show Act.put _ (some 106) _ = _
                        simp only [Act.put,List.setIfInBounds_toArray,List.set_cons_zero,List.set_cons_succ,i64_w,i32_w]
                        rfl
                       refine pure_ (i:=32) (N:=some 107) (v:=?_) (a':=?_) bA33_ rfl rfl (any_of HT_.out (by kernel_rfl)) (fun _ _ _ h=>h) (Or.inl ⟨by rfl,?_⟩) ?_ ?_
                       rotate_left
                       ·intro w'
                        go_simp
                        with_reducible rfl
                       rotate_left
                       ·simp only [Act.put,List.setIfInBounds_toArray,List.set_cons_zero,List.set_cons_succ,i64_w,i32_w]
                        rfl
                       refine pure_ (i:=33) (N:=some 108) (v:=?_) (a':=?_) bA34_ rfl rfl (any_of HT_.out (by kernel_rfl)) (fun _ _ _ h=>h) (Or.inl ⟨by rfl,?_⟩) ?_ ?_
                       rotate_left
                       ·intro w'
                        go_simp
                        with_reducible rfl
                       rotate_left
                       ·simp only [Act.put,List.setIfInBounds_toArray,List.set_cons_zero,List.set_cons_succ,i64_w,i32_w]
                        rfl
                       refine pure_ (i:=34) (N:=some 109) (v:=undef) (a':=?_) bA35_ rfl rfl (any_of HT_.out (by kernel_rfl)) (fun _ _ _ h=>h) (Or.inr ⟨by rfl,rfl⟩) ?_ ?_
                       rotate_left
                       ·simp only [Act.put,List.setIfInBounds_toArray,List.set_cons_zero,List.set_cons_succ,i64_w,i32_w]
                        rfl
                       refine pure_ (i:=35) (N:=some 110) (v:=undef) (a':=?_) bA36_ rfl rfl (any_of HT_.out (by kernel_rfl)) (fun _ _ _ h=>h) (Or.inr ⟨by rfl,rfl⟩) ?_ ?_
                       rotate_left
                       ·simp only [Act.put,List.setIfInBounds_toArray,List.set_cons_zero,List.set_cons_succ,i64_w,i32_w]
                        rfl
                       refine pure_ (i:=36) (N:=some 111) (v:=undef) (a':=?_) bA52_ rfl rfl (any_of HT_.out (by kernel_rfl)) (fun _ _ _ h=>h) (Or.inr ⟨by rfl,rfl⟩) ?_ ?_
                       rotate_left
                       ·simp only [Act.put,List.setIfInBounds_toArray,List.set_cons_zero,List.set_cons_succ,i64_w,i32_w]
                        rfl
                       refine pure_ (i:=37) (N:=some 112) (v:=undef) (a':=?_) bA53_ rfl rfl (any_of HT_.out (by kernel_rfl)) (fun _ _ _ h=>h) (Or.inr ⟨by rfl,rfl⟩) ?_ ?_
                       rotate_left
                       ·simp only [Act.put,List.setIfInBounds_toArray,List.set_cons_zero,List.set_cons_succ,i64_w,i32_w]
                        rfl
                       refine pure_ (i:=38) (N:=some 113) (v:=undef) (a':=?_) bA54_ rfl rfl (any_of HT_.out (by kernel_rfl)) (fun _ _ _ h=>h) (Or.inr ⟨by rfl,rfl⟩) ?_ ?_
                       rotate_left
                       ·simp only [Act.put,List.setIfInBounds_toArray,List.set_cons_zero,List.set_cons_succ,i64_w,i32_w]
                        rfl
                       refine pure_ (i:=39) (N:=some 114) (v:=undef) (a':=?_) bA40_ rfl rfl (any_of HT_.out (by kernel_rfl)) (fun _ _ _ h=>h) (Or.inr ⟨by rfl,rfl⟩) ?_ ?_
                       rotate_left
                       ·simp only [Act.put,List.setIfInBounds_toArray,List.set_cons_zero,List.set_cons_succ,i64_w,i32_w]
                        rfl
                       refine pure_ (i:=40) (N:=some 115) (v:=undef) (a':=?_) bA41_ rfl rfl (any_of HT_.out (by kernel_rfl)) (fun _ _ _ h=>h) (Or.inr ⟨by rfl,rfl⟩) ?_ ?_
                       rotate_left
                       ·simp only [Act.put,List.setIfInBounds_toArray,List.set_cons_zero,List.set_cons_succ,i64_w,i32_w]
                        rfl
                       refine pure_ (i:=41) (N:=some 116) (v:=undef) (a':=?_) bA42_ rfl rfl (any_of HT_.out (by kernel_rfl)) (fun _ _ _ h=>h) (Or.inr ⟨by rfl,rfl⟩) ?_ ?_
                       rotate_left
                       ·simp only [Act.put,List.setIfInBounds_toArray,List.set_cons_zero,List.set_cons_succ,i64_w,i32_w]
                        rfl
                       refine pure_ (i:=42) (N:=some 117) (v:=undef) (a':=?_) bA43_ rfl rfl (any_of HT_.out (by kernel_rfl)) (fun _ _ _ h=>h) (Or.inr ⟨by rfl,rfl⟩) ?_ ?_
                       rotate_left
                       ·simp only [Act.put,List.setIfInBounds_toArray,List.set_cons_zero,List.set_cons_succ,i64_w,i32_w]
                        rfl
                       refine pure_ (i:=43) (N:=some 118) (v:=?_) (a':=?_) bA44_ rfl rfl (any_of HT_.out (by kernel_rfl)) (fun _ _ _ h=>h) (Or.inl ⟨by rfl,?_⟩) ?_ ?_
                       rotate_left
                       ·intro w'
                        go_simp
                        with_reducible rfl
                       rotate_left
                       ·simp only [Act.put,List.setIfInBounds_toArray,List.set_cons_zero,List.set_cons_succ,i64_w,i32_w]
                        rfl
                       refine pure_ (i:=44) (N:=some 119) (v:=?_) (a':=?_) bA45_ rfl rfl (any_of HT_.out (by kernel_rfl)) (fun _ _ _ h=>h) (Or.inl ⟨by rfl,?_⟩) ?_ ?_
                       rotate_left
                       ·intro w'
                        go_simp
                        with_reducible rfl
                       rotate_left
                       ·simp only [Act.put,List.setIfInBounds_toArray,List.set_cons_zero,List.set_cons_succ,i64_w,i32_w]
                        rfl
                       refine pure_ (i:=45) (N:=some 120) (v:=undef) (a':=?_) bA46_ rfl rfl (any_of HT_.out (by kernel_rfl)) (fun _ _ _ h=>h) (Or.inr ⟨by rfl,rfl⟩) ?_ ?_
                       rotate_left
                       ·simp only [Act.put,List.setIfInBounds_toArray,List.set_cons_zero,List.set_cons_succ,i64_w,i32_w]
                        rfl
                       refine pure_ (i:=46) (N:=some 121) (v:=undef) (a':=?_) bA47_ rfl rfl (any_of HT_.out (by kernel_rfl)) (fun _ _ _ h=>h) (Or.inr ⟨by rfl,rfl⟩) ?_ ?_
                       rotate_left
                       ·simp only [Act.put,List.setIfInBounds_toArray,List.set_cons_zero,List.set_cons_succ,i64_w,i32_w]
                        rfl
                       refine pure_ (i:=47) (N:=some 122) (v:=undef) (a':=?_) bA48_ rfl rfl (any_of HT_.out (by kernel_rfl)) (fun _ _ _ h=>h) (Or.inr ⟨by rfl,rfl⟩) ?_ ?_
                       rotate_left
                       ·simp only [Act.put,List.setIfInBounds_toArray,List.set_cons_zero,List.set_cons_succ,i64_w,i32_w]
                        rfl
                       refine pure_ (i:=48) (N:=some 123) (v:=undef) (a':=?_) bA49_ rfl rfl (any_of HT_.out (by kernel_rfl)) (fun _ _ _ h=>h) (Or.inr ⟨by rfl,rfl⟩) ?_ ?_
                       rotate_left
                       ·simp only [Act.put,List.setIfInBounds_toArray,List.set_cons_zero,List.set_cons_succ,i64_w,i32_w]
                        rfl
                       refine pure_ (i:=49) (N:=some 124) (v:=undef) (a':=?_) bA50_ rfl rfl (any_of HT_.out (by kernel_rfl)) (fun _ _ _ h=>h) (Or.inr ⟨by rfl,rfl⟩) ?_ ?_
                       rotate_left
                       ·simp only [Act.put,List.setIfInBounds_toArray,List.set_cons_zero,List.set_cons_succ,i64_w,i32_w]
                        rfl
                       refine pure_ (i:=50) (N:=some 125) (v:=?_) (a':=?_) bA51_ rfl rfl (any_of HT_.out (by kernel_rfl)) (fun _ _ _ h=>h) (Or.inl ⟨by rfl,?_⟩) ?_ ?_
                       rotate_left
                       ·intro w'
                        go_simp
                        with_reducible rfl
                       rotate_left
                       ·simp only [Act.put,List.setIfInBounds_toArray,List.set_cons_zero,List.set_cons_succ,i64_w,i32_w]
                        rfl
                       refine done_ (done_of HT_.out (by kernel_rfl)) ?_
                       try go_wp2
                       go_meet
                       case rel=>exact ⟨_,(false),(by first|rfl|(simp;done)|(simp [*];done)),H',⟨by have:=HJ5.out;have:=HJ25.out;have:=HK3.out;first|omega|exact Nat.le_refl _⟩,⟨by (with_reducible repeat (first|apply Kd.R_alloc|apply Kd.R_drewN|apply Kd.R_drew));exact HO_11.out⟩,⟨by (with_reducible repeat (first|refine blk_drewN ?_ _|refine blk_drew ?_|refine blk_alloc ?_ _));exact BK162.out⟩,⟨by (with_reducible repeat (first|refine blk_drewN ?_ _|refine blk_drew ?_|refine blk_alloc ?_ _));exact BK181.out⟩,⟨by repeat (first|(with_reducible first|exact HB.out|apply below_alloc|apply pw_below_drewN|apply below_drew1|refine below_set ?_ GE162.out|refine below_set ?_ GE181.out)|exact HB.out)⟩⟩
                     ·rw [if_neg c50] at H
                      have c50b0 : decide (a0_0 ≤ (rd ((rd_T27 l0_3 x71_3).f1) 1)) = false:=decide_eq_false c50
                      clear c50
                      have H':=Aside0.mk H
                      clear H
                      try go_wp2
                      have n0_ : Aside0 (Kd.R (Kd.int .i64) 3 ((w43.setCell ⟨gb181,0,none⟩ (.int .i64 ((rd_T27 l0_3 x71_3).f0))).setCell ⟨gb181,1,none⟩ (.slice A180_1 ((rd_T27 l0_3 x71_3).f1).length c180_1)) w.heap.size (fun _=>True) (.slice Ao32 y175.length co32) y175):=⟨by (with_reducible repeat (first|apply Kd.R_alloc|apply Kd.R_drewN|apply Kd.R_drew));exact Kd.R_mono (Kd.R_far (p:=⟨gb181,1,none⟩) (Kd.R_far (p:=⟨gb181,0,none⟩) (Kd.R_types HO_11.out BK181.out (by decide)) (fun _ hk=>hk.2) (.int .i64 ((rd_T27 l0_3 x71_3).f0))) (fun _ hk=>hk.2) (.slice A180_1 ((rd_T27 l0_3 x71_3).f1).length c180_1)) (fun _ hk=>trivial)⟩
                      have n1_ : Aside0 (((w43.setCell ⟨gb181,0,none⟩ (.int .i64 ((rd_T27 l0_3 x71_3).f0))).setCell ⟨gb181,1,none⟩ (.slice A180_1 ((rd_T27 l0_3 x71_3).f1).length c180_1)).heap[gb162]? = some (.cells #[.int .i64 a0_0,.int .i64 a0_1,.int .i64 a0_2,.slice (some ad180) l0_3.length c0_3] 24 (0,0))):=⟨by (with_reducible repeat (first|refine blk_drewN ?_ _|refine blk_drew ?_|refine blk_alloc ?_ _));refine blk_far ?_ NB162_181.out _;(with_reducible repeat (first|refine blk_drewN ?_ _|refine blk_drew ?_|refine blk_alloc ?_ _));refine blk_far ?_ NB162_181.out _;(with_reducible repeat (first|refine blk_drewN ?_ _|refine blk_drew ?_|refine blk_alloc ?_ _));exact BK162.out⟩
                      have n2_ : Aside0 (((w43.setCell ⟨gb181,0,none⟩ (.int .i64 ((rd_T27 l0_3 x71_3).f0))).setCell ⟨gb181,1,none⟩ (.slice A180_1 ((rd_T27 l0_3 x71_3).f1).length c180_1)).heap[gb181]? = some (.cells #[.int .i64 ((rd_T27 l0_3 x71_3).f0),.slice A180_1 ((rd_T27 l0_3 x71_3).f1).length c180_1] 27 (0,0))):=⟨by (with_reducible repeat (first|refine blk_drewN ?_ _|refine blk_drew ?_|refine blk_alloc ?_ _));refine blk_put (cs:=#[.int .i64 ((rd_T27 l0_3 x71_3).f0),.slice none 0 0]) ?_ 1 _ rfl;(with_reducible repeat (first|refine blk_drewN ?_ _|refine blk_drew ?_|refine blk_alloc ?_ _));refine blk_put (cs:=#[.int .i64 0,.slice none 0 0]) ?_ 0 _ rfl;(with_reducible repeat (first|refine blk_drewN ?_ _|refine blk_drew ?_|refine blk_alloc ?_ _));exact BK181.out⟩
                      have n3_ : Aside0 (Below w.heap.size w ((w43.setCell ⟨gb181,0,none⟩ (.int .i64 ((rd_T27 l0_3 x71_3).f0))).setCell ⟨gb181,1,none⟩ (.slice A180_1 ((rd_T27 l0_3 x71_3).f1).length c180_1))):=⟨by repeat (first|(with_reducible first|exact HB.out|apply below_alloc|apply pw_below_drewN|apply below_drew1|refine below_set ?_ GE162.out|refine below_set ?_ GE181.out)|exact HB.out)⟩
                      (try clear HO_11)
                      (try clear BK162)
                      (try clear BK181)
                      (try clear HB)
                      generalize ((w43.setCell ⟨gb181,0,none⟩ (.int .i64 ((rd_T27 l0_3 x71_3).f0))).setCell ⟨gb181,1,none⟩ (.slice A180_1 ((rd_T27 l0_3 x71_3).f1).length c180_1)) = w62 at n0_ n1_ n2_ n3_ ⊢
                      have HO_11:=n0_
                      have BK162:=n1_
                      have BK181:=n2_
                      have HB:=n3_
                      clear n0_ n1_ n2_ n3_
                      have n0_:=Aside0.mk (Kd.R_drew HO_11.out)
                      have n1_:=Aside0.mk (blk_drew BK162.out)
                      have n2_:=Aside0.mk (blk_drew BK181.out)
                      have n3_:=Aside0.mk (below_drew1 HB.out)
                      clear HO_11
                      clear BK162
                      clear BK181
                      clear HB
                      have HO_11:=n0_
                      have BK162:=n1_
                      have BK181:=n2_
                      have HB:=n3_
                      clear n0_ n1_ n2_ n3_
                      have p182 : 0 ≤ (0 : Int):=(by omega)
                      have q182 : 0 < (((rd_T27 l0_3 x71_3).f1).length : Int):=of_decide_eq_true (by first|(with_reducible assumption)|assumption)
                      obtain ⟨ad182,e182,hx182_0⟩:=Kd.at_int HR180_1.out 0 p182 q182
                      have hw182_0:=hx182_0
                      (try rw [show ((0 : Int)).toNat = 0 from rfl] at hw182_0)
                      (try rw [show 0 * 1 = 0 from rfl] at hw182_0)
                      (try rw [Addr.add_zero'] at hw182_0)
                      cases e182
                      have qi182 : (0 < ((rd_T27 l0_3 x71_3).f1).length) = True:=eq_true (by omega)
                      (try rw [show ((0 : Int)).toNat = 0 from rfl] at hx182_0)
                      (try rw [Addr.add_zero'] at hx182_0)
                      replace hx182_0:=(HB.out.cell (World.block_lt_of_cell? w _ hx182_0)).trans hx182_0
                      replace p182:=eq_true p182
                      replace q182:=eq_true q182
                      have p183 : 0 ≤ (1 : Int):=(by omega)
                      have q183 : 1 < (((rd_T27 l0_3 x71_3).f1).length : Int):=of_decide_eq_true (by first|(with_reducible assumption)|assumption)
                      obtain ⟨ad183,e183,hx183_0⟩:=Kd.at_int HR180_1.out 1 p183 q183
                      have hw183_0:=hx183_0
                      (try rw [show ((1 : Int)).toNat = 1 from rfl] at hw183_0)
                      (try rw [show 1 * 1 = 1 from rfl] at hw183_0)
                      (try simp only [Nat.reduceMul,Nat.reduceEqDiff,Go.Addr.add,↓reduceIte] at hw183_0)
                      obtain rfl : ad182 = ad183:=(by injection e183)
                      (try simp only [show (1 : Int).toNat = 1 from rfl,Nat.reduceMul,Nat.reduceEqDiff,Go.Addr.add,↓reduceIte] at hx183_0)
                      have qi183 : (1 < ((rd_T27 l0_3 x71_3).f1).length) = True:=eq_true (by omega)
                      (try rw [show ((1 : Int)).toNat = 1 from rfl] at hx183_0)
                      replace hx183_0:=(HB.out.cell (World.block_lt_of_cell? w _ hx183_0)).trans hx183_0
                      replace p183:=eq_true p183
                      replace q183:=eq_true q183
                      refine start_ (n:=51) (S:=fun w'=>w'.cell? ⟨gb181,0,none⟩ = some (.int .i64 ((rd_T27 l0_3 x71_3).f0)) ∧ w'.cell? ⟨gb181,1,none⟩ = some (.slice (some ad182) ((rd_T27 l0_3 x71_3).f1).length c180_1) ∧ w'.cell? ⟨gb162,0,none⟩ = some (.int .i64 a0_0) ∧ w'.cell? ⟨gb162,1,none⟩ = some (.int .i64 a0_1) ∧ w'.cell? ⟨gb162,2,none⟩ = some (.int .i64 a0_2) ∧ w'.cell? ⟨gb162,3,none⟩ = some (.slice (some ad180) l0_3.length c0_3) ∧ w'.cell? ad182 = some (.int .i64 (rd ((rd_T27 l0_3 x71_3).f1) 0)) ∧ w'.cell? ⟨ad182.block,ad182.off + 1,none⟩ = some (.int .i64 (rd ((rd_T27 l0_3 x71_3).f1) 1))) (ds:=[]) bA0_ (by kernel_rfl) rfl rfl ⟨(blk_cell BK181.out 0).trans rfl,(blk_cell BK181.out 1).trans rfl,(blk_cell BK162.out 0).trans rfl,(blk_cell BK162.out 1).trans rfl,(blk_cell BK162.out 2).trans rfl,(blk_cell BK162.out 3).trans rfl,((HB.out.cell (World.block_lt_of_cell? w _ hw182_0)).trans hw182_0),((HB.out.cell (World.block_lt_of_cell? w _ hw183_0)).trans hw183_0)⟩ (fun hHeld=>?_);refine with_tabW coppicerkeep_TableJoins.tab16 coppicerkeep_TableJoins.bits16 (fun HT_ HW_=>?_)
                      generalize w62.drew = w63 at HO_11 BK162 BK181 HB hx182_0 hx183_0 hHeld ⊢
                      refine pure_ (i:=0) (N:=some 75) (v:=?_) (a':=?_) bA1_ rfl rfl (any_of HT_.out (by kernel_rfl)) (fun _ _ _ h=>h) (Or.inl ⟨by rfl,?_⟩) ?_ ?_
                      rotate_left
                      ·intro w'
                       go_simp
                       with_reducible rfl
                      rotate_left
                      ·simp only [Act.put,List.setIfInBounds_toArray,List.set_cons_zero,List.set_cons_succ,i64_w,i32_w]
                       rfl
                      refine take_ (i:=1) (N:=some 76) (v:=?_) (a':=?_) bA2_ rfl rfl (take_ofW HT_.out HW_.out (by kernel_rfl)) (fun _ _ _ h=>h) (Or.inl ⟨by rfl,?_⟩) hHeld ?_ ?_
                      rotate_left
                      ·rintro w' ⟨s0,s1,s2,s3,s4,s5,s6,s7⟩
                       go_simp
                       with_reducible rfl
                      rotate_left
                      ·simp only [Act.put,List.setIfInBounds_toArray,List.set_cons_zero,List.set_cons_succ,i64_w,i32_w]
                       rfl
                      refine pure_ (i:=2) (N:=some 77) (v:=?_) (a':=?_) bA3_ rfl rfl (any_of HT_.out (by kernel_rfl)) (fun _ _ _ h=>h) (Or.inl ⟨by rfl,?_⟩) ?_ ?_
                      rotate_left
                      ·intro w'
                       go_simp
                       with_reducible rfl
                      rotate_left
                      ·simp only [Act.put,List.setIfInBounds_toArray,List.set_cons_zero,List.set_cons_succ,i64_w,i32_w]
                       rfl
                      refine pure_ (i:=3) (N:=some 78) (v:=?_) (a':=?_) bA4_ rfl rfl (any_of HT_.out (by kernel_rfl)) (fun _ _ _ h=>h) (Or.inl ⟨by rfl,?_⟩) ?_ ?_
                      rotate_left
                      ·intro w'
                       go_simp
                       with_reducible rfl
                      rotate_left
                      ·simp only [Act.put,List.setIfInBounds_toArray,List.set_cons_zero,List.set_cons_succ,i64_w,i32_w]
                       rfl
                      refine pure_ (i:=4) (N:=some 79) (v:=?_) (a':=?_) bA5_ rfl rfl (any_of HT_.out (by kernel_rfl)) (fun _ _ _ h=>h) (Or.inl ⟨by rfl,?_⟩) ?_ ?_
                      rotate_left
                      ·intro w'
                       go_simp
                       with_reducible rfl
                      rotate_left
                      ·simp only [Act.put,List.setIfInBounds_toArray,List.set_cons_zero,List.set_cons_succ,i64_w,i32_w]
                       rfl
                      refine pure_ (i:=5) (N:=some 80) (v:=?_) (a':=?_) bA6_ rfl rfl (any_of HT_.out (by kernel_rfl)) (fun _ _ _ h=>h) (Or.inl ⟨by rfl,?_⟩) ?_ ?_
                      rotate_left
                      ·intro w'
                       go_simp
                       with_reducible rfl
                      rotate_left
                      ·simp only [Act.put,List.setIfInBounds_toArray,List.set_cons_zero,List.set_cons_succ,i64_w,i32_w]
                       rfl
                      refine pure_ (i:=9) (N:=some 84) (v:=?_) (a':=?_) bA7_ rfl rfl (any_of HT_.out (by kernel_rfl)) (fun _ _ _ h=>h) (Or.inl ⟨by rfl,?_⟩) ?_ ?_
                      rotate_left
                      ·intro w'
                       go_simp
                       with_reducible rfl
                      rotate_left
                      ·simp only [Act.put,List.setIfInBounds_toArray,List.set_cons_zero,List.set_cons_succ,i64_w,i32_w]
                       rfl
                      refine take_ (i:=6) (N:=some 81) (v:=?_) (a':=?_) bA8_ rfl rfl (take_ofW HT_.out HW_.out (by kernel_rfl)) (fun _ _ _ h=>h) (Or.inl ⟨by rfl,?_⟩) hHeld ?_ ?_
                      rotate_left
                      ·rintro w' ⟨s0,s1,s2,s3,s4,s5,s6,s7⟩
                       go_simp
                       with_reducible rfl
                      rotate_left
                      ·simp only [Act.put,List.setIfInBounds_toArray,List.set_cons_zero,List.set_cons_succ,i64_w,i32_w]
                       rfl
                      refine pure_ (i:=7) (N:=some 82) (v:=?_) (a':=?_) bA9_ rfl rfl (any_of HT_.out (by kernel_rfl)) (fun _ _ _ h=>h) (Or.inl ⟨by rfl,?_⟩) ?_ ?_
                      rotate_left
                      ·intro w'
                       go_simp
                       with_reducible rfl
                      rotate_left
                      ·simp only [Act.put,List.setIfInBounds_toArray,List.set_cons_zero,List.set_cons_succ,i64_w,i32_w]
                       rfl
                      refine take_ (i:=8) (N:=some 83) (v:=?_) (a':=?_) bA10_ rfl rfl (take_ofW HT_.out HW_.out (by kernel_rfl)) (fun _ _ _ h=>h) (Or.inl ⟨by rfl,?_⟩) hHeld ?_ ?_
                      rotate_left
                      ·rintro w' ⟨s0,s1,s2,s3,s4,s5,s6,s7⟩
                       go_simp
                       with_reducible rfl
                      rotate_left
                      ·simp only [Act.put,List.setIfInBounds_toArray,List.set_cons_zero,List.set_cons_succ,i64_w,i32_w]
                       rfl
                      refine take_ (i:=10) (N:=some 85) (v:=?_) (a':=?_) bA11_ rfl rfl (take_ofW HT_.out HW_.out (by kernel_rfl)) (fun _ _ _ h=>h) (Or.inl ⟨by rfl,?_⟩) hHeld ?_ ?_
                      rotate_left
                      ·rintro w' ⟨s0,s1,s2,s3,s4,s5,s6,s7⟩
                       go_simp
                       with_reducible rfl
                      rotate_left
                      ·simp only [Act.put,List.setIfInBounds_toArray,List.set_cons_zero,List.set_cons_succ,i64_w,i32_w]
                       rfl
                      refine pure_ (i:=11) (N:=some 86) (v:=?_) (a':=?_) bA12_ rfl rfl (any_of HT_.out (by kernel_rfl)) (fun _ _ _ h=>h) (Or.inl ⟨by rfl,?_⟩) ?_ ?_
                      rotate_left
                      ·intro w'
                       go_simp
                       with_reducible rfl
                      rotate_left
                      ·simp only [Act.put,List.setIfInBounds_toArray,List.set_cons_zero,List.set_cons_succ,i64_w,i32_w]
                       rfl
                      refine pure_ (i:=12) (N:=some 87) (v:=?_) (a':=?_) bA13_ rfl rfl (any_of HT_.out (by kernel_rfl)) (fun _ _ _ h=>h) (Or.inl ⟨by rfl,?_⟩) ?_ ?_
                      rotate_left
                      ·intro w'
                       go_simp
                       with_reducible rfl
                      rotate_left
                      ·simp only [Act.put,List.setIfInBounds_toArray,List.set_cons_zero,List.set_cons_succ,i64_w,i32_w]
                       rfl
                      refine pure_ (i:=13) (N:=some 88) (v:=?_) (a':=?_) bA14_ rfl rfl (any_of HT_.out (by kernel_rfl)) (fun _ _ _ h=>h) (Or.inl ⟨by rfl,?_⟩) ?_ ?_
                      rotate_left
                      ·intro w'
                       go_simp
                       with_reducible rfl
                      rotate_left
                      ·simp only [Act.put,List.setIfInBounds_toArray,List.set_cons_zero,List.set_cons_succ,i64_w,i32_w]
                       rfl
                      refine pure_ (i:=14) (N:=some 89) (v:=?_) (a':=?_) bA15_ rfl rfl (any_of HT_.out (by kernel_rfl)) (fun _ _ _ h=>h) (Or.inl ⟨by rfl,?_⟩) ?_ ?_
                      rotate_left
                      ·intro w'
                       go_simp
                       with_reducible rfl
                      rotate_left
                      ·simp only [Act.put,List.setIfInBounds_toArray,List.set_cons_zero,List.set_cons_succ,i64_w,i32_w]
                       rfl
                      refine pure_ (i:=18) (N:=some 93) (v:=?_) (a':=?_) bA16_ rfl rfl (any_of HT_.out (by kernel_rfl)) (fun _ _ _ h=>h) (Or.inl ⟨by rfl,?_⟩) ?_ ?_
                      rotate_left
                      ·intro w'
                       go_simp
                       with_reducible rfl
                      rotate_left
                      ·simp only [Act.put,List.setIfInBounds_toArray,List.set_cons_zero,List.set_cons_succ,i64_w,i32_w]
                       rfl
                      refine take_ (i:=15) (N:=some 90) (v:=?_) (a':=?_) bA17_ rfl rfl (take_ofW HT_.out HW_.out (by kernel_rfl)) (fun _ _ _ h=>h) (Or.inl ⟨by rfl,?_⟩) hHeld ?_ ?_
                      rotate_left
                      ·rintro w' ⟨s0,s1,s2,s3,s4,s5,s6,s7⟩
                       go_simp
                       with_reducible rfl
                      rotate_left
                      ·simp only [Act.put,List.setIfInBounds_toArray,List.set_cons_zero,List.set_cons_succ,i64_w,i32_w]
                       rfl
                      refine pure_ (i:=16) (N:=some 91) (v:=?_) (a':=?_) bA18_ rfl rfl (any_of HT_.out (by kernel_rfl)) (fun _ _ _ h=>h) (Or.inl ⟨by rfl,?_⟩) ?_ ?_
                      rotate_left
                      ·intro w'
                       go_simp
                       with_reducible rfl
                      rotate_left
                      ·simp only [Act.put,List.setIfInBounds_toArray,List.set_cons_zero,List.set_cons_succ,i64_w,i32_w]
                       rfl
                      refine take_ (i:=17) (N:=some 92) (v:=?_) (a':=?_) bA19_ rfl rfl (take_ofW HT_.out HW_.out (by kernel_rfl)) (fun _ _ _ h=>h) (Or.inl ⟨by rfl,?_⟩) hHeld ?_ ?_
                      rotate_left
                      ·rintro w' ⟨s0,s1,s2,s3,s4,s5,s6,s7⟩
                       go_simp
                       with_reducible rfl
                      rotate_left
                      ·simp only [Act.put,List.setIfInBounds_toArray,List.set_cons_zero,List.set_cons_succ,i64_w,i32_w]
                       rfl
                      refine take_ (i:=19) (N:=some 94) (v:=?_) (a':=?_) bA20_ rfl rfl (take_ofW HT_.out HW_.out (by kernel_rfl)) (fun _ _ _ h=>h) (Or.inl ⟨by rfl,?_⟩) hHeld ?_ ?_
                      rotate_left
                      ·rintro w' ⟨s0,s1,s2,s3,s4,s5,s6,s7⟩
                       go_simp
                       with_reducible rfl
                      rotate_left
                      ·simp only [Act.put,List.setIfInBounds_toArray,List.set_cons_zero,List.set_cons_succ,i64_w,i32_w]
                       rfl
                      refine pure_ (i:=20) (N:=some 95) (v:=?_) (a':=?_) bA21_ rfl rfl (any_of HT_.out (by kernel_rfl)) (fun _ _ _ h=>h) (Or.inl ⟨by rfl,?_⟩) ?_ ?_
                      rotate_left
                      ·intro w'
                       go_simp
                       with_reducible rfl
                      rotate_left
                      ·simp only [Act.put,List.setIfInBounds_toArray,List.set_cons_zero,List.set_cons_succ,i64_w,i32_w]
                       rfl
                      refine pure_ (i:=21) (N:=some 96) (v:=?_) (a':=?_) bA22_ rfl rfl (any_of HT_.out (by kernel_rfl)) (fun _ _ _ h=>h) (Or.inl ⟨by rfl,?_⟩) ?_ ?_
                      rotate_left
                      ·intro w'
                       go_simp
                       with_reducible rfl
                      rotate_left
                      ·simp only [Act.put,List.setIfInBounds_toArray,List.set_cons_zero,List.set_cons_succ,i64_w,i32_w]
                       rfl
                      refine pure_ (i:=22) (N:=some 97) (v:=?_) (a':=?_) bA23_ rfl rfl (any_of HT_.out (by kernel_rfl)) (fun _ _ _ h=>h) (Or.inl ⟨by rfl,?_⟩) ?_ ?_
                      rotate_left
                      ·intro w'
                       go_simp
                       with_reducible rfl
                      rotate_left
                      ·simp only [Act.put,List.setIfInBounds_toArray,List.set_cons_zero,List.set_cons_succ,i64_w,i32_w]
                       rfl
                      refine pure_ (i:=23) (N:=some 98) (v:=undef) (a':=?_) bA24_ rfl rfl (any_of HT_.out (by kernel_rfl)) (fun _ _ _ h=>h) (Or.inr ⟨by rfl,rfl⟩) ?_ ?_
                      rotate_left
                      ·simp only [Act.put,List.setIfInBounds_toArray,List.set_cons_zero,List.set_cons_succ,i64_w,i32_w]
                       rfl
                      refine pure_ (i:=24) (N:=some 99) (v:=undef) (a':=?_) bA25_ rfl rfl (any_of HT_.out (by kernel_rfl)) (fun _ _ _ h=>h) (Or.inr ⟨by rfl,rfl⟩) ?_ ?_
                      rotate_left
                      ·simp only [Act.put,List.setIfInBounds_toArray,List.set_cons_zero,List.set_cons_succ,i64_w,i32_w]
                       rfl
                      refine pure_ (i:=25) (N:=some 100) (v:=undef) (a':=?_) bA55_ rfl rfl (any_of HT_.out (by kernel_rfl)) (fun _ _ _ h=>h) (Or.inr ⟨by rfl,rfl⟩) ?_ ?_
                      rotate_left
                      ·simp only [Act.put,List.setIfInBounds_toArray,List.set_cons_zero,List.set_cons_succ,i64_w,i32_w]
                       rfl
                      refine pure_ (i:=26) (N:=some 101) (v:=undef) (a':=?_) bA56_ rfl rfl (any_of HT_.out (by kernel_rfl)) (fun _ _ _ h=>h) (Or.inr ⟨by rfl,rfl⟩) ?_ ?_
                      rotate_left
                      ·simp only [Act.put,List.setIfInBounds_toArray,List.set_cons_zero,List.set_cons_succ,i64_w,i32_w]
                       rfl
                      refine pure_ (i:=27) (N:=some 102) (v:=undef) (a':=?_) bA57_ rfl rfl (any_of HT_.out (by kernel_rfl)) (fun _ _ _ h=>h) (Or.inr ⟨by rfl,rfl⟩) ?_ ?_
                      rotate_left
                      ·simp only [Act.put,List.setIfInBounds_toArray,List.set_cons_zero,List.set_cons_succ,i64_w,i32_w]
                       rfl
                      refine pure_ (i:=28) (N:=some 103) (v:=undef) (a':=?_) bA29_ rfl rfl (any_of HT_.out (by kernel_rfl)) (fun _ _ _ h=>h) (Or.inr ⟨by rfl,rfl⟩) ?_ ?_
                      rotate_left
                      ·simp only [Act.put,List.setIfInBounds_toArray,List.set_cons_zero,List.set_cons_succ,i64_w,i32_w]
                       rfl
                      refine pure_ (i:=29) (N:=some 104) (v:=undef) (a':=?_) bA30_ rfl rfl (any_of HT_.out (by kernel_rfl)) (fun _ _ _ h=>h) (Or.inr ⟨by rfl,rfl⟩) ?_ ?_
                      rotate_left
                      ·simp only [Act.put,List.setIfInBounds_toArray,List.set_cons_zero,List.set_cons_succ,i64_w,i32_w]
                       rfl
                      refine pure_ (i:=30) (N:=some 105) (v:=undef) (a':=?_) bA31_ rfl rfl (any_of HT_.out (by kernel_rfl)) (fun _ _ _ h=>h) (Or.inr ⟨by rfl,rfl⟩) ?_ ?_
                      rotate_left
                      ·simp only [Act.put,List.setIfInBounds_toArray,List.set_cons_zero,List.set_cons_succ,i64_w,i32_w]
                       rfl
                      refine pure_ (i:=31) (N:=some 106) (v:=undef) (a':=?_) bA32_ rfl rfl (any_of HT_.out (by kernel_rfl)) (fun _ _ _ h=>h) (Or.inr ⟨by rfl,rfl⟩) ?_ ?_
                      rotate_left
                      ·simp only [Act.put,List.setIfInBounds_toArray,List.set_cons_zero,List.set_cons_succ,i64_w,i32_w]
                       rfl
                      refine pure_ (i:=32) (N:=some 107) (v:=?_) (a':=?_) bA33_ rfl rfl (any_of HT_.out (by kernel_rfl)) (fun _ _ _ h=>h) (Or.inl ⟨by rfl,?_⟩) ?_ ?_
                      rotate_left
                      ·intro w'
                       go_simp
                       with_reducible rfl
                      rotate_left
                      ·simp only [Act.put,List.setIfInBounds_toArray,List.set_cons_zero,List.set_cons_succ,i64_w,i32_w]
                       rfl
                      refine pure_ (i:=33) (N:=some 108) (v:=?_) (a':=?_) bA34_ rfl rfl (any_of HT_.out (by kernel_rfl)) (fun _ _ _ h=>h) (Or.inl ⟨by rfl,?_⟩) ?_ ?_
                      rotate_left
                      ·intro w'
                       go_simp
                       with_reducible rfl
                      rotate_left
                      ·simp only [Act.put,List.setIfInBounds_toArray,List.set_cons_zero,List.set_cons_succ,i64_w,i32_w]
                       rfl
                      refine pure_ (i:=34) (N:=some 109) (v:=undef) (a':=?_) bA35_ rfl rfl (any_of HT_.out (by kernel_rfl)) (fun _ _ _ h=>h) (Or.inr ⟨by rfl,rfl⟩) ?_ ?_
                      rotate_left
                      ·simp only [Act.put,List.setIfInBounds_toArray,List.set_cons_zero,List.set_cons_succ,i64_w,i32_w]
                       rfl
                      refine pure_ (i:=35) (N:=some 110) (v:=undef) (a':=?_) bA36_ rfl rfl (any_of HT_.out (by kernel_rfl)) (fun _ _ _ h=>h) (Or.inr ⟨by rfl,rfl⟩) ?_ ?_
                      rotate_left
                      ·simp only [Act.put,List.setIfInBounds_toArray,List.set_cons_zero,List.set_cons_succ,i64_w,i32_w]
                       rfl
                      refine pure_ (i:=36) (N:=some 111) (v:=undef) (a':=?_) bA52_ rfl rfl (any_of HT_.out (by kernel_rfl)) (fun _ _ _ h=>h) (Or.inr ⟨by rfl,rfl⟩) ?_ ?_
                      rotate_left
                      ·simp only [Act.put,List.setIfInBounds_toArray,List.set_cons_zero,List.set_cons_succ,i64_w,i32_w]
                       rfl
                      refine pure_ (i:=37) (N:=some 112) (v:=undef) (a':=?_) bA53_ rfl rfl (any_of HT_.out (by kernel_rfl)) (fun _ _ _ h=>h) (Or.inr ⟨by rfl,rfl⟩) ?_ ?_
                      rotate_left
                      ·simp only [Act.put,List.setIfInBounds_toArray,List.set_cons_zero,List.set_cons_succ,i64_w,i32_w]
                       rfl
                      refine pure_ (i:=38) (N:=some 113) (v:=undef) (a':=?_) bA54_ rfl rfl (any_of HT_.out (by kernel_rfl)) (fun _ _ _ h=>h) (Or.inr ⟨by rfl,rfl⟩) ?_ ?_
                      rotate_left
                      ·simp only [Act.put,List.setIfInBounds_toArray,List.set_cons_zero,List.set_cons_succ,i64_w,i32_w]
                       rfl
                      refine pure_ (i:=39) (N:=some 114) (v:=undef) (a':=?_) bA40_ rfl rfl (any_of HT_.out (by kernel_rfl)) (fun _ _ _ h=>h) (Or.inr ⟨by rfl,rfl⟩) ?_ ?_
                      rotate_left
                      ·simp only [Act.put,List.setIfInBounds_toArray,List.set_cons_zero,List.set_cons_succ,i64_w,i32_w]
                       rfl
                      refine pure_ (i:=40) (N:=some 115) (v:=undef) (a':=?_) bA41_ rfl rfl (any_of HT_.out (by kernel_rfl)) (fun _ _ _ h=>h) (Or.inr ⟨by rfl,rfl⟩) ?_ ?_
                      rotate_left
                      ·simp only [Act.put,List.setIfInBounds_toArray,List.set_cons_zero,List.set_cons_succ,i64_w,i32_w]
                       rfl
                      refine pure_ (i:=41) (N:=some 116) (v:=undef) (a':=?_) bA42_ rfl rfl (any_of HT_.out (by kernel_rfl)) (fun _ _ _ h=>h) (Or.inr ⟨by rfl,rfl⟩) ?_ ?_
                      rotate_left
                      ·simp only [Act.put,List.setIfInBounds_toArray,List.set_cons_zero,List.set_cons_succ,i64_w,i32_w]
                       rfl
                      refine pure_ (i:=42) (N:=some 117) (v:=undef) (a':=?_) bA43_ rfl rfl (any_of HT_.out (by kernel_rfl)) (fun _ _ _ h=>h) (Or.inr ⟨by rfl,rfl⟩) ?_ ?_
                      rotate_left
                      ·simp only [Act.put,List.setIfInBounds_toArray,List.set_cons_zero,List.set_cons_succ,i64_w,i32_w]
                       rfl
                      refine pure_ (i:=43) (N:=some 118) (v:=?_) (a':=?_) bA44_ rfl rfl (any_of HT_.out (by kernel_rfl)) (fun _ _ _ h=>h) (Or.inl ⟨by rfl,?_⟩) ?_ ?_
                      rotate_left
                      ·intro w'
                       go_simp
                       with_reducible rfl
                      rotate_left
                      ·simp only [Act.put,List.setIfInBounds_toArray,List.set_cons_zero,List.set_cons_succ,i64_w,i32_w]
                       rfl
                      refine pure_ (i:=44) (N:=some 119) (v:=?_) (a':=?_) bA45_ rfl rfl (any_of HT_.out (by kernel_rfl)) (fun _ _ _ h=>h) (Or.inl ⟨by rfl,?_⟩) ?_ ?_
                      rotate_left
                      ·intro w'
                       go_simp
                       with_reducible rfl
                      rotate_left
                      ·simp only [Act.put,List.setIfInBounds_toArray,List.set_cons_zero,List.set_cons_succ,i64_w,i32_w]
                       rfl
                      refine pure_ (i:=45) (N:=some 120) (v:=undef) (a':=?_) bA46_ rfl rfl (any_of HT_.out (by kernel_rfl)) (fun _ _ _ h=>h) (Or.inr ⟨by rfl,rfl⟩) ?_ ?_
                      rotate_left
                      ·simp only [Act.put,List.setIfInBounds_toArray,List.set_cons_zero,List.set_cons_succ,i64_w,i32_w]
                       rfl
                      refine pure_ (i:=46) (N:=some 121) (v:=undef) (a':=?_) bA47_ rfl rfl (any_of HT_.out (by kernel_rfl)) (fun _ _ _ h=>h) (Or.inr ⟨by rfl,rfl⟩) ?_ ?_
                      rotate_left
                      ·simp only [Act.put,List.setIfInBounds_toArray,List.set_cons_zero,List.set_cons_succ,i64_w,i32_w]
                       rfl
                      refine pure_ (i:=47) (N:=some 122) (v:=undef) (a':=?_) bA48_ rfl rfl (any_of HT_.out (by kernel_rfl)) (fun _ _ _ h=>h) (Or.inr ⟨by rfl,rfl⟩) ?_ ?_
                      rotate_left
                      ·simp only [Act.put,List.setIfInBounds_toArray,List.set_cons_zero,List.set_cons_succ,i64_w,i32_w]
                       rfl
                      refine pure_ (i:=48) (N:=some 123) (v:=undef) (a':=?_) bA49_ rfl rfl (any_of HT_.out (by kernel_rfl)) (fun _ _ _ h=>h) (Or.inr ⟨by rfl,rfl⟩) ?_ ?_
                      rotate_left
                      ·simp only [Act.put,List.setIfInBounds_toArray,List.set_cons_zero,List.set_cons_succ,i64_w,i32_w]
                       rfl
                      refine pure_ (i:=49) (N:=some 124) (v:=undef) (a':=?_) bA50_ rfl rfl (any_of HT_.out (by kernel_rfl)) (fun _ _ _ h=>h) (Or.inr ⟨by rfl,rfl⟩) ?_ ?_
                      rotate_left
                      ·simp only [Act.put,List.setIfInBounds_toArray,List.set_cons_zero,List.set_cons_succ,i64_w,i32_w]
                       rfl
                      refine pure_ (i:=50) (N:=some 125) (v:=?_) (a':=?_) bA51_ rfl rfl (any_of HT_.out (by kernel_rfl)) (fun _ _ _ h=>h) (Or.inl ⟨by rfl,?_⟩) ?_ ?_
                      rotate_left
                      ·intro w'
                       go_simp
                       with_reducible rfl
                      rotate_left
                      ·simp only [Act.put,List.setIfInBounds_toArray,List.set_cons_zero,List.set_cons_succ,i64_w,i32_w]
                       rfl
                      refine done_ (done_of HT_.out (by kernel_rfl)) ?_
                      try go_wp2
                      go_meet
                      case rel=>exact ⟨_,(false),(by first|rfl|(simp;done)|(simp [*];done)),H',⟨by have:=HJ5.out;have:=HJ25.out;have:=HK3.out;first|omega|exact Nat.le_refl _⟩,⟨by (with_reducible repeat (first|apply Kd.R_alloc|apply Kd.R_drewN|apply Kd.R_drew));exact HO_11.out⟩,⟨by (with_reducible repeat (first|refine blk_drewN ?_ _|refine blk_drew ?_|refine blk_alloc ?_ _));exact BK162.out⟩,⟨by (with_reducible repeat (first|refine blk_drewN ?_ _|refine blk_drew ?_|refine blk_alloc ?_ _));exact BK181.out⟩,⟨by repeat (first|(with_reducible first|exact HB.out|apply below_alloc|apply pw_below_drewN|apply below_drew1|refine below_set ?_ GE162.out|refine below_set ?_ GE181.out)|exact HB.out)⟩⟩
                    ·rw [if_neg c49] at H
                     exact absurd H (by simp)
                   ·rw [if_neg c48] at H
                    have c48b0 : decide (a0_0 ≤ (rd ((rd_T27 l0_3 x71_3).f1) 0)) = false:=decide_eq_false c48
                    clear c48
                    have H':=Aside0.mk H
                    clear H
                    try go_wp2
                    have n0_ : Aside0 (Kd.R (Kd.int .i64) 3 ((w43.setCell ⟨gb181,0,none⟩ (.int .i64 ((rd_T27 l0_3 x71_3).f0))).setCell ⟨gb181,1,none⟩ (.slice A180_1 ((rd_T27 l0_3 x71_3).f1).length c180_1)) w.heap.size (fun _=>True) (.slice Ao32 y175.length co32) y175):=⟨by (with_reducible repeat (first|apply Kd.R_alloc|apply Kd.R_drewN|apply Kd.R_drew));exact Kd.R_mono (Kd.R_far (p:=⟨gb181,1,none⟩) (Kd.R_far (p:=⟨gb181,0,none⟩) (Kd.R_types HO_11.out BK181.out (by decide)) (fun _ hk=>hk.2) (.int .i64 ((rd_T27 l0_3 x71_3).f0))) (fun _ hk=>hk.2) (.slice A180_1 ((rd_T27 l0_3 x71_3).f1).length c180_1)) (fun _ hk=>trivial)⟩
                    have n1_ : Aside0 (((w43.setCell ⟨gb181,0,none⟩ (.int .i64 ((rd_T27 l0_3 x71_3).f0))).setCell ⟨gb181,1,none⟩ (.slice A180_1 ((rd_T27 l0_3 x71_3).f1).length c180_1)).heap[gb162]? = some (.cells #[.int .i64 a0_0,.int .i64 a0_1,.int .i64 a0_2,.slice (some ad180) l0_3.length c0_3] 24 (0,0))):=⟨by (with_reducible repeat (first|refine blk_drewN ?_ _|refine blk_drew ?_|refine blk_alloc ?_ _));refine blk_far ?_ NB162_181.out _;(with_reducible repeat (first|refine blk_drewN ?_ _|refine blk_drew ?_|refine blk_alloc ?_ _));refine blk_far ?_ NB162_181.out _;(with_reducible repeat (first|refine blk_drewN ?_ _|refine blk_drew ?_|refine blk_alloc ?_ _));exact BK162.out⟩
                    have n2_ : Aside0 (((w43.setCell ⟨gb181,0,none⟩ (.int .i64 ((rd_T27 l0_3 x71_3).f0))).setCell ⟨gb181,1,none⟩ (.slice A180_1 ((rd_T27 l0_3 x71_3).f1).length c180_1)).heap[gb181]? = some (.cells #[.int .i64 ((rd_T27 l0_3 x71_3).f0),.slice A180_1 ((rd_T27 l0_3 x71_3).f1).length c180_1] 27 (0,0))):=⟨by (with_reducible repeat (first|refine blk_drewN ?_ _|refine blk_drew ?_|refine blk_alloc ?_ _));refine blk_put (cs:=#[.int .i64 ((rd_T27 l0_3 x71_3).f0),.slice none 0 0]) ?_ 1 _ rfl;(with_reducible repeat (first|refine blk_drewN ?_ _|refine blk_drew ?_|refine blk_alloc ?_ _));refine blk_put (cs:=#[.int .i64 0,.slice none 0 0]) ?_ 0 _ rfl;(with_reducible repeat (first|refine blk_drewN ?_ _|refine blk_drew ?_|refine blk_alloc ?_ _));exact BK181.out⟩
                    have n3_ : Aside0 (Below w.heap.size w ((w43.setCell ⟨gb181,0,none⟩ (.int .i64 ((rd_T27 l0_3 x71_3).f0))).setCell ⟨gb181,1,none⟩ (.slice A180_1 ((rd_T27 l0_3 x71_3).f1).length c180_1))):=⟨by repeat (first|(with_reducible first|exact HB.out|apply below_alloc|apply pw_below_drewN|apply below_drew1|refine below_set ?_ GE162.out|refine below_set ?_ GE181.out)|exact HB.out)⟩
                    (try clear HO_11)
                    (try clear BK162)
                    (try clear BK181)
                    (try clear HB)
                    generalize ((w43.setCell ⟨gb181,0,none⟩ (.int .i64 ((rd_T27 l0_3 x71_3).f0))).setCell ⟨gb181,1,none⟩ (.slice A180_1 ((rd_T27 l0_3 x71_3).f1).length c180_1)) = w64 at n0_ n1_ n2_ n3_ ⊢
                    have HO_11:=n0_
                    have BK162:=n1_
                    have BK181:=n2_
                    have HB:=n3_
                    clear n0_ n1_ n2_ n3_
                    have n0_:=Aside0.mk (Kd.R_drew HO_11.out)
                    have n1_:=Aside0.mk (blk_drew BK162.out)
                    have n2_:=Aside0.mk (blk_drew BK181.out)
                    have n3_:=Aside0.mk (below_drew1 HB.out)
                    clear HO_11
                    clear BK162
                    clear BK181
                    clear HB
                    have HO_11:=n0_
                    have BK162:=n1_
                    have BK181:=n2_
                    have HB:=n3_
                    clear n0_ n1_ n2_ n3_
                    have p182 : 0 ≤ (0 : Int):=(by omega)
                    have q182 : 0 < (((rd_T27 l0_3 x71_3).f1).length : Int):=of_decide_eq_true (by first|(with_reducible assumption)|assumption)
                    obtain ⟨ad182,e182,hx182_0⟩:=Kd.at_int HR180_1.out 0 p182 q182
                    have hw182_0:=hx182_0
                    (try rw [show ((0 : Int)).toNat = 0 from rfl] at hw182_0)
                    (try rw [show 0 * 1 = 0 from rfl] at hw182_0)
                    (try rw [Addr.add_zero'] at hw182_0)
                    cases e182
                    have qi182 : (0 < ((rd_T27 l0_3 x71_3).f1).length) = True:=eq_true (by omega)
                    (try rw [show ((0 : Int)).toNat = 0 from rfl] at hx182_0)
                    (try rw [Addr.add_zero'] at hx182_0)
                    replace hx182_0:=(HB.out.cell (World.block_lt_of_cell? w _ hx182_0)).trans hx182_0
                    replace p182:=eq_true p182
                    replace q182:=eq_true q182
                    refine start_ (n:=51) (S:=fun w'=>w'.cell? ⟨gb181,0,none⟩ = some (.int .i64 ((rd_T27 l0_3 x71_3).f0)) ∧ w'.cell? ⟨gb181,1,none⟩ = some (.slice (some ad182) ((rd_T27 l0_3 x71_3).f1).length c180_1) ∧ w'.cell? ⟨gb162,0,none⟩ = some (.int .i64 a0_0) ∧ w'.cell? ⟨gb162,1,none⟩ = some (.int .i64 a0_1) ∧ w'.cell? ⟨gb162,2,none⟩ = some (.int .i64 a0_2) ∧ w'.cell? ⟨gb162,3,none⟩ = some (.slice (some ad180) l0_3.length c0_3) ∧ w'.cell? ad182 = some (.int .i64 (rd ((rd_T27 l0_3 x71_3).f1) 0))) (ds:=[]) bA0_ (by kernel_rfl) rfl rfl ⟨(blk_cell BK181.out 0).trans rfl,(blk_cell BK181.out 1).trans rfl,(blk_cell BK162.out 0).trans rfl,(blk_cell BK162.out 1).trans rfl,(blk_cell BK162.out 2).trans rfl,(blk_cell BK162.out 3).trans rfl,((HB.out.cell (World.block_lt_of_cell? w _ hw182_0)).trans hw182_0)⟩ (fun hHeld=>?_);refine with_tabW coppicerkeep_TableJoins.tab16 coppicerkeep_TableJoins.bits16 (fun HT_ HW_=>?_)
                    generalize w64.drew = w65 at HO_11 BK162 BK181 HB hx182_0 hHeld ⊢
                    refine pure_ (i:=0) (N:=some 75) (v:=?_) (a':=?_) bA1_ rfl rfl (any_of HT_.out (by kernel_rfl)) (fun _ _ _ h=>h) (Or.inl ⟨by rfl,?_⟩) ?_ ?_
                    rotate_left
                    ·intro w'
                     go_simp
                     with_reducible rfl
                    rotate_left
                    ·simp only [Act.put,List.setIfInBounds_toArray,List.set_cons_zero,List.set_cons_succ,i64_w,i32_w]
                     rfl
                    refine take_ (i:=1) (N:=some 76) (v:=?_) (a':=?_) bA2_ rfl rfl (take_ofW HT_.out HW_.out (by kernel_rfl)) (fun _ _ _ h=>h) (Or.inl ⟨by rfl,?_⟩) hHeld ?_ ?_
                    rotate_left
                    ·rintro w' ⟨s0,s1,s2,s3,s4,s5,s6⟩
                     go_simp
                     with_reducible rfl
                    rotate_left
                    ·simp only [Act.put,List.setIfInBounds_toArray,List.set_cons_zero,List.set_cons_succ,i64_w,i32_w]
                     rfl
                    refine pure_ (i:=2) (N:=some 77) (v:=?_) (a':=?_) bA3_ rfl rfl (any_of HT_.out (by kernel_rfl)) (fun _ _ _ h=>h) (Or.inl ⟨by rfl,?_⟩) ?_ ?_
                    rotate_left
                    ·intro w'
                     go_simp
                     with_reducible rfl
                    rotate_left
                    ·simp only [Act.put,List.setIfInBounds_toArray,List.set_cons_zero,List.set_cons_succ,i64_w,i32_w]
                     rfl
                    refine pure_ (i:=3) (N:=some 78) (v:=?_) (a':=?_) bA4_ rfl rfl (any_of HT_.out (by kernel_rfl)) (fun _ _ _ h=>h) (Or.inl ⟨by rfl,?_⟩) ?_ ?_
                    rotate_left
                    ·intro w'
                     go_simp
                     with_reducible rfl
                    rotate_left
                    ·simp only [Act.put,List.setIfInBounds_toArray,List.set_cons_zero,List.set_cons_succ,i64_w,i32_w]
                     rfl
                    refine pure_ (i:=4) (N:=some 79) (v:=?_) (a':=?_) bA5_ rfl rfl (any_of HT_.out (by kernel_rfl)) (fun _ _ _ h=>h) (Or.inl ⟨by rfl,?_⟩) ?_ ?_
                    rotate_left
                    ·intro w'
                     go_simp
                     with_reducible rfl
                    rotate_left
                    ·simp only [Act.put,List.setIfInBounds_toArray,List.set_cons_zero,List.set_cons_succ,i64_w,i32_w]
                     rfl
                    refine pure_ (i:=5) (N:=some 80) (v:=?_) (a':=?_) bA6_ rfl rfl (any_of HT_.out (by kernel_rfl)) (fun _ _ _ h=>h) (Or.inl ⟨by rfl,?_⟩) ?_ ?_
                    rotate_left
                    ·intro w'
                     go_simp
                     with_reducible rfl
                    rotate_left
                    ·simp only [Act.put,List.setIfInBounds_toArray,List.set_cons_zero,List.set_cons_succ,i64_w,i32_w]
                     rfl
                    refine pure_ (i:=9) (N:=some 84) (v:=?_) (a':=?_) bA7_ rfl rfl (any_of HT_.out (by kernel_rfl)) (fun _ _ _ h=>h) (Or.inl ⟨by rfl,?_⟩) ?_ ?_
                    rotate_left
                    ·intro w'
                     go_simp
                     with_reducible rfl
                    rotate_left
                    ·simp only [Act.put,List.setIfInBounds_toArray,List.set_cons_zero,List.set_cons_succ,i64_w,i32_w]
                     rfl
                    refine take_ (i:=6) (N:=some 81) (v:=?_) (a':=?_) bA8_ rfl rfl (take_ofW HT_.out HW_.out (by kernel_rfl)) (fun _ _ _ h=>h) (Or.inl ⟨by rfl,?_⟩) hHeld ?_ ?_
                    rotate_left
                    ·rintro w' ⟨s0,s1,s2,s3,s4,s5,s6⟩
                     go_simp
                     with_reducible rfl
                    rotate_left
                    ·simp only [Act.put,List.setIfInBounds_toArray,List.set_cons_zero,List.set_cons_succ,i64_w,i32_w]
                     rfl
                    refine pure_ (i:=7) (N:=some 82) (v:=?_) (a':=?_) bA9_ rfl rfl (any_of HT_.out (by kernel_rfl)) (fun _ _ _ h=>h) (Or.inl ⟨by rfl,?_⟩) ?_ ?_
                    rotate_left
                    ·intro w'
                     go_simp
                     with_reducible rfl
                    rotate_left
                    ·simp only [Act.put,List.setIfInBounds_toArray,List.set_cons_zero,List.set_cons_succ,i64_w,i32_w]
                     rfl
                    refine take_ (i:=8) (N:=some 83) (v:=?_) (a':=?_) bA10_ rfl rfl (take_ofW HT_.out HW_.out (by kernel_rfl)) (fun _ _ _ h=>h) (Or.inl ⟨by rfl,?_⟩) hHeld ?_ ?_
                    rotate_left
                    ·rintro w' ⟨s0,s1,s2,s3,s4,s5,s6⟩
                     go_simp
                     with_reducible rfl
                    rotate_left
                    ·simp only [Act.put,List.setIfInBounds_toArray,List.set_cons_zero,List.set_cons_succ,i64_w,i32_w]
                     rfl
                    refine take_ (i:=10) (N:=some 85) (v:=?_) (a':=?_) bA11_ rfl rfl (take_ofW HT_.out HW_.out (by kernel_rfl)) (fun _ _ _ h=>h) (Or.inl ⟨by rfl,?_⟩) hHeld ?_ ?_
                    rotate_left
                    ·rintro w' ⟨s0,s1,s2,s3,s4,s5,s6⟩
                     go_simp
                     with_reducible rfl
                    rotate_left
                    ·simp only [Act.put,List.setIfInBounds_toArray,List.set_cons_zero,List.set_cons_succ,i64_w,i32_w]
                     rfl
                    refine pure_ (i:=11) (N:=some 86) (v:=?_) (a':=?_) bA12_ rfl rfl (any_of HT_.out (by kernel_rfl)) (fun _ _ _ h=>h) (Or.inl ⟨by rfl,?_⟩) ?_ ?_
                    rotate_left
                    ·intro w'
                     go_simp
                     with_reducible rfl
                    rotate_left
                    ·simp only [Act.put,List.setIfInBounds_toArray,List.set_cons_zero,List.set_cons_succ,i64_w,i32_w]
                     rfl
                    refine pure_ (i:=12) (N:=some 87) (v:=?_) (a':=?_) bA13_ rfl rfl (any_of HT_.out (by kernel_rfl)) (fun _ _ _ h=>h) (Or.inl ⟨by rfl,?_⟩) ?_ ?_
                    rotate_left
                    ·intro w'
                     go_simp
                     with_reducible rfl
                    rotate_left
                    ·simp only [Act.put,List.setIfInBounds_toArray,List.set_cons_zero,List.set_cons_succ,i64_w,i32_w]
                     rfl
                    refine pure_ (i:=13) (N:=some 88) (v:=?_) (a':=?_) bA14_ rfl rfl (any_of HT_.out (by kernel_rfl)) (fun _ _ _ h=>h) (Or.inl ⟨by rfl,?_⟩) ?_ ?_
                    rotate_left
                    ·intro w'
                     go_simp
                     with_reducible rfl
                    rotate_left
                    ·simp only [Act.put,List.setIfInBounds_toArray,List.set_cons_zero,List.set_cons_succ,i64_w,i32_w]
                     rfl
                    refine pure_ (i:=14) (N:=some 89) (v:=undef) (a':=?_) bA15_ rfl rfl (any_of HT_.out (by kernel_rfl)) (fun _ _ _ h=>h) (Or.inr ⟨by rfl,rfl⟩) ?_ ?_
                    rotate_left
                    ·simp only [Act.put,List.setIfInBounds_toArray,List.set_cons_zero,List.set_cons_succ,i64_w,i32_w]
                     rfl
                    refine pure_ (i:=15) (N:=some 90) (v:=undef) (a':=?_) bA58_ rfl rfl (any_of HT_.out (by kernel_rfl)) (fun _ _ _ h=>h) (Or.inr ⟨by rfl,rfl⟩) ?_ ?_
                    rotate_left
                    ·simp only [Act.put,List.setIfInBounds_toArray,List.set_cons_zero,List.set_cons_succ,i64_w,i32_w]
                     rfl
                    refine pure_ (i:=16) (N:=some 91) (v:=undef) (a':=?_) bA59_ rfl rfl (any_of HT_.out (by kernel_rfl)) (fun _ _ _ h=>h) (Or.inr ⟨by rfl,rfl⟩) ?_ ?_
                    rotate_left
                    ·simp only [Act.put,List.setIfInBounds_toArray,List.set_cons_zero,List.set_cons_succ,i64_w,i32_w]
                     rfl
                    refine pure_ (i:=17) (N:=some 92) (v:=undef) (a':=?_) bA60_ rfl rfl (any_of HT_.out (by kernel_rfl)) (fun _ _ _ h=>h) (Or.inr ⟨by rfl,rfl⟩) ?_ ?_
                    rotate_left
                    ·simp only [Act.put,List.setIfInBounds_toArray,List.set_cons_zero,List.set_cons_succ,i64_w,i32_w]
                     rfl
                    refine pure_ (i:=18) (N:=some 93) (v:=undef) (a':=?_) bA19_ rfl rfl (any_of HT_.out (by kernel_rfl)) (fun _ _ _ h=>h) (Or.inr ⟨by rfl,rfl⟩) ?_ ?_
                    rotate_left
                    ·simp only [Act.put,List.setIfInBounds_toArray,List.set_cons_zero,List.set_cons_succ,i64_w,i32_w]
                     rfl
                    refine pure_ (i:=19) (N:=some 94) (v:=undef) (a':=?_) bA20_ rfl rfl (any_of HT_.out (by kernel_rfl)) (fun _ _ _ h=>h) (Or.inr ⟨by rfl,rfl⟩) ?_ ?_
                    rotate_left
                    ·simp only [Act.put,List.setIfInBounds_toArray,List.set_cons_zero,List.set_cons_succ,i64_w,i32_w]
                     rfl
                    refine pure_ (i:=20) (N:=some 95) (v:=undef) (a':=?_) bA21_ rfl rfl (any_of HT_.out (by kernel_rfl)) (fun _ _ _ h=>h) (Or.inr ⟨by rfl,rfl⟩) ?_ ?_
                    rotate_left
                    ·simp only [Act.put,List.setIfInBounds_toArray,List.set_cons_zero,List.set_cons_succ,i64_w,i32_w]
                     rfl
                    refine pure_ (i:=21) (N:=some 96) (v:=?_) (a':=?_) bA22_ rfl rfl (any_of HT_.out (by kernel_rfl)) (fun _ _ _ h=>h) (Or.inl ⟨by rfl,?_⟩) ?_ ?_
                    rotate_left
                    ·intro w'
                     go_simp
                     with_reducible rfl
                    rotate_left
                    ·simp only [Act.put,List.setIfInBounds_toArray,List.set_cons_zero,List.set_cons_succ,i64_w,i32_w]
                     rfl
                    refine pure_ (i:=22) (N:=some 97) (v:=?_) (a':=?_) bA23_ rfl rfl (any_of HT_.out (by kernel_rfl)) (fun _ _ _ h=>h) (Or.inl ⟨by rfl,?_⟩) ?_ ?_
                    rotate_left
                    ·intro w'
                     go_simp
                     with_reducible rfl
                    rotate_left
                    ·simp only [Act.put,List.setIfInBounds_toArray,List.set_cons_zero,List.set_cons_succ,i64_w,i32_w]
                     rfl
                    refine pure_ (i:=23) (N:=some 98) (v:=undef) (a':=?_) bA24_ rfl rfl (any_of HT_.out (by kernel_rfl)) (fun _ _ _ h=>h) (Or.inr ⟨by rfl,rfl⟩) ?_ ?_
                    rotate_left
                    ·simp only [Act.put,List.setIfInBounds_toArray,List.set_cons_zero,List.set_cons_succ,i64_w,i32_w]
                     rfl
                    refine pure_ (i:=24) (N:=some 99) (v:=undef) (a':=?_) bA25_ rfl rfl (any_of HT_.out (by kernel_rfl)) (fun _ _ _ h=>h) (Or.inr ⟨by rfl,rfl⟩) ?_ ?_
                    rotate_left
                    ·simp only [Act.put,List.setIfInBounds_toArray,List.set_cons_zero,List.set_cons_succ,i64_w,i32_w]
                     rfl
                    refine pure_ (i:=25) (N:=some 100) (v:=undef) (a':=?_) bA55_ rfl rfl (any_of HT_.out (by kernel_rfl)) (fun _ _ _ h=>h) (Or.inr ⟨by rfl,rfl⟩) ?_ ?_
                    rotate_left
                    ·simp only [Act.put,List.setIfInBounds_toArray,List.set_cons_zero,List.set_cons_succ,i64_w,i32_w]
                     rfl
                    refine pure_ (i:=26) (N:=some 101) (v:=undef) (a':=?_) bA56_ rfl rfl (any_of HT_.out (by kernel_rfl)) (fun _ _ _ h=>h) (Or.inr ⟨by rfl,rfl⟩) ?_ ?_
                    rotate_left
                    ·simp only [Act.put,List.setIfInBounds_toArray,List.set_cons_zero,List.set_cons_succ,i64_w,i32_w]
                     rfl
                    refine pure_ (i:=27) (N:=some 102) (v:=undef) (a':=?_) bA57_ rfl rfl (any_of HT_.out (by kernel_rfl)) (fun _ _ _ h=>h) (Or.inr ⟨by rfl,rfl⟩) ?_ ?_
                    rotate_left
                    ·simp only [Act.put,List.setIfInBounds_toArray,List.set_cons_zero,List.set_cons_succ,i64_w,i32_w]
                     rfl
                    refine pure_ (i:=28) (N:=some 103) (v:=undef) (a':=?_) bA29_ rfl rfl (any_of HT_.out (by kernel_rfl)) (fun _ _ _ h=>h) (Or.inr ⟨by rfl,rfl⟩) ?_ ?_
                    rotate_left
                    ·simp only [Act.put,List.setIfInBounds_toArray,List.set_cons_zero,List.set_cons_succ,i64_w,i32_w]
                     rfl
                    refine pure_ (i:=29) (N:=some 104) (v:=undef) (a':=?_) bA30_ rfl rfl (any_of HT_.out (by kernel_rfl)) (fun _ _ _ h=>h) (Or.inr ⟨by rfl,rfl⟩) ?_ ?_
                    rotate_left
                    ·simp only [Act.put,List.setIfInBounds_toArray,List.set_cons_zero,List.set_cons_succ,i64_w,i32_w]
                     rfl
                    refine pure_ (i:=30) (N:=some 105) (v:=undef) (a':=?_) bA31_ rfl rfl (any_of HT_.out (by kernel_rfl)) (fun _ _ _ h=>h) (Or.inr ⟨by rfl,rfl⟩) ?_ ?_
                    rotate_left
                    ·simp only [Act.put,List.setIfInBounds_toArray,List.set_cons_zero,List.set_cons_succ,i64_w,i32_w]
                     rfl
                    refine pure_ (i:=31) (N:=some 106) (v:=undef) (a':=?_) bA32_ rfl rfl (any_of HT_.out (by kernel_rfl)) (fun _ _ _ h=>h) (Or.inr ⟨by rfl,rfl⟩) ?_ ?_
                    rotate_left
                    ·simp only [Act.put,List.setIfInBounds_toArray,List.set_cons_zero,List.set_cons_succ,i64_w,i32_w]
                     rfl
                    refine pure_ (i:=32) (N:=some 107) (v:=?_) (a':=?_) bA33_ rfl rfl (any_of HT_.out (by kernel_rfl)) (fun _ _ _ h=>h) (Or.inl ⟨by rfl,?_⟩) ?_ ?_
                    rotate_left
                    ·intro w'
                     go_simp
                     with_reducible rfl
                    rotate_left
                    ·simp only [Act.put,List.setIfInBounds_toArray,List.set_cons_zero,List.set_cons_succ,i64_w,i32_w]
                     rfl
                    refine pure_ (i:=33) (N:=some 108) (v:=?_) (a':=?_) bA34_ rfl rfl (any_of HT_.out (by kernel_rfl)) (fun _ _ _ h=>h) (Or.inl ⟨by rfl,?_⟩) ?_ ?_
                    rotate_left
                    ·intro w'
                     go_simp
                     with_reducible rfl
                    rotate_left
                    ·simp only [Act.put,List.setIfInBounds_toArray,List.set_cons_zero,List.set_cons_succ,i64_w,i32_w]
                     rfl
                    refine pure_ (i:=34) (N:=some 109) (v:=undef) (a':=?_) bA35_ rfl rfl (any_of HT_.out (by kernel_rfl)) (fun _ _ _ h=>h) (Or.inr ⟨by rfl,rfl⟩) ?_ ?_
                    rotate_left
                    ·simp only [Act.put,List.setIfInBounds_toArray,List.set_cons_zero,List.set_cons_succ,i64_w,i32_w]
                     rfl
                    refine pure_ (i:=35) (N:=some 110) (v:=undef) (a':=?_) bA36_ rfl rfl (any_of HT_.out (by kernel_rfl)) (fun _ _ _ h=>h) (Or.inr ⟨by rfl,rfl⟩) ?_ ?_
                    rotate_left
                    ·simp only [Act.put,List.setIfInBounds_toArray,List.set_cons_zero,List.set_cons_succ,i64_w,i32_w]
                     rfl
                    refine pure_ (i:=36) (N:=some 111) (v:=undef) (a':=?_) bA52_ rfl rfl (any_of HT_.out (by kernel_rfl)) (fun _ _ _ h=>h) (Or.inr ⟨by rfl,rfl⟩) ?_ ?_
                    rotate_left
                    ·simp only [Act.put,List.setIfInBounds_toArray,List.set_cons_zero,List.set_cons_succ,i64_w,i32_w]
                     rfl
                    refine pure_ (i:=37) (N:=some 112) (v:=undef) (a':=?_) bA53_ rfl rfl (any_of HT_.out (by kernel_rfl)) (fun _ _ _ h=>h) (Or.inr ⟨by rfl,rfl⟩) ?_ ?_
                    rotate_left
                    ·simp only [Act.put,List.setIfInBounds_toArray,List.set_cons_zero,List.set_cons_succ,i64_w,i32_w]
                     rfl
                    refine pure_ (i:=38) (N:=some 113) (v:=undef) (a':=?_) bA54_ rfl rfl (any_of HT_.out (by kernel_rfl)) (fun _ _ _ h=>h) (Or.inr ⟨by rfl,rfl⟩) ?_ ?_
                    rotate_left
                    ·simp only [Act.put,List.setIfInBounds_toArray,List.set_cons_zero,List.set_cons_succ,i64_w,i32_w]
                     rfl
                    refine pure_ (i:=39) (N:=some 114) (v:=undef) (a':=?_) bA40_ rfl rfl (any_of HT_.out (by kernel_rfl)) (fun _ _ _ h=>h) (Or.inr ⟨by rfl,rfl⟩) ?_ ?_
                    rotate_left
                    ·simp only [Act.put,List.setIfInBounds_toArray,List.set_cons_zero,List.set_cons_succ,i64_w,i32_w]
                     rfl
                    refine pure_ (i:=40) (N:=some 115) (v:=undef) (a':=?_) bA41_ rfl rfl (any_of HT_.out (by kernel_rfl)) (fun _ _ _ h=>h) (Or.inr ⟨by rfl,rfl⟩) ?_ ?_
                    rotate_left
                    ·simp only [Act.put,List.setIfInBounds_toArray,List.set_cons_zero,List.set_cons_succ,i64_w,i32_w]
                     rfl
                    refine pure_ (i:=41) (N:=some 116) (v:=undef) (a':=?_) bA42_ rfl rfl (any_of HT_.out (by kernel_rfl)) (fun _ _ _ h=>h) (Or.inr ⟨by rfl,rfl⟩) ?_ ?_
                    rotate_left
                    ·simp only [Act.put,List.setIfInBounds_toArray,List.set_cons_zero,List.set_cons_succ,i64_w,i32_w]
                     rfl
                    refine pure_ (i:=42) (N:=some 117) (v:=undef) (a':=?_) bA43_ rfl rfl (any_of HT_.out (by kernel_rfl)) (fun _ _ _ h=>h) (Or.inr ⟨by rfl,rfl⟩) ?_ ?_
                    rotate_left
                    ·simp only [Act.put,List.setIfInBounds_toArray,List.set_cons_zero,List.set_cons_succ,i64_w,i32_w]
                     rfl
                    refine pure_ (i:=43) (N:=some 118) (v:=?_) (a':=?_) bA44_ rfl rfl (any_of HT_.out (by kernel_rfl)) (fun _ _ _ h=>h) (Or.inl ⟨by rfl,?_⟩) ?_ ?_
                    rotate_left
                    ·intro w'
                     go_simp
                     with_reducible rfl
                    rotate_left
                    ·simp only [Act.put,List.setIfInBounds_toArray,List.set_cons_zero,List.set_cons_succ,i64_w,i32_w]
                     rfl
                    refine pure_ (i:=44) (N:=some 119) (v:=?_) (a':=?_) bA45_ rfl rfl (any_of HT_.out (by kernel_rfl)) (fun _ _ _ h=>h) (Or.inl ⟨by rfl,?_⟩) ?_ ?_
                    rotate_left
                    ·intro w'
                     go_simp
                     with_reducible rfl
                    rotate_left
                    ·simp only [Act.put,List.setIfInBounds_toArray,List.set_cons_zero,List.set_cons_succ,i64_w,i32_w]
                     rfl
                    refine pure_ (i:=45) (N:=some 120) (v:=undef) (a':=?_) bA46_ rfl rfl (any_of HT_.out (by kernel_rfl)) (fun _ _ _ h=>h) (Or.inr ⟨by rfl,rfl⟩) ?_ ?_
                    rotate_left
                    ·simp only [Act.put,List.setIfInBounds_toArray,List.set_cons_zero,List.set_cons_succ,i64_w,i32_w]
                     rfl
                    refine pure_ (i:=46) (N:=some 121) (v:=undef) (a':=?_) bA47_ rfl rfl (any_of HT_.out (by kernel_rfl)) (fun _ _ _ h=>h) (Or.inr ⟨by rfl,rfl⟩) ?_ ?_
                    rotate_left
                    ·simp only [Act.put,List.setIfInBounds_toArray,List.set_cons_zero,List.set_cons_succ,i64_w,i32_w]
                     rfl
                    refine pure_ (i:=47) (N:=some 122) (v:=undef) (a':=?_) bA48_ rfl rfl (any_of HT_.out (by kernel_rfl)) (fun _ _ _ h=>h) (Or.inr ⟨by rfl,rfl⟩) ?_ ?_
                    rotate_left
                    ·simp only [Act.put,List.setIfInBounds_toArray,List.set_cons_zero,List.set_cons_succ,i64_w,i32_w]
                     rfl
                    refine pure_ (i:=48) (N:=some 123) (v:=undef) (a':=?_) bA49_ rfl rfl (any_of HT_.out (by kernel_rfl)) (fun _ _ _ h=>h) (Or.inr ⟨by rfl,rfl⟩) ?_ ?_
                    rotate_left
                    ·simp only [Act.put,List.setIfInBounds_toArray,List.set_cons_zero,List.set_cons_succ,i64_w,i32_w]
                     rfl
                    refine pure_ (i:=49) (N:=some 124) (v:=undef) (a':=?_) bA50_ rfl rfl (any_of HT_.out (by kernel_rfl)) (fun _ _ _ h=>h) (Or.inr ⟨by rfl,rfl⟩) ?_ ?_
                    rotate_left
                    ·simp only [Act.put,List.setIfInBounds_toArray,List.set_cons_zero,List.set_cons_succ,i64_w,i32_w]
                     rfl
                    refine pure_ (i:=50) (N:=some 125) (v:=?_) (a':=?_) bA51_ rfl rfl (any_of HT_.out (by kernel_rfl)) (fun _ _ _ h=>h) (Or.inl ⟨by rfl,?_⟩) ?_ ?_
                    rotate_left
                    ·intro w'
                     go_simp
                     with_reducible rfl
                    rotate_left
                    ·simp only [Act.put,List.setIfInBounds_toArray,List.set_cons_zero,List.set_cons_succ,i64_w,i32_w]
                     rfl
                    refine done_ (done_of HT_.out (by kernel_rfl)) ?_
                    try go_wp2
                    go_meet
                    case rel=>exact ⟨_,(false),(by first|rfl|(simp;done)|(simp [*];done)),H',⟨by have:=HJ5.out;have:=HJ25.out;have:=HK3.out;first|omega|exact Nat.le_refl _⟩,⟨by (with_reducible repeat (first|apply Kd.R_alloc|apply Kd.R_drewN|apply Kd.R_drew));exact HO_11.out⟩,⟨by (with_reducible repeat (first|refine blk_drewN ?_ _|refine blk_drew ?_|refine blk_alloc ?_ _));exact BK162.out⟩,⟨by (with_reducible repeat (first|refine blk_drewN ?_ _|refine blk_drew ?_|refine blk_alloc ?_ _));exact BK181.out⟩,⟨by repeat (first|(with_reducible first|exact HB.out|apply below_alloc|apply pw_below_drewN|apply below_drew1|refine below_set ?_ GE162.out|refine below_set ?_ GE181.out)|exact HB.out)⟩⟩
                  ·rw [if_neg c47] at H
                   exact absurd H (by simp)
                 ·rw [if_neg c46] at H
                  have c46b0 : ((((rd_T27 l0_3 x71_3).f1).length : Int) == 2) = false:=beq_eq_false_iff_ne.mpr c46
                  have c46b1 : ((((rd_T27 l0_3 x71_3).f1).length : Int) != 2) = true:=bne_iff_ne.mpr c46
                  (first|rw [c46b0]|(simp only [i64_w,i32_w];rw [c46b0])|skip)
                  have H':=Aside0.mk H
                  clear H
                  try go_wp2
                  have n0_ : Aside0 (Kd.R (Kd.int .i64) 3 ((w43.setCell ⟨gb181,0,none⟩ (.int .i64 ((rd_T27 l0_3 x71_3).f0))).setCell ⟨gb181,1,none⟩ (.slice A180_1 ((rd_T27 l0_3 x71_3).f1).length c180_1)) w.heap.size (fun _=>True) (.slice Ao32 y175.length co32) y175):=⟨by (with_reducible repeat (first|apply Kd.R_alloc|apply Kd.R_drewN|apply Kd.R_drew));exact Kd.R_mono (Kd.R_far (p:=⟨gb181,1,none⟩) (Kd.R_far (p:=⟨gb181,0,none⟩) (Kd.R_types HO_11.out BK181.out (by decide)) (fun _ hk=>hk.2) (.int .i64 ((rd_T27 l0_3 x71_3).f0))) (fun _ hk=>hk.2) (.slice A180_1 ((rd_T27 l0_3 x71_3).f1).length c180_1)) (fun _ hk=>trivial)⟩
                  have n1_ : Aside0 (((w43.setCell ⟨gb181,0,none⟩ (.int .i64 ((rd_T27 l0_3 x71_3).f0))).setCell ⟨gb181,1,none⟩ (.slice A180_1 ((rd_T27 l0_3 x71_3).f1).length c180_1)).heap[gb162]? = some (.cells #[.int .i64 a0_0,.int .i64 a0_1,.int .i64 a0_2,.slice (some ad180) l0_3.length c0_3] 24 (0,0))):=⟨by (with_reducible repeat (first|refine blk_drewN ?_ _|refine blk_drew ?_|refine blk_alloc ?_ _));refine blk_far ?_ NB162_181.out _;(with_reducible repeat (first|refine blk_drewN ?_ _|refine blk_drew ?_|refine blk_alloc ?_ _));refine blk_far ?_ NB162_181.out _;(with_reducible repeat (first|refine blk_drewN ?_ _|refine blk_drew ?_|refine blk_alloc ?_ _));exact BK162.out⟩
                  have n2_ : Aside0 (((w43.setCell ⟨gb181,0,none⟩ (.int .i64 ((rd_T27 l0_3 x71_3).f0))).setCell ⟨gb181,1,none⟩ (.slice A180_1 ((rd_T27 l0_3 x71_3).f1).length c180_1)).heap[gb181]? = some (.cells #[.int .i64 ((rd_T27 l0_3 x71_3).f0),.slice A180_1 ((rd_T27 l0_3 x71_3).f1).length c180_1] 27 (0,0))):=⟨by (with_reducible repeat (first|refine blk_drewN ?_ _|refine blk_drew ?_|refine blk_alloc ?_ _));refine blk_put (cs:=#[.int .i64 ((rd_T27 l0_3 x71_3).f0),.slice none 0 0]) ?_ 1 _ rfl;(with_reducible repeat (first|refine blk_drewN ?_ _|refine blk_drew ?_|refine blk_alloc ?_ _));refine blk_put (cs:=#[.int .i64 0,.slice none 0 0]) ?_ 0 _ rfl;(with_reducible repeat (first|refine blk_drewN ?_ _|refine blk_drew ?_|refine blk_alloc ?_ _));exact BK181.out⟩
                  have n3_ : Aside0 (Below w.heap.size w ((w43.setCell ⟨gb181,0,none⟩ (.int .i64 ((rd_T27 l0_3 x71_3).f0))).setCell ⟨gb181,1,none⟩ (.slice A180_1 ((rd_T27 l0_3 x71_3).f1).length c180_1))):=⟨by repeat (first|(with_reducible first|exact HB.out|apply below_alloc|apply pw_below_drewN|apply below_drew1|refine below_set ?_ GE162.out|refine below_set ?_ GE181.out)|exact HB.out)⟩
                  (try clear HO_11)
                  (try clear BK162)
                  (try clear BK181)
                  (try clear HB)
                  generalize ((w43.setCell ⟨gb181,0,none⟩ (.int .i64 ((rd_T27 l0_3 x71_3).f0))).setCell ⟨gb181,1,none⟩ (.slice A180_1 ((rd_T27 l0_3 x71_3).f1).length c180_1)) = w66 at n0_ n1_ n2_ n3_ ⊢
                  have HO_11:=n0_
                  have BK162:=n1_
                  have BK181:=n2_
                  have HB:=n3_
                  clear n0_ n1_ n2_ n3_
                  have n0_:=Aside0.mk (Kd.R_drew HO_11.out)
                  have n1_:=Aside0.mk (blk_drew BK162.out)
                  have n2_:=Aside0.mk (blk_drew BK181.out)
                  have n3_:=Aside0.mk (below_drew1 HB.out)
                  clear HO_11
                  clear BK162
                  clear BK181
                  clear HB
                  have HO_11:=n0_
                  have BK162:=n1_
                  have BK181:=n2_
                  have HB:=n3_
                  clear n0_ n1_ n2_ n3_
                  refine start_ (n:=51) (S:=fun w'=>w'.cell? ⟨gb181,0,none⟩ = some (.int .i64 ((rd_T27 l0_3 x71_3).f0)) ∧ w'.cell? ⟨gb181,1,none⟩ = some (.slice A180_1 ((rd_T27 l0_3 x71_3).f1).length c180_1)) (ds:=[]) bA0_ (by kernel_rfl) rfl rfl ⟨(blk_cell BK181.out 0).trans rfl,(blk_cell BK181.out 1).trans rfl⟩ (fun hHeld=>?_);refine with_tabW coppicerkeep_TableJoins.tab16 coppicerkeep_TableJoins.bits16 (fun HT_ HW_=>?_)
                  generalize w66.drew = w67 at HO_11 BK162 BK181 HB hHeld ⊢
                  refine pure_ (i:=0) (N:=some 75) (v:=?_) (a':=?_) bA1_ rfl rfl (any_of HT_.out (by kernel_rfl)) (fun _ _ _ h=>h) (Or.inl ⟨by rfl,?_⟩) ?_ ?_
                  rotate_left
                  ·intro w'
                   go_simp
                   with_reducible rfl
                  rotate_left
                  ·simp only [Act.put,List.setIfInBounds_toArray,List.set_cons_zero,List.set_cons_succ,i64_w,i32_w]
                   rfl
                  refine take_ (i:=1) (N:=some 76) (v:=?_) (a':=?_) bA2_ rfl rfl (take_ofW HT_.out HW_.out (by kernel_rfl)) (fun _ _ _ h=>h) (Or.inl ⟨by rfl,?_⟩) hHeld ?_ ?_
                  rotate_left
                  ·rintro w' ⟨s0,s1⟩
                   go_simp
                   with_reducible rfl
                  rotate_left
                  ·simp only [Act.put,List.setIfInBounds_toArray,List.set_cons_zero,List.set_cons_succ,i64_w,i32_w]
                   rfl
                  refine pure_ (i:=2) (N:=some 77) (v:=?_) (a':=?_) bA3_ rfl rfl (any_of HT_.out (by kernel_rfl)) (fun _ _ _ h=>h) (Or.inl ⟨by rfl,?_⟩) ?_ ?_
                  rotate_left
                  ·intro w'
                   go_simp
                   with_reducible rfl
                  rotate_left
                  ·simp only [Act.put,List.setIfInBounds_toArray,List.set_cons_zero,List.set_cons_succ,i64_w,i32_w]
                   rfl
                  refine pure_ (i:=3) (N:=some 78) (v:=?_) (a':=?_) bA4_ rfl rfl (any_of HT_.out (by kernel_rfl)) (fun _ _ _ h=>h) (Or.inl ⟨by rfl,?_⟩) ?_ ?_
                  rotate_left
                  ·intro w'
                   go_simp
                   with_reducible rfl
                  rotate_left
                  ·simp only [Act.put,List.setIfInBounds_toArray,List.set_cons_zero,List.set_cons_succ,i64_w,i32_w]
                   rfl
                  refine pure_ (i:=4) (N:=some 79) (v:=?_) (a':=?_) bA5_ rfl rfl (any_of HT_.out (by kernel_rfl)) (fun _ _ _ h=>h) (Or.inl ⟨by rfl,?_⟩) ?_ ?_
                  rotate_left
                  ·intro w'
                   go_simp
                   with_reducible rfl
                  rotate_left
                  ·simp only [Act.put,List.setIfInBounds_toArray,List.set_cons_zero,List.set_cons_succ,i64_w,i32_w]
                   rfl
                  refine pure_ (i:=5) (N:=some 80) (v:=undef) (a':=?_) bA6_ rfl rfl (any_of HT_.out (by kernel_rfl)) (fun _ _ _ h=>h) (Or.inr ⟨by rfl,rfl⟩) ?_ ?_
                  rotate_left
                  ·simp only [Act.put,List.setIfInBounds_toArray,List.set_cons_zero,List.set_cons_succ,i64_w,i32_w]
                   rfl
                  refine pure_ (i:=6) (N:=some 81) (v:=undef) (a':=?_) bA61_ rfl rfl (any_of HT_.out (by kernel_rfl)) (fun _ _ _ h=>h) (Or.inr ⟨by rfl,rfl⟩) ?_ ?_
                  rotate_left
                  ·simp only [Act.put,List.setIfInBounds_toArray,List.set_cons_zero,List.set_cons_succ,i64_w,i32_w]
                   rfl
                  refine pure_ (i:=7) (N:=some 82) (v:=undef) (a':=?_) bA62_ rfl rfl (any_of HT_.out (by kernel_rfl)) (fun _ _ _ h=>h) (Or.inr ⟨by rfl,rfl⟩) ?_ ?_
                  rotate_left
                  ·simp only [Act.put,List.setIfInBounds_toArray,List.set_cons_zero,List.set_cons_succ,i64_w,i32_w]
                   rfl
                  refine pure_ (i:=8) (N:=some 83) (v:=undef) (a':=?_) bA63_ rfl rfl (any_of HT_.out (by kernel_rfl)) (fun _ _ _ h=>h) (Or.inr ⟨by rfl,rfl⟩) ?_ ?_
                  rotate_left
                  ·simp only [Act.put,List.setIfInBounds_toArray,List.set_cons_zero,List.set_cons_succ,i64_w,i32_w]
                   rfl
                  refine pure_ (i:=9) (N:=some 84) (v:=undef) (a':=?_) bA10_ rfl rfl (any_of HT_.out (by kernel_rfl)) (fun _ _ _ h=>h) (Or.inr ⟨by rfl,rfl⟩) ?_ ?_
                  rotate_left
                  ·simp only [Act.put,List.setIfInBounds_toArray,List.set_cons_zero,List.set_cons_succ,i64_w,i32_w]
                   rfl
                  refine pure_ (i:=10) (N:=some 85) (v:=undef) (a':=?_) bA11_ rfl rfl (any_of HT_.out (by kernel_rfl)) (fun _ _ _ h=>h) (Or.inr ⟨by rfl,rfl⟩) ?_ ?_
                  rotate_left
                  ·simp only [Act.put,List.setIfInBounds_toArray,List.set_cons_zero,List.set_cons_succ,i64_w,i32_w]
                   rfl
                  refine pure_ (i:=11) (N:=some 86) (v:=undef) (a':=?_) bA12_ rfl rfl (any_of HT_.out (by kernel_rfl)) (fun _ _ _ h=>h) (Or.inr ⟨by rfl,rfl⟩) ?_ ?_
                  rotate_left
                  ·simp only [Act.put,List.setIfInBounds_toArray,List.set_cons_zero,List.set_cons_succ,i64_w,i32_w]
                   rfl
                  refine pure_ (i:=12) (N:=some 87) (v:=?_) (a':=?_) bA13_ rfl rfl (any_of HT_.out (by kernel_rfl)) (fun _ _ _ h=>h) (Or.inl ⟨by rfl,?_⟩) ?_ ?_
                  rotate_left
                  ·intro w'
                   go_simp
                   with_reducible rfl
                  rotate_left
                  ·simp only [Act.put,List.setIfInBounds_toArray,List.set_cons_zero,List.set_cons_succ,i64_w,i32_w]
                   rfl
                  refine pure_ (i:=13) (N:=some 88) (v:=?_) (a':=?_) bA14_ rfl rfl (any_of HT_.out (by kernel_rfl)) (fun _ _ _ h=>h) (Or.inl ⟨by rfl,?_⟩) ?_ ?_
                  rotate_left
                  ·intro w'
                   go_simp
                   with_reducible rfl
                  rotate_left
                  ·simp only [Act.put,List.setIfInBounds_toArray,List.set_cons_zero,List.set_cons_succ,i64_w,i32_w]
                   rfl
                  refine pure_ (i:=14) (N:=some 89) (v:=undef) (a':=?_) bA15_ rfl rfl (any_of HT_.out (by kernel_rfl)) (fun _ _ _ h=>h) (Or.inr ⟨by rfl,rfl⟩) ?_ ?_
                  rotate_left
                  ·simp only [Act.put,List.setIfInBounds_toArray,List.set_cons_zero,List.set_cons_succ,i64_w,i32_w]
                   rfl
                  refine pure_ (i:=15) (N:=some 90) (v:=undef) (a':=?_) bA58_ rfl rfl (any_of HT_.out (by kernel_rfl)) (fun _ _ _ h=>h) (Or.inr ⟨by rfl,rfl⟩) ?_ ?_
                  rotate_left
                  ·simp only [Act.put,List.setIfInBounds_toArray,List.set_cons_zero,List.set_cons_succ,i64_w,i32_w]
                   rfl
                  refine pure_ (i:=16) (N:=some 91) (v:=undef) (a':=?_) bA59_ rfl rfl (any_of HT_.out (by kernel_rfl)) (fun _ _ _ h=>h) (Or.inr ⟨by rfl,rfl⟩) ?_ ?_
                  rotate_left
                  ·simp only [Act.put,List.setIfInBounds_toArray,List.set_cons_zero,List.set_cons_succ,i64_w,i32_w]
                   rfl
                  refine pure_ (i:=17) (N:=some 92) (v:=undef) (a':=?_) bA60_ rfl rfl (any_of HT_.out (by kernel_rfl)) (fun _ _ _ h=>h) (Or.inr ⟨by rfl,rfl⟩) ?_ ?_
                  rotate_left
                  ·simp only [Act.put,List.setIfInBounds_toArray,List.set_cons_zero,List.set_cons_succ,i64_w,i32_w]
                   rfl
                  refine pure_ (i:=18) (N:=some 93) (v:=undef) (a':=?_) bA19_ rfl rfl (any_of HT_.out (by kernel_rfl)) (fun _ _ _ h=>h) (Or.inr ⟨by rfl,rfl⟩) ?_ ?_
                  rotate_left
                  ·simp only [Act.put,List.setIfInBounds_toArray,List.set_cons_zero,List.set_cons_succ,i64_w,i32_w]
                   rfl
                  refine pure_ (i:=19) (N:=some 94) (v:=undef) (a':=?_) bA20_ rfl rfl (any_of HT_.out (by kernel_rfl)) (fun _ _ _ h=>h) (Or.inr ⟨by rfl,rfl⟩) ?_ ?_
                  rotate_left
                  ·simp only [Act.put,List.setIfInBounds_toArray,List.set_cons_zero,List.set_cons_succ,i64_w,i32_w]
                   rfl
                  refine pure_ (i:=20) (N:=some 95) (v:=undef) (a':=?_) bA21_ rfl rfl (any_of HT_.out (by kernel_rfl)) (fun _ _ _ h=>h) (Or.inr ⟨by rfl,rfl⟩) ?_ ?_
                  rotate_left
                  ·simp only [Act.put,List.setIfInBounds_toArray,List.set_cons_zero,List.set_cons_succ,i64_w,i32_w]
                   rfl
                  refine pure_ (i:=21) (N:=some 96) (v:=?_) (a':=?_) bA22_ rfl rfl (any_of HT_.out (by kernel_rfl)) (fun _ _ _ h=>h) (Or.inl ⟨by rfl,?_⟩) ?_ ?_
                  rotate_left
                  ·intro w'
                   go_simp
                   with_reducible rfl
                  rotate_left
                  ·simp only [Act.put,List.setIfInBounds_toArray,List.set_cons_zero,List.set_cons_succ,i64_w,i32_w]
                   rfl
                  refine pure_ (i:=22) (N:=some 97) (v:=?_) (a':=?_) bA23_ rfl rfl (any_of HT_.out (by kernel_rfl)) (fun _ _ _ h=>h) (Or.inl ⟨by rfl,?_⟩) ?_ ?_
                  rotate_left
                  ·intro w'
                   go_simp
                   with_reducible rfl
                  rotate_left
                  ·simp only [Act.put,List.setIfInBounds_toArray,List.set_cons_zero,List.set_cons_succ,i64_w,i32_w]
                   rfl
                  refine pure_ (i:=23) (N:=some 98) (v:=undef) (a':=?_) bA24_ rfl rfl (any_of HT_.out (by kernel_rfl)) (fun _ _ _ h=>h) (Or.inr ⟨by rfl,rfl⟩) ?_ ?_
                  rotate_left
                  ·simp only [Act.put,List.setIfInBounds_toArray,List.set_cons_zero,List.set_cons_succ,i64_w,i32_w]
                   rfl
                  refine pure_ (i:=24) (N:=some 99) (v:=undef) (a':=?_) bA25_ rfl rfl (any_of HT_.out (by kernel_rfl)) (fun _ _ _ h=>h) (Or.inr ⟨by rfl,rfl⟩) ?_ ?_
                  rotate_left
                  ·simp only [Act.put,List.setIfInBounds_toArray,List.set_cons_zero,List.set_cons_succ,i64_w,i32_w]
                   rfl
                  refine pure_ (i:=25) (N:=some 100) (v:=undef) (a':=?_) bA55_ rfl rfl (any_of HT_.out (by kernel_rfl)) (fun _ _ _ h=>h) (Or.inr ⟨by rfl,rfl⟩) ?_ ?_
                  rotate_left
                  ·simp only [Act.put,List.setIfInBounds_toArray,List.set_cons_zero,List.set_cons_succ,i64_w,i32_w]
                   rfl
                  refine pure_ (i:=26) (N:=some 101) (v:=undef) (a':=?_) bA56_ rfl rfl (any_of HT_.out (by kernel_rfl)) (fun _ _ _ h=>h) (Or.inr ⟨by rfl,rfl⟩) ?_ ?_
                  rotate_left
                  ·simp only [Act.put,List.setIfInBounds_toArray,List.set_cons_zero,List.set_cons_succ,i64_w,i32_w]
                   rfl
                  refine pure_ (i:=27) (N:=some 102) (v:=undef) (a':=?_) bA57_ rfl rfl (any_of HT_.out (by kernel_rfl)) (fun _ _ _ h=>h) (Or.inr ⟨by rfl,rfl⟩) ?_ ?_
                  rotate_left
                  ·simp only [Act.put,List.setIfInBounds_toArray,List.set_cons_zero,List.set_cons_succ,i64_w,i32_w]
                   rfl
                  refine pure_ (i:=28) (N:=some 103) (v:=undef) (a':=?_) bA29_ rfl rfl (any_of HT_.out (by kernel_rfl)) (fun _ _ _ h=>h) (Or.inr ⟨by rfl,rfl⟩) ?_ ?_
                  rotate_left
                  ·simp only [Act.put,List.setIfInBounds_toArray,List.set_cons_zero,List.set_cons_succ,i64_w,i32_w]
                   rfl
                  refine pure_ (i:=29) (N:=some 104) (v:=undef) (a':=?_) bA30_ rfl rfl (any_of HT_.out (by kernel_rfl)) (fun _ _ _ h=>h) (Or.inr ⟨by rfl,rfl⟩) ?_ ?_
                  rotate_left
                  ·simp only [Act.put,List.setIfInBounds_toArray,List.set_cons_zero,List.set_cons_succ,i64_w,i32_w]
                   rfl
                  refine pure_ (i:=30) (N:=some 105) (v:=undef) (a':=?_) bA31_ rfl rfl (any_of HT_.out (by kernel_rfl)) (fun _ _ _ h=>h) (Or.inr ⟨by rfl,rfl⟩) ?_ ?_
                  rotate_left
                  ·simp only [Act.put,List.setIfInBounds_toArray,List.set_cons_zero,List.set_cons_succ,i64_w,i32_w]
                   rfl
                  refine pure_ (i:=31) (N:=some 106) (v:=undef) (a':=?_) bA32_ rfl rfl (any_of HT_.out (by kernel_rfl)) (fun _ _ _ h=>h) (Or.inr ⟨by rfl,rfl⟩) ?_ ?_
                  rotate_left
                  ·simp only [Act.put,List.setIfInBounds_toArray,List.set_cons_zero,List.set_cons_succ,i64_w,i32_w]
                   rfl
                  refine pure_ (i:=32) (N:=some 107) (v:=?_) (a':=?_) bA33_ rfl rfl (any_of HT_.out (by kernel_rfl)) (fun _ _ _ h=>h) (Or.inl ⟨by rfl,?_⟩) ?_ ?_
                  rotate_left
                  ·intro w'
                   go_simp
                   with_reducible rfl
                  rotate_left
                  ·simp only [Act.put,List.setIfInBounds_toArray,List.set_cons_zero,List.set_cons_succ,i64_w,i32_w]
                   rfl
                  refine pure_ (i:=33) (N:=some 108) (v:=?_) (a':=?_) bA34_ rfl rfl (any_of HT_.out (by kernel_rfl)) (fun _ _ _ h=>h) (Or.inl ⟨by rfl,?_⟩) ?_ ?_
                  rotate_left
                  ·intro w'
                   go_simp
                   with_reducible rfl
                  rotate_left
                  ·simp only [Act.put,List.setIfInBounds_toArray,List.set_cons_zero,List.set_cons_succ,i64_w,i32_w]
                   rfl
                  refine pure_ (i:=34) (N:=some 109) (v:=undef) (a':=?_) bA35_ rfl rfl (any_of HT_.out (by kernel_rfl)) (fun _ _ _ h=>h) (Or.inr ⟨by rfl,rfl⟩) ?_ ?_
                  rotate_left
                  ·simp only [Act.put,List.setIfInBounds_toArray,List.set_cons_zero,List.set_cons_succ,i64_w,i32_w]
                   rfl
                  refine pure_ (i:=35) (N:=some 110) (v:=undef) (a':=?_) bA36_ rfl rfl (any_of HT_.out (by kernel_rfl)) (fun _ _ _ h=>h) (Or.inr ⟨by rfl,rfl⟩) ?_ ?_
                  rotate_left
                  ·simp only [Act.put,List.setIfInBounds_toArray,List.set_cons_zero,List.set_cons_succ,i64_w,i32_w]
                   rfl
                  refine pure_ (i:=36) (N:=some 111) (v:=undef) (a':=?_) bA52_ rfl rfl (any_of HT_.out (by kernel_rfl)) (fun _ _ _ h=>h) (Or.inr ⟨by rfl,rfl⟩) ?_ ?_
                  rotate_left
                  ·simp only [Act.put,List.setIfInBounds_toArray,List.set_cons_zero,List.set_cons_succ,i64_w,i32_w]
                   rfl
                  refine pure_ (i:=37) (N:=some 112) (v:=undef) (a':=?_) bA53_ rfl rfl (any_of HT_.out (by kernel_rfl)) (fun _ _ _ h=>h) (Or.inr ⟨by rfl,rfl⟩) ?_ ?_
                  rotate_left
                  ·simp only [Act.put,List.setIfInBounds_toArray,List.set_cons_zero,List.set_cons_succ,i64_w,i32_w]
                   rfl
                  refine pure_ (i:=38) (N:=some 113) (v:=undef) (a':=?_) bA54_ rfl rfl (any_of HT_.out (by kernel_rfl)) (fun _ _ _ h=>h) (Or.inr ⟨by rfl,rfl⟩) ?_ ?_
                  rotate_left
                  ·simp only [Act.put,List.setIfInBounds_toArray,List.set_cons_zero,List.set_cons_succ,i64_w,i32_w]
                   rfl
                  refine pure_ (i:=39) (N:=some 114) (v:=undef) (a':=?_) bA40_ rfl rfl (any_of HT_.out (by kernel_rfl)) (fun _ _ _ h=>h) (Or.inr ⟨by rfl,rfl⟩) ?_ ?_
                  rotate_left
                  ·simp only [Act.put,List.setIfInBounds_toArray,List.set_cons_zero,List.set_cons_succ,i64_w,i32_w]
                   rfl
                  refine pure_ (i:=40) (N:=some 115) (v:=undef) (a':=?_) bA41_ rfl rfl (any_of HT_.out (by kernel_rfl)) (fun _ _ _ h=>h) (Or.inr ⟨by rfl,rfl⟩) ?_ ?_
                  rotate_left
                  ·simp only [Act.put,List.setIfInBounds_toArray,List.set_cons_zero,List.set_cons_succ,i64_w,i32_w]
                   rfl
                  refine pure_ (i:=41) (N:=some 116) (v:=undef) (a':=?_) bA42_ rfl rfl (any_of HT_.out (by kernel_rfl)) (fun _ _ _ h=>h) (Or.inr ⟨by rfl,rfl⟩) ?_ ?_
                  rotate_left
                  ·simp only [Act.put,List.setIfInBounds_toArray,List.set_cons_zero,List.set_cons_succ,i64_w,i32_w]
                   rfl
                  refine pure_ (i:=42) (N:=some 117) (v:=undef) (a':=?_) bA43_ rfl rfl (any_of HT_.out (by kernel_rfl)) (fun _ _ _ h=>h) (Or.inr ⟨by rfl,rfl⟩) ?_ ?_
                  rotate_left
                  ·simp only [Act.put,List.setIfInBounds_toArray,List.set_cons_zero,List.set_cons_succ,i64_w,i32_w]
                   rfl
                  refine pure_ (i:=43) (N:=some 118) (v:=?_) (a':=?_) bA44_ rfl rfl (any_of HT_.out (by kernel_rfl)) (fun _ _ _ h=>h) (Or.inl ⟨by rfl,?_⟩) ?_ ?_
                  rotate_left
                  ·intro w'
                   go_simp
                   with_reducible rfl
                  rotate_left
                  ·simp only [Act.put,List.setIfInBounds_toArray,List.set_cons_zero,List.set_cons_succ,i64_w,i32_w]
                   rfl
                  refine pure_ (i:=44) (N:=some 119) (v:=?_) (a':=?_) bA45_ rfl rfl (any_of HT_.out (by kernel_rfl)) (fun _ _ _ h=>h) (Or.inl ⟨by rfl,?_⟩) ?_ ?_
                  rotate_left
                  ·intro w'
                   go_simp
                   with_reducible rfl
                  rotate_left
                  ·simp only [Act.put,List.setIfInBounds_toArray,List.set_cons_zero,List.set_cons_succ,i64_w,i32_w]
                   rfl
                  refine pure_ (i:=45) (N:=some 120) (v:=undef) (a':=?_) bA46_ rfl rfl (any_of HT_.out (by kernel_rfl)) (fun _ _ _ h=>h) (Or.inr ⟨by rfl,rfl⟩) ?_ ?_
                  rotate_left
                  ·simp only [Act.put,List.setIfInBounds_toArray,List.set_cons_zero,List.set_cons_succ,i64_w,i32_w]
                   rfl
                  refine pure_ (i:=46) (N:=some 121) (v:=undef) (a':=?_) bA47_ rfl rfl (any_of HT_.out (by kernel_rfl)) (fun _ _ _ h=>h) (Or.inr ⟨by rfl,rfl⟩) ?_ ?_
                  rotate_left
                  ·simp only [Act.put,List.setIfInBounds_toArray,List.set_cons_zero,List.set_cons_succ,i64_w,i32_w]
                   rfl
                  refine pure_ (i:=47) (N:=some 122) (v:=undef) (a':=?_) bA48_ rfl rfl (any_of HT_.out (by kernel_rfl)) (fun _ _ _ h=>h) (Or.inr ⟨by rfl,rfl⟩) ?_ ?_
                  rotate_left
                  ·simp only [Act.put,List.setIfInBounds_toArray,List.set_cons_zero,List.set_cons_succ,i64_w,i32_w]
                   rfl
                  refine pure_ (i:=48) (N:=some 123) (v:=undef) (a':=?_) bA49_ rfl rfl (any_of HT_.out (by kernel_rfl)) (fun _ _ _ h=>h) (Or.inr ⟨by rfl,rfl⟩) ?_ ?_
                  rotate_left
                  ·simp only [Act.put,List.setIfInBounds_toArray,List.set_cons_zero,List.set_cons_succ,i64_w,i32_w]
                   rfl
                  refine pure_ (i:=49) (N:=some 124) (v:=undef) (a':=?_) bA50_ rfl rfl (any_of HT_.out (by kernel_rfl)) (fun _ _ _ h=>h) (Or.inr ⟨by rfl,rfl⟩) ?_ ?_
                  rotate_left
                  ·simp only [Act.put,List.setIfInBounds_toArray,List.set_cons_zero,List.set_cons_succ,i64_w,i32_w]
                   rfl
                  refine pure_ (i:=50) (N:=some 125) (v:=?_) (a':=?_) bA51_ rfl rfl (any_of HT_.out (by kernel_rfl)) (fun _ _ _ h=>h) (Or.inl ⟨by rfl,?_⟩) ?_ ?_
                  rotate_left
                  ·intro w'
                   go_simp
                   with_reducible rfl
                  rotate_left
                  ·simp only [Act.put,List.setIfInBounds_toArray,List.set_cons_zero,List.set_cons_succ,i64_w,i32_w]
                   rfl
                  refine done_ (done_of HT_.out (by kernel_rfl)) ?_
                  try go_wp2
                  go_meet
                  case rel=>exact ⟨_,(false),(by first|rfl|(simp;done)|(simp [*];done)),H',⟨by have:=HJ5.out;have:=HJ25.out;have:=HK3.out;first|omega|exact Nat.le_refl _⟩,⟨by (with_reducible repeat (first|apply Kd.R_alloc|apply Kd.R_drewN|apply Kd.R_drew));exact HO_11.out⟩,⟨by (with_reducible repeat (first|refine blk_drewN ?_ _|refine blk_drew ?_|refine blk_alloc ?_ _));exact BK162.out⟩,⟨by (with_reducible repeat (first|refine blk_drewN ?_ _|refine blk_drew ?_|refine blk_alloc ?_ _));exact BK181.out⟩,⟨by repeat (first|(with_reducible first|exact HB.out|apply below_alloc|apply pw_below_drewN|apply below_drew1|refine below_set ?_ GE162.out|refine below_set ?_ GE181.out)|exact HB.out)⟩⟩
                case rest =>
                 clear HC42
                 try clear c1
                 try clear p1
                 try clear q1
                 try clear hx1
                 try clear p2
                 try clear c4
                 try clear c18
                 try clear p18
                 try clear q18
                 try clear hx18
                 try clear c46
                 try clear c46b0
                 try clear c46b1
                 try clear c47
                 try clear hx182_0
                 try clear p182
                 try clear q182
                 obtain ⟨kq,x125_41,rfl,HA,HJ41,HO_11,BK162,BK181,HB⟩:=hcut
                 cases kq with
                 | zero=>exact absurd HA.out (by simp [coppicerkeep_TableJoins.j3])
                 | succ kj41 =>
                  have H:=HA.out
                  clear HA
                  simp only [coppicerkeep_TableJoins.j3] at H
                  by_cases c68 : x125_41 = true
                  ·subst c68
                   have H1 : (some false) = some r:=by rw [if_pos rfl] at H;exact H
                   clear H
                   have H:=H1
                   clear H1
                   obtain rfl:=Option.some.inj H
                   go_wp2
                   go_ret
                   exact ⟨by first|rfl|(simp [errW_none,errW_some] <;> rfl)|(simp [*,errW_none,errW_some] <;> rfl),by repeat (first|(with_reducible first|exact HB.out|apply below_alloc|apply pw_below_drewN|apply below_drew1|refine below_set ?_ GE162.out|refine below_set ?_ GE181.out)|exact HB.out)⟩
                  ·replace c68:=Bool.eq_false_iff.mpr c68
                   subst c68
                   have H1 : ((coppicerref_Ints.f kj41 ((rd_T27 l0_3 x71_3).f1) y175).bind fun t189=>(if t189 = true then ((coppicerref_Bit.f t178 ((rd_T27 l0_3 x71_3).f0)).bind fun t190=>(if t190 = true then (coppicerkeep_TableJoins.l0 kj41 t163 t165 y175 t178 l0_3 (l0_3.length : Int) (wrap64 (x71_3 + 1)) a0_0 a0_1 a0_2 l0_3) else (some false))) else (coppicerkeep_TableJoins.l0 kj41 t163 t165 y175 t178 l0_3 (l0_3.length : Int) (wrap64 (x71_3 + 1)) a0_0 a0_1 a0_2 l0_3))) = some r:=by rw [if_neg (show ¬ (false = true) by decide)] at H;exact H
                   clear H
                   have H:=H1
                   clear H1
                   replace H:=Option.bind_eq_some_iff.mp H
                   obtain ⟨t189,A690,H⟩:=H
                   replace H : (if t189 = true then ((coppicerref_Bit.f t178 ((rd_T27 l0_3 x71_3).f0)).bind fun t190=>(if t190 = true then (coppicerkeep_TableJoins.l0 kj41 t163 t165 y175 t178 l0_3 (l0_3.length : Int) (wrap64 (x71_3 + 1)) a0_0 a0_1 a0_2 l0_3) else (some false))) else (coppicerkeep_TableJoins.l0 kj41 t163 t165 y175 t178 l0_3 (l0_3.length : Int) (wrap64 (x71_3 + 1)) a0_0 a0_1 a0_2 l0_3)) = some r:=H
                   have A69:=Aside0.mk A690
                   clear A690
                   by_cases c70 : t189 = true
                   ·subst c70
                    have H1 : ((coppicerref_Bit.f t178 ((rd_T27 l0_3 x71_3).f0)).bind fun t190=>(if t190 = true then (coppicerkeep_TableJoins.l0 kj41 t163 t165 y175 t178 l0_3 (l0_3.length : Int) (wrap64 (x71_3 + 1)) a0_0 a0_1 a0_2 l0_3) else (some false))) = some r:=by rw [if_pos rfl] at H;exact H
                    clear H
                    have H:=H1
                    clear H1
                    replace H:=Option.bind_eq_some_iff.mp H
                    obtain ⟨t190,A710,H⟩:=H
                    replace H : (if t190 = true then (coppicerkeep_TableJoins.l0 kj41 t163 t165 y175 t178 l0_3 (l0_3.length : Int) (wrap64 (x71_3 + 1)) a0_0 a0_1 a0_2 l0_3) else (some false)) = some r:=H
                    have A71:=Aside0.mk A710
                    clear A710
                    by_cases c72 : t190 = true
                    ·subst c72
                     have H1 : (coppicerkeep_TableJoins.l0 kj41 t163 t165 y175 t178 l0_3 (l0_3.length : Int) (wrap64 (x71_3 + 1)) a0_0 a0_1 a0_2 l0_3) = some r:=by rw [if_pos rfl] at H;exact H
                     clear H
                     have H:=H1
                     clear H1
                     have H':=Aside0.mk H
                     clear H
                     have hnb73:=NB181_162.out
                     have hnc73:=NB162_181.out
                     have hcz74_0 : wc.cell? ⟨gb181,0,none⟩ = some (.int .i64 ((rd_T27 l0_3 x71_3).f0)):=(blk_cell BK181.out 0).trans rfl
                     have hcz74_1 : wc.cell? ⟨gb181,1,none⟩ = some (.slice A180_1 ((rd_T27 l0_3 x71_3).f1).length c180_1):=(blk_cell BK181.out 1).trans rfl
                     have hfz74_0:=blk_frozen BK181.out 0
                     have hfz74_1:=blk_frozen BK181.out 1
                     go_wp2_with (first|((with_reducible refine gate_callee (f:=22) rfl ?_);refine goesL_ (some 129) rfl rfl Try.func22 (by kernel_rfl) rfl #[.slice A180_1 ((rd_T27 l0_3 x71_3).f1).length c180_1,.slice Ao32 y175.length co32] rfl (by (try simp only [List.map_toArray,List.map_cons,List.map_nil]);first|done|rfl|(simp only [List.length_drop,List.length_take];rfl)) ?_;(with_reducible refine (coppicerref_Ints.calls kj41 _ _ ((rd_T27 l0_3 x71_3).f1) _ _ y175 true _ ?side1 ?side2 ?side3 ?side4 A69.out).mono ?_);(case side1=>repeat (first|exact (Kd.C_below HR180_1.out HB.out)|(with_reducible refine Kd.C_alloc ?_ _)|(with_reducible refine Kd.C_drewN ?_ _)|(with_reducible refine Kd.C_drew ?_)));(case side2=>exact HC180_1.out);(case side3=>repeat (first|exact (Kd.R_reads' HO_11.out).2.2|(with_reducible refine Kd.C_alloc ?_ _)|(with_reducible refine Kd.C_drewN ?_ _)|(with_reducible refine Kd.C_drew ?_)));(case side4=>exact (Kd.R_reads' HO_11.out).2.1);rintro e w' ⟨rfl,⟨nd,rfl⟩⟩;refine ⟨_,rfl,?_⟩)|(go_at_call 19;(with_reducible refine (coppicerref_Bit.calls t178 ((rd_T27 l0_3 x71_3).f0) true _ A71.out).mono ?_);rintro e w' ⟨rfl,⟨nd,rfl⟩⟩))
                     go_roundg kj41
                     case measure=>have:=HJ5.out;have:=HJ25.out;have:=HK3.out;have:=HJ41.out;omega
                     case rel=>exact ⟨(wrap64 (x71_3 + 1)),(by first|rfl|(simp;done)|(simp [*];done)),H',⟨by have:=HJ5.out;have:=HJ25.out;have:=HK3.out;have:=HJ41.out;omega⟩,⟨by (with_reducible repeat (first|apply Kd.R_alloc|apply Kd.R_drewN|apply Kd.R_drew));exact HO_11.out⟩,⟨by (with_reducible repeat (first|refine blk_drewN ?_ _|refine blk_drew ?_|refine blk_alloc ?_ _));exact BK162.out⟩,⟨by repeat (first|(with_reducible first|exact HB.out|apply below_alloc|apply pw_below_drewN|apply below_drew1|refine below_set ?_ GE162.out|refine below_set ?_ GE181.out)|exact HB.out)⟩⟩
                    ·replace c72:=Bool.eq_false_iff.mpr c72
                     subst c72
                     have H1 : (some false) = some r:=by rw [if_neg (show ¬ (false = true) by decide)] at H;exact H
                     clear H
                     have H:=H1
                     clear H1
                     obtain rfl:=Option.some.inj H
                     have hnb75:=NB181_162.out
                     have hnc75:=NB162_181.out
                     have hcz76_0 : wc.cell? ⟨gb181,0,none⟩ = some (.int .i64 ((rd_T27 l0_3 x71_3).f0)):=(blk_cell BK181.out 0).trans rfl
                     have hcz76_1 : wc.cell? ⟨gb181,1,none⟩ = some (.slice A180_1 ((rd_T27 l0_3 x71_3).f1).length c180_1):=(blk_cell BK181.out 1).trans rfl
                     have hfz76_0:=blk_frozen BK181.out 0
                     have hfz76_1:=blk_frozen BK181.out 1
                     go_wp2_with (first|((with_reducible refine gate_callee (f:=22) rfl ?_);refine goesL_ (some 129) rfl rfl Try.func22 (by kernel_rfl) rfl #[.slice A180_1 ((rd_T27 l0_3 x71_3).f1).length c180_1,.slice Ao32 y175.length co32] rfl (by (try simp only [List.map_toArray,List.map_cons,List.map_nil]);first|done|rfl|(simp only [List.length_drop,List.length_take];rfl)) ?_;(with_reducible refine (coppicerref_Ints.calls kj41 _ _ ((rd_T27 l0_3 x71_3).f1) _ _ y175 true _ ?side1 ?side2 ?side3 ?side4 A69.out).mono ?_);(case side1=>repeat (first|exact (Kd.C_below HR180_1.out HB.out)|(with_reducible refine Kd.C_alloc ?_ _)|(with_reducible refine Kd.C_drewN ?_ _)|(with_reducible refine Kd.C_drew ?_)));(case side2=>exact HC180_1.out);(case side3=>repeat (first|exact (Kd.R_reads' HO_11.out).2.2|(with_reducible refine Kd.C_alloc ?_ _)|(with_reducible refine Kd.C_drewN ?_ _)|(with_reducible refine Kd.C_drew ?_)));(case side4=>exact (Kd.R_reads' HO_11.out).2.1);rintro e w' ⟨rfl,⟨nd,rfl⟩⟩;refine ⟨_,rfl,?_⟩)|(go_at_call 19;(with_reducible refine (coppicerref_Bit.calls t178 ((rd_T27 l0_3 x71_3).f0) false _ A71.out).mono ?_);rintro e w' ⟨rfl,⟨nd,rfl⟩⟩))
                     go_ret
                     exact ⟨by first|rfl|(simp [errW_none,errW_some] <;> rfl)|(simp [*,errW_none,errW_some] <;> rfl),by repeat (first|(with_reducible first|exact HB.out|apply below_alloc|apply pw_below_drewN|apply below_drew1|refine below_set ?_ GE162.out|refine below_set ?_ GE181.out)|exact HB.out)⟩
                   ·replace c70:=Bool.eq_false_iff.mpr c70
                    subst c70
                    have H1 : (coppicerkeep_TableJoins.l0 kj41 t163 t165 y175 t178 l0_3 (l0_3.length : Int) (wrap64 (x71_3 + 1)) a0_0 a0_1 a0_2 l0_3) = some r:=by rw [if_neg (show ¬ (false = true) by decide)] at H;exact H
                    clear H
                    have H:=H1
                    clear H1
                    have H':=Aside0.mk H
                    clear H
                    have hnb77:=NB181_162.out
                    have hnc77:=NB162_181.out
                    have hcz78_0 : wc.cell? ⟨gb181,0,none⟩ = some (.int .i64 ((rd_T27 l0_3 x71_3).f0)):=(blk_cell BK181.out 0).trans rfl
                    have hcz78_1 : wc.cell? ⟨gb181,1,none⟩ = some (.slice A180_1 ((rd_T27 l0_3 x71_3).f1).length c180_1):=(blk_cell BK181.out 1).trans rfl
                    have hfz78_0:=blk_frozen BK181.out 0
                    have hfz78_1:=blk_frozen BK181.out 1
                    go_wp2_with (first|((with_reducible refine gate_callee (f:=22) rfl ?_);refine goesL_ (some 129) rfl rfl Try.func22 (by kernel_rfl) rfl #[.slice A180_1 ((rd_T27 l0_3 x71_3).f1).length c180_1,.slice Ao32 y175.length co32] rfl (by (try simp only [List.map_toArray,List.map_cons,List.map_nil]);first|done|rfl|(simp only [List.length_drop,List.length_take];rfl)) ?_;(with_reducible refine (coppicerref_Ints.calls kj41 _ _ ((rd_T27 l0_3 x71_3).f1) _ _ y175 false _ ?side1 ?side2 ?side3 ?side4 A69.out).mono ?_);(case side1=>repeat (first|exact (Kd.C_below HR180_1.out HB.out)|(with_reducible refine Kd.C_alloc ?_ _)|(with_reducible refine Kd.C_drewN ?_ _)|(with_reducible refine Kd.C_drew ?_)));(case side2=>exact HC180_1.out);(case side3=>repeat (first|exact (Kd.R_reads' HO_11.out).2.2|(with_reducible refine Kd.C_alloc ?_ _)|(with_reducible refine Kd.C_drewN ?_ _)|(with_reducible refine Kd.C_drew ?_)));(case side4=>exact (Kd.R_reads' HO_11.out).2.1);rintro e w' ⟨rfl,⟨nd,rfl⟩⟩;refine ⟨_,rfl,?_⟩))
                    go_roundg kj41
                    case measure=>have:=HJ5.out;have:=HJ25.out;have:=HK3.out;have:=HJ41.out;omega
                    case rel=>exact ⟨(wrap64 (x71_3 + 1)),(by first|rfl|(simp;done)|(simp [*];done)),H',⟨by have:=HJ5.out;have:=HJ25.out;have:=HK3.out;have:=HJ41.out;omega⟩,⟨by (with_reducible repeat (first|apply Kd.R_alloc|apply Kd.R_drewN|apply Kd.R_drew));exact HO_11.out⟩,⟨by (with_reducible repeat (first|refine blk_drewN ?_ _|refine blk_drew ?_|refine blk_alloc ?_ _));exact BK162.out⟩,⟨by repeat (first|(with_reducible first|exact HB.out|apply below_alloc|apply pw_below_drewN|apply below_drew1|refine below_set ?_ GE162.out|refine below_set ?_ GE181.out)|exact HB.out)⟩⟩
               ·rw [if_neg c41] at H
                exact absurd H (by simp)
              ·rw [if_neg c40] at H
               exact absurd H (by simp)
             ·rw [if_neg c39] at H
              have c39b0 : decide (x71_3 < (l0_3.length : Int)) = false:=decide_eq_false c39
              clear c39
              obtain rfl:=Option.some.inj H
              go_wp2
              go_ret
              exact ⟨by first|rfl|(simp [errW_none,errW_some] <;> rfl)|(simp [*,errW_none,errW_some] <;> rfl),by repeat (first|(with_reducible first|exact HB.out|apply below_alloc|apply pw_below_drewN|apply below_drew1|refine below_set ?_ GE162.out)|exact HB.out)⟩
          ·rw [if_neg c37] at H
           have c37b0 : (t179 == 0) = false:=beq_eq_false_iff_ne.mpr c37
           have c37b1 : (t179 != 0) = true:=bne_iff_ne.mpr c37
           obtain rfl:=Option.some.inj H
           go_wp2
           go_ret
           exact ⟨by first|rfl|(simp [errW_none,errW_some] <;> rfl)|(simp [*,errW_none,errW_some] <;> rfl),by repeat (first|(with_reducible first|exact HB.out|apply below_alloc|apply pw_below_drewN|apply below_drew1|refine below_set ?_ GE162.out)|exact HB.out)⟩
     ·rw [if_neg c24] at H
      exact absurd H (by simp)
    ·rw [if_neg c23] at H
     exact absurd H (by simp)
/-- THE ONE PURE STATEMENT of coppicerkeep_TableJoins: yours. -/
def coppicerkeep_TableJoins.Pure : Prop:=∀ (a0_0 : Int) (a0_1 : Int) (a0_2 : Int) (l0_3 : List (S27)) (l1 : List Int) (l2 : List Int),((Lit.int .i64 a0_0).wf = true) → ((Lit.int .i64 a0_1).wf = true) → ((Lit.int .i64 a0_2).wf = true) → (l0_3.length ≤ 9223372036854775807 ∧ l0_3.length * 32 ≤ 140737488351232 ∧ ∀ y_ ∈ l0_3,wf27 y_) → (l1.length ≤ 9223372036854775807 ∧ l1.length * 8 ≤ 140737488351232 ∧ ∀ y_ ∈ l1,(Lit.int .i64 y_).wf = true) → (l2.length ≤ 9223372036854775807 ∧ l2.length * 8 ≤ 140737488351232 ∧ ∀ y_ ∈ l2,(Lit.int .i64 y_).wf = true) → ∃ k,coppicerkeep_TableJoins.f k a0_0 a0_1 a0_2 l0_3 l1 l2 = some true
theorem coppicerkeep_TableJoins.walk (P : coppicerkeep_TableJoins.Pure) (a0_0 : Int) (a0_1 : Int) (a0_2 : Int) (A0_3 : Option Addr) (l0_3 : List (S27)) (c0_3 : Nat) (A1 : Option Addr) (l1 : List Int) (c1 : Nat) (A2 : Option Addr) (l2 : List Int) (c2 : Nat) (w : World) (w0_0 : (Lit.int .i64 a0_0).wf = true) (w0_1 : (Lit.int .i64 a0_1).wf = true) (w0_2 : (Lit.int .i64 a0_2).wf = true) (hr0_3 : Kd.C k27 w A0_3 l0_3.length l0_3) (hc0_3 : l0_3.length ≤ c0_3) (w0_3 : l0_3.length ≤ 9223372036854775807 ∧ l0_3.length * 32 ≤ 140737488351232 ∧ ∀ y_ ∈ l0_3,wf27 y_) (hr1 : Kd.C (Kd.int .i64) w A1 l1.length l1) (hc1 : l1.length ≤ c1) (w1 : l1.length ≤ 9223372036854775807 ∧ l1.length * 8 ≤ 140737488351232 ∧ ∀ y_ ∈ l1,(Lit.int .i64 y_).wf = true) (hr2 : Kd.C (Kd.int .i64) w A2 l2.length l2) (hc2 : l2.length ≤ c2) (w2 : l2.length ≤ 9223372036854775807 ∧ l2.length * 8 ≤ 140737488351232 ∧ ∀ y_ ∈ l2,(Lit.int .i64 y_).wf = true) :
  Calls Try.prog 4 #[.agg #[.int .i64 a0_0,.int .i64 a0_1,.int .i64 a0_2,.slice A0_3 l0_3.length c0_3],.slice A1 l1.length c1,.slice A2 l2.length c2] w fun e w'=>e = .returned (.bool true) ∧ Below w.heap.size w w':=by
 obtain ⟨k,h⟩:=P a0_0 a0_1 a0_2 l0_3 l1 l2 w0_0 w0_1 w0_2 w0_3 w1 w2
 refine (coppicerkeep_TableJoins.calls k _ _ _ _ _ _ _ _ _ _ _ _ true w hr0_3 hc0_3 hr1 hc1 hr2 hc2 h).mono ?_
 rintro e w' ⟨rfl,hd⟩
 exact ⟨rfl,hd⟩
end Go.Proofs.Ytnkackiocigdoaa.GH
