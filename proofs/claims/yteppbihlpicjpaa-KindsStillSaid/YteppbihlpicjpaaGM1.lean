-- Written by ext.py, a program of this session.
import Derived.Test.YteppbihlpicjpaaGM0
namespace Go.Proofs.Yteppbihlpicjpaa.GM
open Go.RowKit Go.Proofs.YteppbihlpicjpaaW.PrintWords Go.Proofs.YteppbihlpicjpaaW.PrintLast Go.Proofs.YteppbihlpicjpaaW.PrintMore
attribute [local go_sem] max2_int min2_int max_two min_two max_three min_three max_four min_four cellIs_set   -- for this text's walks alone
set_option linter.unusedVariables false
set_option linter.unusedSimpArgs false
theorem eqa_item {P : Program} {w : World} {d : Nat} {t : TypeId} {xs ys : Array Value} {is : List Nat} {i : Nat} {x y : Int} {b : Bool}
  (h1 : (part t xs (i * 1)).run P w = .ok (.int .i64 x) w) (h2 : (part t ys (i * 1)).run P w = .ok (.int .i64 y) w)
  (h3 : (Op.equalIn d t (.int .i64 x) (.int .i64 y)).run P w = .ok (x == y) w)
  (h : (Op.eqItems d t 1 xs ys is).run P w = .ok b w) :
  (Op.eqItems d t 1 xs ys (i :: is)).run P w = .ok (x == y && b) w:=by
 simp only [Op.eqItems,Sem.run_bind,h1,h2,h3,Result.andThen_ok]
 by_cases e : x = y
 ·simp [e,h]
 ·simp [e]
theorem eqa_nil {P : Program} {w : World} {d : Nat} {t : TypeId} {xs ys : Array Value} :
  (Op.eqItems d t 1 xs ys []).run P w = .ok true w:=by simp [Op.eqItems]
theorem eqA44 (d : Nat) (w : World) (x0 y0 : Int) (x1 y1 : Int) (x2 y2 : Int) (x3 y3 : Int) (x4 y4 : Int) (x5 y5 : Int) (x6 y6 : Int) :
  (Op.equalIn (d + 2) 44 (.agg #[.int .i64 x0,.int .i64 x1,.int .i64 x2,.int .i64 x3,.int .i64 x4,.int .i64 x5,.int .i64 x6]) (.agg #[.int .i64 y0,.int .i64 y1,.int .i64 y2,.int .i64 y3,.int .i64 y4,.int .i64 y5,.int .i64 y6])).run Try.prog w = .ok (x0 == y0 && (x1 == y1 && (x2 == y2 && (x3 == y3 && (x4 == y4 && (x5 == y5 && (x6 == y6))))))) w:=by
 refine (run_equalIn_array w (d + 1) _ _ Try.underlying44 (by rfl)).trans ?_
 rw [show (x0 == y0 && (x1 == y1 && (x2 == y2 && (x3 == y3 && (x4 == y4 && (x5 == y5 && (x6 == y6))))))) = (x0 == y0 && (x1 == y1 && (x2 == y2 && (x3 == y3 && (x4 == y4 && (x5 == y5 && (x6 == y6 && true))))))) by simp]
 iterate 7 refine eqa_item (by go_simp) (by go_simp) (by go_simp) ?_
 exact eqa_nil
end Go.Proofs.Yteppbihlpicjpaa.GM
