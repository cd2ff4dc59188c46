/-The document's integers:trimming,sign,negation. The document's integers:sums,differences,comparing. The document's integers:shifting. The document's dyads:Make,Norm;its rounding to a float. The document's dyads:Sign,Neg,Add,Sub,Cmp,Scale,over a common exponent. The document's rounding to a float and its reading of a float. -/
import Derived.Test.YtkfooaihogahcaaGreatDoorLd
set_option linter.unusedVariables false
set_option linter.unusedSimpArgs false
namespace Go.Vs.F
theorem qco {f:Int} (h:U64 f):qy .u64 (shr_ .u64 f 52) 2047=fexp f∧qy .u64 f 4503599627370495=ffrac f:=by
 have:=parts_eq (m:=0) h
 rw[g77]at this
 simp only[Option.some.injEq,Prod.mk.injEq,and_true]at this
 have hl:=q56 f
 refine⟨?_,this.2⟩
 have h2:=qmb (x:=shr_ .u64 f 52)
 have:=this.1
 rwa [w_i64_eq,wi O O]at this
end Go.Vs.F
