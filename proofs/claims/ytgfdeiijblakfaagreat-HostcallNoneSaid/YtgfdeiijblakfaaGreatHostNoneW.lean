/- HostcallNone: the walk, as the law's closing takes it. -/
import Derived.Test.YtgfdeiijblakfaaGreatHostNone
import Derived.Test.YtgfdeiijblakfaaGreatC01
import Derived.Test.YtgfdeiijblakfaaGreatC07
import Derived.Test.YtgfdeiijblakfaaGreatC17
import Derived.Test.YtgfdeiijblakfaaGreatC19
import Derived.Test.YtgfdeiijblakfaaGreatC20
import Derived.Test.YtgfdeiijblakfaaGreatC21
import Derived.Test.YtgfdeiijblakfaaGreatC25
import Derived.Test.YtgfdeiijblakfaaGreatC31
import Derived.Test.YtgfdeiijblakfaaGreatX0
import Derived.Test.YtgfdeiijblakfaaGreatCS
set_option maxRecDepth 20000
namespace Go.Proofs.YtgfdeiijblakfaaGreat
open Go Go.RowKit Go.Stg Go.ChangeShapes Go.WideShapes Go.ChangeAt
def FiveOk (v:Value) (f:Int×Int×Int×Int×Int):Prop:=v=.agg #[.int .u64 f.1,.int .u64 f.2.1,.int .u64 f.2.2.1,.int .u64 f.2.2.2.1,.int .u64 f.2.2.2.2]∧U64 f.1∧U64 f.2.1∧U64 f.2.2.1∧U64 f.2.2.2.1∧U64 f.2.2.2.2
theorem open_five {H:Type} {enc:TypeId×Value→H} {W:World} {base:Nat} {v:Value} {d:DataW H} {ps:List MemPlace} (hval:Value.okWide Tryz.prog W .any base 46 v) (_h:DataW.Trod enc Tryz.prog W 0 (fun _=>true) true 46 v d ps):∃f,FiveOk v f:=by
 obtain⟨ns,rfl,hl,hr⟩:=open_int_agg (ts:=[22,22,22,22,22]) (k:=.u64) (by kernel_rfl) (by kernel_rfl) (by kernel_rfl) (by intro u hu;simp at hu;subst hu;exact Tryz.underlying22) hval;simp[IntKind.min,IntKind.max,IntKind.signed,IntKind.bits]at hr
 match ns,hl with
 | [x0,x1,x2,x3,x4],_=>
  exact⟨(x0,x1,x2,x3,x4),rfl,hr x0 (by simp),hr x1 (by simp),hr x2 (by simp),hr x3 (by simp),hr x4 (by simp)⟩
theorem none_walk2 (p call:Int) (v:Value) (f:Int×Int×Int×Int×Int) (c0:0≤call) (c1:call≤255) (W:World) (h:FiveOk v f):
  Calls Tryz.prog 4 #[.int .i64 p,.int .u8 call,v] W fun e w'=>e=.returned (.bool true)∧Mod [] W w':=by
 obtain⟨rfl,r0,r1,r2,r3,r4⟩:=h;exact none_walk p call _ _ _ _ _ c0 c1 r0 r1 r2 r3 r4 W
end Go.Proofs.YtgfdeiijblakfaaGreat
