/- HostcallNone: for every input, the law returns true and leaves its arguments as they were. No conditions. -/
import Derived.Test.YtgfdeiijblakfaaGreatHostcallNoneFacts
import Derived.Test.YtgfdeiijblakfaaGreatHostNoneW
import Derived.Test.YtgfdeiijblakfaaGreatC00
import Derived.Test.YtgfdeiijblakfaaGreatC01
import Derived.Test.YtgfdeiijblakfaaGreatC11
import Derived.Test.YtgfdeiijblakfaaGreatC13
import Derived.Test.YtgfdeiijblakfaaGreatC17
import Derived.Test.YtgfdeiijblakfaaGreatC19
import Derived.Test.YtgfdeiijblakfaaGreatC20
import Derived.Test.YtgfdeiijblakfaaGreatC21
import Derived.Test.YtgfdeiijblakfaaGreatC25
import Derived.Test.YtgfdeiijblakfaaGreatC31
import Derived.Test.YtgfdeiijblakfaaGreatX0
import Derived.Test.YtgfdeiijblakfaaGreatCS
set_option maxRecDepth 100000
namespace Go.Proofs.YtgfdeiijblakfaaGreat.hostcallNone
open Go Go.RowKit Go.Stg Go.ChangeShapes Go.WideShapes Go.ChangeAt
theorem lifted (os:Os) (started:os.Started) (H:Type) (enc:TypeId×Value→H):
  ReturnsInHanded {} Tryz.checked os 4 .any (Rows.hostcallNoneSpec.pre6 enc Tryz.prog Tryz.f4 Rows.hostcallNoneRow.domain false) (Rows.hostcallNoneSpec.post enc Tryz.prog Tryz.f4 false true false false):=by
 refine returnsInHanded_of_change (C:=Tryz.checked) Ty.own started (by kernel_rfl) Tryz.func4
  (ChangeSpec.witness6 (enc:=enc) (C:=Tryz.checked) false ⟨#[],#[.int .i64 0,.int .u8 0,.agg #[.int .u64 0,.int .u64 0,.int .u64 0,.int .u64 0,.int .u64 0]],[]⟩ 8 (by kernel_rfl) (by kernel_rfl) (by kernel_rfl) (by kernel_rfl)) ?_
 intro W base args ds gs before hval0 hW _ _;have hval:∀(j:Nat) t v,Tryz.f4.params[j]? =some t→args[j]? =some v→Value.okWide Tryz.prog W .any base t v:=hval0;have hW':=hW;obtain⟨p,q,hA0,hV,rfl,hfz,hnd⟩:=hW;have hA:DataW.TrodAll enc Tryz.prog W 0 (fun _=>true) true Tryz.f4.params.toList args.toList ds p:=hA0;rw[Tryz.params4]at hA hval;obtain⟨v0,vs0,d0,ds0,p0,q0,hargs,rfl,rfl,h0,r0⟩:=trodAll_cons hA;obtain⟨v1,vs1,d1,ds1,p1,q1,rfl,rfl,rfl,h1,r1⟩:=trodAll_cons r0;obtain⟨v2,vs2,d2,ds2,p2,q2,rfl,rfl,rfl,h2,r2⟩:=trodAll_cons r1;obtain⟨rfl,rfl,rfl⟩:=trodAll_nil r2;obtain rfl:args=#[v0,v1,v2]:=by cases args;simp_all
 obtain⟨rfl,rfl⟩:=trodVars_none hV;obtain⟨x0,rfl,b0,c0⟩:=cell_int (k:=.i64) Tryz.underlying3 (hval 0 3 v0 rfl rfl);obtain⟨x1,rfl,b1,c1⟩:=cell_int (k:=.u8) Tryz.underlying5 (hval 1 5 v1 rfl rfl);simp[IntKind.min,IntKind.max,IntKind.signed,IntKind.bits]at b1 c1;obtain⟨xs2,k2⟩:=open_five (hval 2 46 v2 rfl rfl) h2;refine(none_walk2 x0 x1 v2 xs2 b1 c1 W k2).mono fun e W' ⟨he,hm⟩=> ?_
 subst he;exact⟨_,rfl,law_close (bt:=4) hW' (by kernel_rfl) (by rw[Tryz.params4];intro t ht;simp at ht;rcases ht with rfl|rfl|rfl<;>exact⟨by kernel_rfl,of_decide_eq_true (by kernel_rfl)⟩) rfl hm rfl Tryz.underlying4 rfl⟩
theorem over:Rows.hostcallNoneRow.holds Tryz.pinned (OpenSpec.ofChange Rows.hostcallNoneSpec):=
 OpenClaim.holds_of_wide 4 Tryz.f4 rfl rfl rfl rfl rfl rfl rfl ⟨rfl,rfl,rfl,rfl,rfl⟩ rfl rfl rfl rfl rfl (by kernel_rfl) Tryz.func4 closed
  (of_decide_eq_true (by kernel_rfl)) (by unfold Func.isWrapper;first|(rw[if_pos (by decide+kernel)];kernel_rfl)|(rw[if_neg (by decide+kernel)];exact⟨rfl,rfl⟩))
  (fun os started H enc _=>lifted os started H enc)
theorem proved:Rows.HostcallNoneSaid:=over
#print axioms proved
end Go.Proofs.YtgfdeiijblakfaaGreat.hostcallNone
