/- HeapTypes: for every input, the law returns true and leaves its arguments as they were. No conditions. -/
import Derived.Test.YteidpgdfocjdbaaGreatHeapTypesFacts
import Derived.Test.YteidpgdfocjdbaaGreatHeapTypes
import Derived.Test.YteidpgdfocjdbaaGreatC00
import Derived.Test.YteidpgdfocjdbaaGreatC01
import Derived.Test.YteidpgdfocjdbaaGreatC10
import Derived.Test.YteidpgdfocjdbaaGreatC17
import Derived.Test.YteidpgdfocjdbaaGreatC19
import Derived.Test.YteidpgdfocjdbaaGreatC20
import Derived.Test.YteidpgdfocjdbaaGreatC22
import Derived.Test.YteidpgdfocjdbaaGreatC26
import Derived.Test.YteidpgdfocjdbaaGreatC30
import Derived.Test.YteidpgdfocjdbaaGreatC31
import Derived.Test.YteidpgdfocjdbaaGreatC41
import Derived.Test.YteidpgdfocjdbaaGreatC42
import Derived.Test.YteidpgdfocjdbaaGreatX0
import Derived.Test.YteidpgdfocjdbaaGreatCS
set_option maxRecDepth 100000
namespace Go.Proofs.YteidpgdfocjdbaaGreat.heapTypes
open Go Go.RowKit Go.Stg Go.ChangeShapes Go.WideShapes Go.ChangeAt
theorem lifted (os:Os) (started:os.Started) (H:Type) (enc:TypeId×Value→H):
  ReturnsInHanded {} Tryz.checked os 3 .any (Rows.heapTypesSpec.pre6 enc Tryz.prog Tryz.f3 Rows.heapTypesRow.domain false) (Rows.heapTypesSpec.post enc Tryz.prog Tryz.f3 false true false false):=by
 refine returnsInHanded_of_change (C:=Tryz.checked) Ty.own started (by kernel_rfl) Tryz.func3
  (ChangeSpec.witness6 (enc:=enc) (C:=Tryz.checked) false ⟨#[],#[.slice none 0 0,.agg #[.int .i64 0,.slice none 0 0],.slice none 0 0],[]⟩ 8 (by kernel_rfl) (by kernel_rfl) (by kernel_rfl) (by kernel_rfl)) ?_
 intro W base args ds gs before hval0 hW _ _;have hval:∀(j:Nat) t v,Tryz.f3.params[j]? =some t→args[j]? =some v→Value.okWide Tryz.prog W .any base t v:=hval0;have hW':=hW;obtain⟨p,q,hA0,hV,rfl,hfz,hnd⟩:=hW;have hA:DataW.TrodAll enc Tryz.prog W 0 (fun _=>true) true Tryz.f3.params.toList args.toList ds p:=hA0;rw[Tryz.params3]at hA hval;obtain⟨v0,vs0,d0,ds0,p0,q0,hargs,rfl,rfl,h0,r0⟩:=trodAll_cons hA;obtain⟨v1,vs1,d1,ds1,p1,q1,rfl,rfl,rfl,h1,r1⟩:=trodAll_cons r0;obtain⟨v2,vs2,d2,ds2,p2,q2,rfl,rfl,rfl,h2,r2⟩:=trodAll_cons r1;obtain⟨rfl,rfl,rfl⟩:=trodAll_nil r2;obtain rfl:args=#[v0,v1,v2]:=by cases args;simp_all
 obtain⟨rfl,rfl⟩:=trodVars_none hV;obtain⟨xs0,k0⟩:=Ty.open_nums (hval 0 22 v0 rfl rfl) h0;obtain⟨rl,rv,rf,rfl,k1,b1,c1⟩:=Ty.open_type (hval 1 25 v1 rfl rfl) h1;obtain⟨xs2,k2⟩:=Ty.open_nums (hval 2 22 v2 rfl rfl) h2;refine(types_walk v0 xs0 rl rv rf v2 xs2 W k0 k2 k1 b1 c1).mono fun e W' ⟨he,hm⟩=> ?_
 subst he;exact⟨_,rfl,law_close (bt:=4) hW' (by kernel_rfl) (by rw[Tryz.params3];intro t ht;simp at ht;rcases ht with rfl|rfl|rfl<;>exact⟨by kernel_rfl,of_decide_eq_true (by kernel_rfl)⟩) rfl hm rfl Tryz.underlying4 rfl⟩
theorem over:Rows.heapTypesRow.holds Tryz.pinned (OpenSpec.ofChange Rows.heapTypesSpec):=
 OpenClaim.holds_of_wide 3 Tryz.f3 rfl rfl rfl rfl rfl rfl rfl ⟨rfl,rfl,rfl,rfl,rfl⟩ rfl rfl rfl rfl rfl (by kernel_rfl) Tryz.func3 closed
  (of_decide_eq_true (by kernel_rfl)) (by unfold Func.isWrapper;first|(rw[if_pos (by decide+kernel)];kernel_rfl)|(rw[if_neg (by decide+kernel)];exact⟨rfl,rfl⟩))
  (fun os started H enc _=>lifted os started H enc)
theorem proved:Rows.HeapTypesSaid:=over
#print axioms proved
end Go.Proofs.YteidpgdfocjdbaaGreat.heapTypes
