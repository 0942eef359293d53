/- HeapConfig: for every input, the law returns true and leaves its arguments as they were. No conditions. -/
import Derived.Test.YtapbeogoojejmaaGreatC00
import Derived.Test.YtapbeogoojejmaaGreatC41
import Derived.Test.YtapbeogoojejmaaGreatC43
import Derived.Test.YtapbeogoojejmaaGreatHeapConfigFacts
import Derived.Test.YtapbeogoojejmaaGreatCS
set_option maxRecDepth 100000
namespace Go.Proofs.YtapbeogoojejmaaGreat.heapConfig
open Go Go.RowKit Go.Stg Go.ChangeShapes Go.WideShapes Go.ChangeAt
theorem lifted (os:Os) (started:os.Started) (H:Type) (enc:TypeId×Value→H):
  ReturnsInHanded {} Tryz.checked os 4 .any (Rows.heapConfigSpec.pre6 enc Tryz.prog Tryz.f4 Rows.heapConfigRow.domain false) (Rows.heapConfigSpec.post enc Tryz.prog Tryz.f4 false true false false):=by
 refine returnsInHanded_of_change (C:=Tryz.checked) Ty.own started (by kernel_rfl) Tryz.func4
  (ChangeSpec.witness6 (enc:=enc) (C:=Tryz.checked) false ⟨#[],#[.agg #[.int .i64 0,.int .i64 0,.int .u32 0,.int .i64 0,.int .i64 0,.int .i64 0,.int .i64 0,.int .i64 0,.int .i64 0],.slice none 0 0,.int .u8 0,.int .i64 0],[]⟩ 8 (by kernel_rfl) (by kernel_rfl) (by kernel_rfl) (by kernel_rfl)) ?_
 intro W base args ds gs before hval0 hW _ _;have hval:∀(j:Nat) t v,Tryz.f4.params[j]? =some t→args[j]? =some v→Value.okWide Tryz.prog W .any base t v:=hval0;have hW':=hW;obtain⟨p,q,hA0,hV,rfl,hfz,hnd⟩:=hW;have hA:DataW.TrodAll enc Tryz.prog W 0 (fun _=>true) true Tryz.f4.params.toList args.toList ds p:=hA0;rw[Tryz.params4]at hA hval;obtain⟨v0,vs0,d0,ds0,p0,q0,hargs,rfl,rfl,h0,r0⟩:=trodAll_cons hA;obtain⟨v1,vs1,d1,ds1,p1,q1,rfl,rfl,rfl,h1,r1⟩:=trodAll_cons r0;obtain⟨v2,vs2,d2,ds2,p2,q2,rfl,rfl,rfl,h2,r2⟩:=trodAll_cons r1;obtain⟨v3,vs3,d3,ds3,p3,q3,rfl,rfl,rfl,h3,r3⟩:=trodAll_cons r2;obtain⟨rfl,rfl,rfl⟩:=trodAll_nil r3;obtain rfl:args=#[v0,v1,v2,v3]:=by cases args;simp_all
 obtain⟨rfl,rfl⟩:=trodVars_none hV;obtain⟨x2,rfl,b2,c2⟩:=cell_int (k:=.u8) Tryz.underlying5 (hval 2 5 v2 rfl rfl);obtain⟨x3,rfl,b3,c3⟩:=cell_int (k:=.i64) Tryz.underlying3 (hval 3 3 v3 rfl rfl);simp[IntKind.min,IntKind.max,IntKind.signed,IntKind.bits]at b2 c2 b3 c3;obtain⟨xs0,k0⟩:=open_cfg (hval 0 81 v0 rfl rfl) h0;obtain⟨xs1,k1⟩:=Ty.open_nums (hval 1 24 v1 rfl rfl) h1;refine(config_walk2 v0 xs0 v1 xs1 x2 x3 b2 c2 b3 c3 W k0 k1).mono fun e W' ⟨he,hm⟩=> ?_
 subst he;exact⟨_,rfl,law_close (bt:=4) hW' (by kernel_rfl) (by rw[Tryz.params4];intro t ht;simp at ht;rcases ht with rfl|rfl|rfl|rfl<;>exact⟨by kernel_rfl,of_decide_eq_true (by kernel_rfl)⟩) rfl hm rfl Tryz.underlying4 rfl⟩
theorem over:Rows.heapConfigRow.holds Tryz.pinned (OpenSpec.ofChange Rows.heapConfigSpec):=
 OpenClaim.holds_of_wide 4 Tryz.f4 rfl rfl rfl rfl rfl rfl rfl ⟨rfl,rfl,rfl,rfl,rfl⟩ rfl rfl rfl rfl rfl (by kernel_rfl) Tryz.func4 closed
  (of_decide_eq_true (by kernel_rfl)) (by unfold Func.isWrapper;first|(rw[if_pos (by decide+kernel)];kernel_rfl)|(rw[if_neg (by decide+kernel)];exact⟨rfl,rfl⟩))
  (fun os started H enc _=>lifted os started H enc)
theorem proved:Rows.HeapConfigSaid:=over
#print axioms proved
end Go.Proofs.YtapbeogoojejmaaGreat.heapConfig
