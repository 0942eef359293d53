/- HostcallQuiet: for every input, the law returns true and leaves its arguments as they were. No conditions. -/
import Derived.Test.YtdehaommhbjakaaGreatC49
import Derived.Test.YtdehaommhbjakaaGreatHostcallQuietFacts
set_option maxRecDepth 100000
namespace Go.Proofs.YtdehaommhbjakaaGreat.hostcallQuiet
open RowKit Stg Go.ChangeShapes Go.WideShapes Go.ChangeAt
theorem lifted (os:Os) (started:os.Started) (H:Type) (enc:TypeId×Value→H):
  ReturnsInHanded {} Tryz.checked os 3 .any (Rows.hostcallQuietSpec.pre6 enc Tryz.prog Tryz.f3 Rows.hostcallQuietRow.domain false) (Rows.hostcallQuietSpec.post enc Tryz.prog Tryz.f3 false true false false):=by
 refine returnsInHanded_of_change (C:=Tryz.checked) Ty.own started (by kernel_rfl) Tryz.func3
  (ChangeSpec.witness6 (enc:=enc) (C:=Tryz.checked) false ⟨#[],#[.slice none 0 0,.slice none 0 0,.int .i8 0,.slice none 0 0,.int .u8 0],[]⟩ 8 (by kernel_rfl) (by kernel_rfl) (by kernel_rfl) (by kernel_rfl)) ?_
 intro W base args ds gs before hval0 hW _ _;have hval:∀(j:Nat) t v,Tryz.f3.params[j]? =some t→args[j]? =some v→Value.okWide Tryz.prog W .any base t v:=hval0;have hW':=hW;obtain⟨p,q,hA0,hV,rfl,hfz,hnd⟩:=hW;have hA:DataW.TrodAll enc Tryz.prog W 0 (fun _=>true) true Tryz.f3.params.toList args.toList ds p:=hA0;rw[Tryz.params3]at hA hval;obtain⟨v0,vs0,d0,ds0,p0,q0,hargs,rfl,rfl,h0,r0⟩:=trodAll_cons hA;obtain⟨v1,vs1,d1,ds1,p1,q1,rfl,rfl,rfl,h1,r1⟩:=trodAll_cons r0;obtain⟨v2,vs2,d2,ds2,p2,q2,rfl,rfl,rfl,h2,r2⟩:=trodAll_cons r1;obtain⟨v3,vs3,d3,ds3,p3,q3,rfl,rfl,rfl,h3,r3⟩:=trodAll_cons r2;obtain⟨v4,vs4,d4,ds4,p4,q4,rfl,rfl,rfl,h4,r4⟩:=trodAll_cons r3;obtain⟨rfl,rfl,rfl⟩:=trodAll_nil r4;obtain rfl:args=#[v0,v1,v2,v3,v4]:=by cases args;simp_all
 obtain⟨rfl,rfl⟩:=trodVars_none hV;obtain⟨x2,rfl,b2,c2⟩:=xX (k:=.i8) Tryz.underlying23 (hval 2 23 v2 rfl rfl);obtain⟨x4,rfl,b4,c4⟩:=xX (k:=.u8) Tryz.underlying5 (hval 4 5 v4 rfl rfl);simp[IntKind.min,IntKind.max,IntKind.signed,IntKind.bits]at b2 c2 b4 c4;obtain⟨xs0,k0⟩:=Ty.wo (hval 0 22 v0 rfl rfl) h0;obtain⟨xs1,k1⟩:=Ty.wo (hval 1 22 v1 rfl rfl) h1;obtain⟨xs3,k3⟩:=BM (hval 3 24 v3 rfl rfl) h3;refine(Aq v0 xs0 v1 xs1 x2 v3 xs3 x4 b2 c2 b4 c4 W k0 k1 k3).mono fun e W' ⟨he,hm⟩=> ?_
 subst he;exact⟨_,rfl,CQ (bt:=4) hW' (by kernel_rfl) (by rw[Tryz.params3];intro t ht;simp at ht;rcases ht with rfl|rfl|rfl|rfl<;>exact⟨by kernel_rfl,of_decide_eq_true (by kernel_rfl)⟩) rfl hm rfl Tryz.underlying4 rfl⟩
theorem over:Rows.hostcallQuietRow.holds Tryz.pinned (OpenSpec.ofChange Rows.hostcallQuietSpec):=
 OpenClaim.holds_of_wide 3 Tryz.f3 rfl rfl rfl rfl rfl rfl rfl ⟨rfl,rfl,rfl,rfl,rfl⟩ rfl rfl rfl rfl rfl (by kernel_rfl) Tryz.func3 closed
  (of_decide_eq_true (by kernel_rfl)) (by unfold Func.isWrapper;first|(rw[if_pos (by decide+kernel)];kernel_rfl)|(rw[if_neg (by decide+kernel)];exact⟨rfl,rfl⟩))
  (fun os started H enc _=>lifted os started H enc)
theorem proved:Rows.HostcallQuietSaid:=over
#print axioms proved
end Go.Proofs.YtdehaommhbjakaaGreat.hostcallQuiet
