/- Joined contracts. No conditions. -/
import Derived.ProofKit
import Derived.OpenShut
import Derived.Deep.Slices
import Derived.Test.YtdehaommhbjakaaGreatC48
set_option maxRecDepth 20000
namespace Go
namespace Stg
open Go.ChangeShapes Go.WideShapes Go.ChangeAt Go.RowKit
section
variable {P:Program} {H:Type} {enc:TypeId×Value→H}
theorem xX {w:World} {r:Reach} {base:Nat} {u:TypeId} {k:IntKind} {x:Value} (hu:P.underlying u=some (.int k)) (h:Cell.okWide P w r base u x):∃n,x=.int k n∧k.min≤n∧n≤k.max:=by
 unfold Cell.okWide at h;rw[hu]at h;unfold Cell.ok at h;rw[hu]at h;cases x<;>simp at h;obtain⟨rfl,h⟩:=h;exact⟨_,rfl,h.1,h.2⟩
theorem uj {w:World} {r:Reach} {base:Nat} {t e:TypeId} {v:Value} (ht:P.underlying t=some (.slice e)) (hval:Value.okWide P w r base t v):
  v=.slice none 0 0∨∃sb so len cap,v=.slice (some ⟨sb,so,none⟩) len cap∧sb<w.heap.size∧len≤cap∧cap≤maxLen:=by
 have h0:Cell.ok P w r base t v:=by
  unfold Value.okWide at hval;rw[ht]at hval;have h1:Cell.okWide P w r base t v:=hval;unfold Cell.okWide at h1;rw[ht]at h1;exact h1
 clear hval;have hval:=h0;unfold Cell.ok at hval;rw[ht]at hval;split at hval<;>(try simp_all);rename_i e' a len cap _;obtain⟨h1,h2,_,h3,row,cells,h4,_⟩:=hval;obtain⟨ab,ao,asp⟩:=a;change asp=none at h3;subst h3;refine⟨ab,ao,len,cap,⟨rfl,rfl,rfl⟩,?_,h1,?_⟩
 ·unfold World.shape? at h4;split at h4
  ·rename_i hh;exact aL hh
  ·cases h4
 ·unfold maxLen;omega
theorem wQ {k:IntKind} {n:Int} (h:(Lit.int k n).wf=true):k.min≤n∧n≤k.max:=by
 simpa[Lit.wf]using h
theorem uw (hl:laidOutB P=true) {W W':World} (hb:Below W.heap.size W W'):∀(ts:List TypeId) (vs:List Value) (ds:List (DataW H)) (ps:List MemPlace),(∀t∈ts,P.readableRec t=true∧t<P.types.size)→
  DataW.TrodAll enc P W 0 (fun _=>true) true ts vs ds ps→(∀x∈ps,x.block<W.heap.size)→DataW.TrodAll enc P W' 0 (fun b=>decide (b<W.heap.size)) true ts vs ds ps
 | [],vs,ds,ps,_,h,_=>by
  obtain⟨rfl,rfl,rfl⟩:=trodAll_nil h;exact trodAll_mk0
 |t::ts,vs,ds,ps,ht,h,hlt=>by
  obtain⟨v,vs',d,ds',p,q,rfl,rfl,rfl,h1,h2⟩:=trodAll_cons h;obtain⟨r1,r2⟩:=ht t (by simp);exact trodAll_cons_mk (Below.trod hl r1 r2 h1 hb (fun x hx=>hlt x (by simp[hx]))) (uw hl hb ts vs' ds' q (fun t h=>ht t (by simp[h])) h2 (fun x hx=>hlt x (by simp[hx])))
theorem CQ {f:Func} {s:ChangeSpec} {W W':World} {args:Array Value} {ds gs:List (DataW H)} {before:List MemPlace} {bt:TypeId}
  (hW:DataW.Whole enc P f.params.toList s.vars false W args.toList ds gs before) (hl:laidOutB P=true) (hts:∀t∈f.params.toList,P.readableRec t=true∧t<P.types.size) (hv:s.vars=[])
  (hb:Mod [] W W') (hres:f.resultTypes=#[bt]) (hbt:P.underlying bt=some .bool) (hspec:s.fn H (ds++gs)={results:=[.lit (.bool true)],args:=ds}):
  s.post enc P f false true false false W args (.bool true) W':=by
 have hW0:=hW;have hlt:=hW.lt;obtain⟨p,q,hA,hV,rfl,hfz,hnd⟩:=hW;have hV':=hV;rw[hv]at hV';obtain⟨hg,hq⟩:=trodVars_none hV';refine⟨ds,gs,p++q,[],p,[],hW0,?_,?_,?_,hb.below.frame _,fun h=>by cases h⟩
 ·rw[hspec,hres];exact trodAll_mk1 (shut_bool hbt true)
 ·rw[hspec];exact uw hl hb.below _ _ _ _ hts hA (fun x hx=>hlt x (by simp[hx]))
 ·rw[hspec,hv];rfl
end
end Stg
end Go
namespace Go.Proofs.YtdehaommhbjakaaGreat
open RowKit Stg Go.ChangeShapes Go.WideShapes Go.ChangeAt
theorem BM {H:Type} {enc:TypeId×Value→H} {W:World} {base:Nat} {v:Value} {d:DataW H} {ps:List MemPlace} (hval:Value.okWide Tryz.prog W .any base 24 v) (h:DataW.Trod enc Tryz.prog W 0 (fun _=>true) true 24 v d ps):∃ds,cR W v ds:=by
 rcases uj Tryz.underlying24 hval with rfl|⟨sb,so,len,cap,rfl,h1,h2,h3⟩
 ·exact⟨[],.inl ⟨rfl,rfl⟩⟩
 ·obtain⟨fuel,hf⟩:=h;have hcs:(Value.slice (some ⟨sb,so,none⟩) len cap).cells.toList=[.slice (some ⟨sb,so,none⟩) len cap]:=rfl;rw[hcs]at hf;rcases open_ints Tryz.underlying24 Tryz.underlying31 (by kernel_rfl) hf with⟨h0,_⟩|⟨a,len',cap',zs,h0,_,_,_,hz,_,hx,hw⟩
  ·simp at h0
  ·simp at h0;obtain⟨rfl,rfl,rfl⟩:=h0;simp at hz;refine⟨zs.take len,.inr ⟨sb,so,cap,by simp[hz,Nat.min_eq_left h2],h1,by simp;omega,fun i hi=> ?_⟩⟩;have hi':i<len∧i<zs.length:=by rw[List.length_take]at hi;omega
   have k:=hx i hi'.2;rw[Ty.eT,List.getD_eq_getElem?_getD,List.getElem?_eq_getElem hi'.2]at k;have kw:=wQ (hw zs[i] (List.getElem_mem hi'.2));simp[IntKind.min,IntKind.max,IntKind.signed,IntKind.bits]at kw;simp only[List.getElem_take];exact⟨by simpa using k,kw⟩
theorem Aq (v0:Value) (xs0:List Int) (v1:Value) (xs1:List Int) (x2:Int) (v3:Value) (ds:List Int) (x4:Int) (b2: -128≤x2) (c2:x2≤127) (b4:0≤x4) (c4:x4≤255) (W:World) (k0:Ty.eQ W v0 xs0) (k1:Ty.eQ W v1 xs1) (k3:cR W v3 ds):
  Calls Tryz.prog 3 #[v0,v1,.int .i8 x2,v3,.int .u8 x4] W fun e w'=>e=.returned (.bool true)∧Mod [] W w':=
 Bu v0 v1 xs0 xs1 x2 v3 ds x4 W k0 k1 k3 b2 c2 b4 c4
end Go.Proofs.YtdehaommhbjakaaGreat
namespace Go.Proofs.YtdehaommhbjakaaGreat.Ty
open RowKit Stg Go.ChangeShapes Go.WideShapes Go.ChangeAt
theorem own:ownKnob Tryz.prog.godebug=none:=by kernel_rfl
end Go.Proofs.YtdehaommhbjakaaGreat.Ty
namespace Go.Proofs.YtdehaommhbjakaaGreat.Ty
open RowKit Stg Go.ChangeShapes Go.WideShapes Go.ChangeAt
theorem wo {H:Type} {enc:TypeId×Value→H} {W:World} {base:Nat} {v:Value} {d:DataW H} {ps:List MemPlace} (hval:Value.okWide Tryz.prog W .any base 22 v) (h:DataW.Trod enc Tryz.prog W 0 (fun _=>true) true 22 v d ps):∃ds,eQ W v ds:=by
 rcases uj Tryz.underlying22 hval with rfl|⟨sb,so,len,cap,rfl,h1,h2,h3⟩
 ·exact⟨[],.inl ⟨rfl,rfl⟩⟩
 ·obtain⟨fuel,hf⟩:=h;have hcs:(Value.slice (some ⟨sb,so,none⟩) len cap).cells.toList=[.slice (some ⟨sb,so,none⟩) len cap]:=rfl;rw[hcs]at hf;rcases open_ints Tryz.underlying22 Tryz.underlying193 (by kernel_rfl) hf with⟨h0,_⟩|⟨a,len',cap',zs,h0,_,_,_,hz,_,hx,hw⟩
  ·simp at h0
  ·simp at h0;obtain⟨rfl,rfl,rfl⟩:=h0;simp at hz;refine⟨zs.take len,.inr ⟨sb,so,cap,by simp[hz,Nat.min_eq_left h2],h1,by simp;omega,by simp;omega,fun i hi=> ?_⟩⟩;have hi':i<len∧i<zs.length:=by rw[List.length_take]at hi;omega
   have k:=hx i hi'.2;rw[Ty.eT,List.getD_eq_getElem?_getD,List.getElem?_eq_getElem hi'.2]at k;have kw:=wQ (hw zs[i] (List.getElem_mem hi'.2));simp[IntKind.min,IntKind.max,IntKind.signed,IntKind.bits]at kw;simp only[List.getElem_take];exact⟨by simpa using k,kw⟩
end Go.Proofs.YtdehaommhbjakaaGreat.Ty
