/- Joined contracts. No conditions. -/
import Derived.Test.YtapbeogoojejmaaGreatCS
import Derived.Test.YtapbeogoojejmaaGreatC38
import Derived.Test.YtapbeogoojejmaaGreatC40
set_option maxRecDepth 20000
namespace Go.Proofs.YtapbeogoojejmaaGreat
open Go Go.RowKit Go.Stg Go.ChangeShapes Go.WideShapes Go.ChangeAt
theorem open_agg_cells {P:Program} {w:World} {r:Reach} {base:Nat} {t:TypeId} {v:Value} {ts:List TypeId} (ha:(match P.underlying t with|some (.struct _)|some (.array _ _)=>true|_=>false)=true)
  (hts:P.cellTypes P.depth t=some ts) (hC:P.cellsOf t=ts.length) (hval:Value.okWide P w r base t v):
  ∃cs:Array Value,v=.agg cs∧cs.size=ts.length∧∀(i:Nat) (hi:i<cs.size) u,ts[i]? =some u→Cell.okWide P w r base u cs[i]:=by
 have h:∃cs,v=.agg cs∧cs.size=P.cellsOf t∧Row.okWide P w r base t cs:=by
  unfold Value.okWide at hval;split at hval
  ·exact hval
  ·exact hval
  ·rename_i h1 h2;split at ha
   ·rename_i hs;exact absurd hs (h1 _)
   ·rename_i hs;exact absurd hs (h2 _ _)
   ·cases ha
 obtain⟨cs,rfl,hsz,ts',hts',_,hrow⟩:=h;have:ts'=ts:=by rw[hts]at hts';exact(Option.some.inj hts').symm
 subst this;refine⟨cs,rfl,by omega,fun i hi u hu=> ?_⟩;obtain⟨u',hu',hc⟩:=hrow i cs[i] (by simp[hi]);have hm:i%ts'.length=i:=Nat.mod_eq_of_lt (by omega);rw[hm,hu]at hu';rw[Option.some.inj hu'];exact hc
def CfR (f:Cf):Prop:=(0≤f.first∧f.first≤4294967295)∧f.b≤9223372036854775807∧f.o≤9223372036854775807∧f.r≤9223372036854775807
theorem open_cfg {H:Type} {enc:TypeId×Value→H} {W:World} {base:Nat} {v:Value} {d:DataW H} {ps:List MemPlace} (hval:Value.okWide Tryz.prog W .any base 81 v) (_h:DataW.Trod enc Tryz.prog W 0 (fun _=>true) true 81 v d ps):∃f:Cf,v=.agg (cfA f)∧CfR f:=by
 obtain⟨cs,rfl,hsz,hc⟩:=open_agg_cells (ts:=[3,3,77,3,3,3,3,3,3]) (by kernel_rfl) (by kernel_rfl) (by kernel_rfl) hval;have hsz:cs.size=9:=hsz;obtain⟨x0,e0,_⟩:=cell_int (k:=.i64) Tryz.underlying3 (hc 0 (by omega) 3 rfl);obtain⟨x1,e1,_⟩:=cell_int (k:=.i64) Tryz.underlying3 (hc 1 (by omega) 3 rfl);obtain⟨x2,e2,b2⟩:=cell_int (k:=.u32) Tryz.underlying77 (hc 2 (by omega) 77 rfl);obtain⟨x3,e3,_⟩:=cell_int (k:=.i64) Tryz.underlying3 (hc 3 (by omega) 3 rfl);obtain⟨x4,e4,b4⟩:=cell_int (k:=.i64) Tryz.underlying3 (hc 4 (by omega) 3 rfl);obtain⟨x5,e5,b5⟩:=cell_int (k:=.i64) Tryz.underlying3 (hc 5 (by omega) 3 rfl);obtain⟨x6,e6,b6⟩:=cell_int (k:=.i64) Tryz.underlying3 (hc 6 (by omega) 3 rfl);obtain⟨x7,e7,_⟩:=cell_int (k:=.i64) Tryz.underlying3 (hc 7 (by omega) 3 rfl);obtain⟨x8,e8,_⟩:=cell_int (k:=.i64) Tryz.underlying3 (hc 8 (by omega) 3 rfl);simp[IntKind.min,IntKind.max,IntKind.signed,IntKind.bits]at b2 b4 b5 b6;refine⟨⟨x0,x1,x2,x3,x4,x5,x6,x7,x8⟩,?_,b2,b4.2,b5.2,b6.2⟩;congr 1;apply Array.ext
 ·exact hsz
 ·intro i h1 h2;have hi:i<9:=by omega
  have:i=0∨i=1∨i=2∨i=3∨i=4∨i=5∨i=6∨i=7∨i=8:=by omega
  rcases this with rfl|rfl|rfl|rfl|rfl|rfl|rfl|rfl|rfl<;>assumption
end Go.Proofs.YtapbeogoojejmaaGreat
