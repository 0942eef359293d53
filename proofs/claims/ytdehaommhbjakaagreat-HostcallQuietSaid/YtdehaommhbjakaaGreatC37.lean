/- Joined contracts. No conditions. -/
import Derived.Test.YtdehaommhbjakaaGreatC36
set_option maxHeartbeats 8000000
set_option maxRecDepth 20000
namespace Go.Proofs.YtdehaommhbjakaaGreat
open RowKit Stg
open Ty (aw)
theorem pk {P:Program} {fn:Func} {p p2 u:Tmp} {ty t ty2 t2:TypeId} (h:fn.results=#[.cell p ty,.cell p2 ty2,.tmp u]) {tmps:Array Value} {w:World} {g g2:Nat} {cs cs2:Array Value} {fr fr2:Nat×Nat} {d d2:TypeDesc} {v:Value}
  (hp:tmps.getD p undef=.pointer (some ⟨g,0,none⟩)) (hp2:tmps.getD p2 undef=.pointer (some ⟨g2,0,none⟩)) (hv:tmps.getD u undef=v) (hg:w.heap[g]? =some (.cells cs t fr)) (hg2:w.heap[g2]? =some (.cells cs2 t2 fr2))
  (hu:P.underlying ty=some d) (hd:(match d with| .struct _| .array _ _=>true|_=>false)=true) (hi:(P.info? ty).map (·.size)=some cs.size)
  (hu2:P.underlying ty2=some d2) (hd2:(match d2 with| .struct _| .array _ _=>true|_=>false)=true) (hi2:(P.info? ty2).map (·.size)=some cs2.size):
  (results fn tmps).run P w=.ok (.tuple #[.agg cs,.agg cs2,v]) w:=by
 have h1:=run_loadVar_row w g t ty cs fr d hg hu hd hi;have h2:=run_loadVar_row w g2 t2 ty2 cs2 fr2 d2 hg2 hu2 hd2 hi2;simp only[results,h];simp only[Array.getD_eq_getD_getElem?]at hp hp2 hv;simp[Sem.run_bind,Result.andThen,hp,hp2,hv,asAddr,h1,h2]
theorem E2 {t:Ty.Ty} (ht:Ty.du t) {i:Int} (h:Ty.eH t.1 t.2 i=0):Ty.kM t.1 t.2 i=#[.int .i64 (eF t i).1,.int .i64 (eF t i).2.1,.int .i64 (eF t i).2.2]:=by
 have he:Ty.bS t.1 t.2=0:=ht;unfold Ty.eH at h;rw[if_pos he]at h;unfold Ty.kM eF;split at h
 ·rename_i hr;rw[if_pos ⟨he,hr⟩];by_cases c:0<t.1
  ·rw[if_pos c,if_pos c]
  ·rw[if_neg c,if_neg c];have hn:i<t.2.length:=by
    have:=hr.2;unfold Ty.eP at this;rw[if_pos he,if_neg c]at this;exact this
   obtain⟨n,rfl⟩:=Int.eq_ofNat_of_zero_le hr.1;rw[Ty.FC,Ty.rX (by omega),Int.toNat_natCast];simp only[List.getD_eq_getElem?_getD,List.getElem?_eq_getElem (show n<t.2.length by omega),Option.getD_some]
 ·cases h
def sH (s:HS) (p o acc i:Int) (w:World) (e:Ending) (w':World):Prop:=
 ∃xh xo xt xf xl p1 p2 p3,e=.returned (.tuple #[.agg #[.int .u64 xh,.int .i64 xo,.int .i64 xt,.int .i64 xf,.int .i64 xl],.agg #[.int .i64 p1,.int .i64 p2,.int .i64 p3],.int .i64 (dt s p o acc i)])∧Mod [] w w'∧
  (dt s p o acc i=0→a8 s o=⟨xh,xo,xt,xf,xl⟩∧eF (bG s o) i=(p1,p2,p3))
theorem oB {F:List Nat} {W w:World} {cs:List ai} {a:HA} {c:HC} {k:Nat} {s:HS} (hc:c.Ok) (hI:az c k s) (hk:k≤1000) {u:List Ext} {B:List Int} {fm:Int→Qt.Q} (hS:af F W (gF a c s.R s.T s.L s.evs s.miss s.st u B fm++cs) w)
  (p o acc i:Int) (o0:0≤o) (o1:o≤18446744073709551615):
  Calls Tryz.prog 113 #[.pointer (some ⟨a.hb,0,none⟩),.int .i64 p,.int .u64 o,.int .i64 acc,.int .i64 i] w (sH s p o acc i w):=by
 have hrs:=zh fun w' (hm:Mod [] w w')=>lr hc hI hk (hS.then hm) p o acc o0 o1
 have hm0:=zh (((Mod.refl [] w).alloc (.cells #[.int .u64 0,.int .i64 0,.int .i64 0,.int .i64 0,.int .i64 0] 106)).alloc (.cells #[.int .i64 0,.int .i64 0,.int .i64 0] 211));have hx0:=zh (aI (o:=.cells #[.int .i64 0,.int .i64 0,.int .i64 0] 211) (an w (.cells #[.int .u64 0,.int .i64 0,.int .i64 0,.int .i64 0,.int .i64 0] 106)));have hy0:=an (w.alloc (.cells #[.int .u64 0,.int .i64 0,.int .i64 0,.int .i64 0,.int .i64 0] 106)) (.cells #[.int .i64 0,.int .i64 0,.int .i64 0] 211);rw[size_alloc]at hy0;have hy0:=zh hy0;by_cases hE:aV s p o acc=0
 ·obtain⟨j,hj,hjn,hlv,hent,_⟩:=lC hI (gi hE);have htr:=(hI.cG _ (ic hjn hlv)).2.1;rw[←hent]at htr;have hty:Ty.du (bG s o):=az.mF hc hI htr;have hto:=zh fun w' (hm:Mod [] w w')=>wC ((hS.then hm).block 0 rfl) ((hS.then hm).part 2 rfl).choose_spec.1 (a8 s o)
  have hbd:=hty.bounds;have hpl:=zh fun v w' (h:aw w' v (bG s o).2)=>Ty.D3 (bG s o).1 v (bG s o).2 i w' h (by omega) (by omega)
  have hfe:dt s p o acc i=if Ty.eH (bG s o).1 (bG s o).2 i≠0 then Ty.eH (bG s o).1 (bG s o).2 i else if(eF (bG s o) i).2.2=6 then 8 else 0:=by unfold dt;rw[if_neg (by simp[hE])]
  have hlk:Ty.aN s.R (a8 s o).tag=bG s o:=rfl;rw[hE,kI hE]at hrs;rw[hlk]at hto;obtain⟨z1,z2,z3,e1,hpv,hz⟩:∃z1 z2 z3 e1,Ty.iI (bG s o).1 (bG s o).2 i=.tuple #[.agg #[.int .i64 z1,.int .i64 z2,.int .i64 z3],.int .i64 e1]∧dt s p o acc i=(if e1=0∧z3=6 then 8 else e1)∧(e1=0→eF (bG s o) i=(z1,z2,z3)):=by
   by_cases h:Ty.eH (bG s o).1 (bG s o).2 i=0
   ·refine⟨(eF (bG s o) i).1,(eF (bG s o) i).2.1,(eF (bG s o) i).2.2,0,by unfold Ty.iI;rw[E2 hty h,h],?_,fun _=>rfl⟩;rw[hfe,if_neg (by simp[h])];simp
   ·refine⟨0,0,0,Ty.eH (bG s o).1 (bG s o).2 i,?_,?_,fun h'=>absurd h' h⟩
    ·unfold Ty.iI;congr 3;have he:Ty.bS (bG s o).1 (bG s o).2=0:=hty;unfold Ty.eH at h;rw[if_pos he]at h;unfold Ty.kM;split at h
     ·exact absurd rfl h
     ·rename_i hr;rw[if_neg (fun h2=>hr h2.2)]
    ·rw[hfe,if_pos h,if_neg (fun h2=>h h2.1)]
  rw[hpv]at hpl;unfold sH;obtain⟨hz1,hz2⟩:=hz;obtain⟨E,hEq⟩:∃E,dt s p o acc i=E:=⟨_,rfl⟩;rw[hEq]at hz1;rw[hEq];have hz2H:=zh hz2;obtain⟨X,hX⟩:∃X,a8 s o=X:=⟨_,rfl⟩;rw[hX]at hrs hto;obtain⟨xh,xo,xt,xf,xl⟩:=X;simp only[Tb.b8]at hrs hto;have hXH:=zh hX;generalize bG s o=TT at*;obtain⟨tl,tf⟩:=TT;simp only at hto hpl;have hz1H:=zh hz1;clear hfe hlk hE hS hj hlv hent htr hty hbd hz1 hz2 hEq hX hpv;go_enter Tryz.func113,Tryz.ntmps113;go_wp2_with fail;refine(hrs.out _ hm0.out).mono ?_;rintro e w1 ⟨rfl,hm1⟩;have hm1H:=zh ((hm0.out.ag hm1).alloc (.cells #[.int .u64 xh,.int .i64 xo,.int .i64 xt,.int .i64 xf,.int .i64 xl] 106));have hx1:=zh (aI (o:=.cells #[.int .u64 xh,.int .i64 xo,.int .i64 xt,.int .i64 xf,.int .i64 xl] 106) (hm1.at hx0.out (by simp)));have hy1:=zh (aI (o:=.cells #[.int .u64 xh,.int .i64 xo,.int .i64 xt,.int .i64 xf,.int .i64 xl] 106) (hm1.at hy0.out (by simp)));have hz0:=zh (an w1 (.cells #[.int .u64 xh,.int .i64 xo,.int .i64 xt,.int .i64 xf,.int .i64 xl] 106));have hsz:=hm1.size;simp only[size_alloc]at hsz;have hlt1:w.heap.size<w1.heap.size:=by omega
  have hlt2:w.heap.size+1<w1.heap.size:=by omega
  clear hm1 hrs hm0 hx0 hy0;go_wp2_with fail;refine(hto.out _ hm1H.out).mono ?_;rintro e w2 ⟨v,rfl,hfs,hm2⟩;have hm2H:=zh (hm1H.out.ag hm2);have hx2:=zh (hm2.at hx1.out (by simp));have hy2:=zh (hm2.at hy1.out (by simp));have hz2':=zh (hm2.at hz0.out (by simp));have hlt3:=hm2.gt;have hfsH:=zh hfs;clear hm2 hto hm1H hx1 hy1 hz0 hfs;go_wp2_with fail;refine(hpl.out v _ hfsH.out).mono ?_;rintro e w3 ⟨rfl,hm3⟩;have hm3H:=zh ((hm2H.out.ag hm3).alloc (.cells #[.int .i64 z1,.int .i64 z2,.int .i64 z3] 211));have hx3:=zh (aI (o:=.cells #[.int .i64 z1,.int .i64 z2,.int .i64 z3] 211) (hm3.at hx2.out (by simp)));have hy3:=zh (aI (o:=.cells #[.int .i64 z1,.int .i64 z2,.int .i64 z3] 211) (hm3.at hy2.out (by simp)));have hz3:=zh (aI (o:=.cells #[.int .i64 z1,.int .i64 z2,.int .i64 z3] 211) (hm3.at hz2'.out (by simp)));have hp3:=zh (an w3 (.cells #[.int .i64 z1,.int .i64 z2,.int .i64 z3] 211));have hlt4:=hm3.size;have hck:=ae hp3.out;clear hm3 hpl hm2H hx2 hy2 hz2' hfsH;by_cases he:e1=0
  ·subst he;by_cases h6:z3=6
   ·have h6':(z3==6)=true:=by simpa using h6
    have hE8:E=8:=by rw[hz1H.out];simp[h6]
    subst hE8;clear h6;go_wp2_with fail;generalize hW3:w3.alloc (.cells #[.int .i64 z1,.int .i64 z2,.int .i64 z3] 211)=W3 at*;generalize w3.heap.size=b4 at*;generalize w1.heap.size=b3 at*;have k1:=GW.cells (S:=[w.heap.size,w.heap.size+1]) hz3.out (by simp;omega);have k2:=GW.cells (S:=[w.heap.size,w.heap.size+1]) hp3.out (by simp;omega);refine bV [w.heap.size,w.heap.size+1] (by kernel_rfl) (by kernel_rfl) ?_;refine sq 3 ?_;refine cQ (p:=⟨w.heap.size,0,none⟩) (u:=.agg #[.int .u64 xh,.int .i64 xo,.int .i64 xt,.int .i64 xf,.int .i64 xl]) (fun w'=>w'.setCells w.heap.size 0 (#[.int .u64 xh,.int .i64 xo,.int .i64 xt,.int .i64 xf,.int .i64 xl]:Array Value).toList) (fun w'=>Mod [w.heap.size] W3 w'∧w'.heap[w.heap.size]? =some (.cells #[.int .u64 xh,.int .i64 xo,.int .i64 xt,.int .i64 xf,.int .i64 xl] 106 (0,0))) rfl rfl rfl rfl rfl (fun w' hw=> ?_) (fun w' hw=> ?_) (fun w' h=>ah.of (h.1.mono (by simp))) ?_
    ·exact run_storeAt_mid (P:=Tryz.prog) w' w.heap.size 0 106 #[.int .u64 xh,.int .i64 xo,.int .i64 xt,.int .i64 xf,.int .i64 xl] (eC (hw.at hx3.out (by simp)) rfl) (by kernel_rfl) (by simp[Value.oneCell'])
    ·exact⟨Mod.setCells (b:=w.heap.size) (.inl (by simp)) _ _ _ (hw.mono (by simp)),dK (hw.at hx3.out (by simp)) rfl⟩
    refine cQ (p:=⟨w.heap.size+1,0,none⟩) (u:=.agg #[.int .i64 z1,.int .i64 z2,.int .i64 z3]) (fun w'=>w'.setCells (w.heap.size+1) 0 (#[.int .i64 z1,.int .i64 z2,.int .i64 z3]:Array Value).toList) (fun w'=>Mod [w.heap.size,w.heap.size+1] W3 w'∧w'.heap[w.heap.size]? =some (.cells #[.int .u64 xh,.int .i64 xo,.int .i64 xt,.int .i64 xf,.int .i64 xl] 106 (0,0))∧w'.heap[w.heap.size+1]? =some (.cells #[.int .i64 z1,.int .i64 z2,.int .i64 z3] 211 (0,0))) rfl rfl rfl rfl rfl (fun w' hw=> ?_) (fun w' hw=> ?_) (fun w' h=>ah.of h.1) ?_
    ·exact run_storeAt_mid (P:=Tryz.prog) w' (w.heap.size+1) 0 211 #[.int .i64 z1,.int .i64 z2,.int .i64 z3] (eC (hw.1.at hy3.out (by simp)) rfl) (by kernel_rfl) (by simp[Value.oneCell'])
    ·exact⟨Mod.setCells (b:=w.heap.size+1) (.inl (by simp)) _ _ _ (hw.1.mono (by simp)),(Mod.setCells (S:=[w.heap.size+1]) (b:=w.heap.size+1) (.inl (by simp)) _ 0 _ (Mod.refl _ _)).at hw.2 (by simp),dK (hw.1.at hy3.out (by simp)) rfl⟩
    refine sq 1 ?_;refine au fun w5 hw5=> ?_
    have hw5H:=zh hw5;clear k1 k2 hw5 hck;go_wp2_with fail;refine bodyPost_ret (pk Tryz.results113 rfl rfl rfl hw5H.out.2.1 hw5H.out.2.2 Tryz.underlying106 rfl (by kernel_rfl) Tryz.underlying211 rfl (by kernel_rfl)) rfl ?_;exact⟨xh,xo,xt,xf,xl,z1,z2,z3,rfl,hm3H.out.then hw5H.out.1 (fun x hx=>.inr (by simp at hx;omega)),by simp⟩
   ·have h6':(z3==6)=false:=by simpa using h6
    have hE0:E=0:=by rw[hz1H.out];simp[h6]
    subst hE0;clear h6;go_wp2_with fail;generalize hW3:w3.alloc (.cells #[.int .i64 z1,.int .i64 z2,.int .i64 z3] 211)=W3 at*;generalize w3.heap.size=b4 at*;generalize w1.heap.size=b3 at*;have k1:=GW.cells (S:=[w.heap.size,w.heap.size+1]) hz3.out (by simp;omega);have k2:=GW.cells (S:=[w.heap.size,w.heap.size+1]) hp3.out (by simp;omega);refine bV [w.heap.size,w.heap.size+1] (by kernel_rfl) (by kernel_rfl) ?_;refine sq 3 ?_;refine cQ (p:=⟨w.heap.size,0,none⟩) (u:=.agg #[.int .u64 xh,.int .i64 xo,.int .i64 xt,.int .i64 xf,.int .i64 xl]) (fun w'=>w'.setCells w.heap.size 0 (#[.int .u64 xh,.int .i64 xo,.int .i64 xt,.int .i64 xf,.int .i64 xl]:Array Value).toList) (fun w'=>Mod [w.heap.size] W3 w'∧w'.heap[w.heap.size]? =some (.cells #[.int .u64 xh,.int .i64 xo,.int .i64 xt,.int .i64 xf,.int .i64 xl] 106 (0,0))) rfl rfl rfl rfl rfl (fun w' hw=> ?_) (fun w' hw=> ?_) (fun w' h=>ah.of (h.1.mono (by simp))) ?_
    ·exact run_storeAt_mid (P:=Tryz.prog) w' w.heap.size 0 106 #[.int .u64 xh,.int .i64 xo,.int .i64 xt,.int .i64 xf,.int .i64 xl] (eC (hw.at hx3.out (by simp)) rfl) (by kernel_rfl) (by simp[Value.oneCell'])
    ·exact⟨Mod.setCells (b:=w.heap.size) (.inl (by simp)) _ _ _ (hw.mono (by simp)),dK (hw.at hx3.out (by simp)) rfl⟩
    refine cQ (p:=⟨w.heap.size+1,0,none⟩) (u:=.agg #[.int .i64 z1,.int .i64 z2,.int .i64 z3]) (fun w'=>w'.setCells (w.heap.size+1) 0 (#[.int .i64 z1,.int .i64 z2,.int .i64 z3]:Array Value).toList) (fun w'=>Mod [w.heap.size,w.heap.size+1] W3 w'∧w'.heap[w.heap.size]? =some (.cells #[.int .u64 xh,.int .i64 xo,.int .i64 xt,.int .i64 xf,.int .i64 xl] 106 (0,0))∧w'.heap[w.heap.size+1]? =some (.cells #[.int .i64 z1,.int .i64 z2,.int .i64 z3] 211 (0,0))) rfl rfl rfl rfl rfl (fun w' hw=> ?_) (fun w' hw=> ?_) (fun w' h=>ah.of h.1) ?_
    ·exact run_storeAt_mid (P:=Tryz.prog) w' (w.heap.size+1) 0 211 #[.int .i64 z1,.int .i64 z2,.int .i64 z3] (eC (hw.1.at hy3.out (by simp)) rfl) (by kernel_rfl) (by simp[Value.oneCell'])
    ·exact⟨Mod.setCells (b:=w.heap.size+1) (.inl (by simp)) _ _ _ (hw.1.mono (by simp)),(Mod.setCells (S:=[w.heap.size+1]) (b:=w.heap.size+1) (.inl (by simp)) _ 0 _ (Mod.refl _ _)).at hw.2 (by simp),dK (hw.1.at hy3.out (by simp)) rfl⟩
    refine sq 1 ?_;refine au fun w5 hw5=> ?_
    have hw5H:=zh hw5;clear k1 k2 hw5 hck;go_wp2_with fail;refine bodyPost_ret (pk Tryz.results113 rfl rfl rfl hw5H.out.2.1 hw5H.out.2.2 Tryz.underlying106 rfl (by kernel_rfl) Tryz.underlying211 rfl (by kernel_rfl)) rfl ?_;exact⟨xh,xo,xt,xf,xl,z1,z2,z3,rfl,hm3H.out.then hw5H.out.1 (fun x hx=>.inr (by simp at hx;omega)),by first|exact fun _=>⟨hXH.out,hz2H.out rfl⟩|exact⟨hXH.out,hz2H.out trivial⟩|exact fun _=>⟨hXH.out,hz2H.out trivial⟩⟩
  ·have he':(e1==0)=false:=by simpa using he
   have hEe:E=e1:=by rw[hz1H.out];simp[he]
   subst hEe;have heH:=zh he;clear he;go_wp2_with fail;generalize hW3:w3.alloc (.cells #[.int .i64 z1,.int .i64 z2,.int .i64 z3] 211)=W3 at*;generalize w3.heap.size=b4 at*;generalize w1.heap.size=b3 at*;have k1:=GW.cells (S:=[w.heap.size,w.heap.size+1]) hz3.out (by simp;omega);have k2:=GW.cells (S:=[w.heap.size,w.heap.size+1]) hp3.out (by simp;omega);refine bV [w.heap.size,w.heap.size+1] (by kernel_rfl) (by kernel_rfl) ?_;refine sq 3 ?_;refine cQ (p:=⟨w.heap.size,0,none⟩) (u:=.agg #[.int .u64 xh,.int .i64 xo,.int .i64 xt,.int .i64 xf,.int .i64 xl]) (fun w'=>w'.setCells w.heap.size 0 (#[.int .u64 xh,.int .i64 xo,.int .i64 xt,.int .i64 xf,.int .i64 xl]:Array Value).toList) (fun w'=>Mod [w.heap.size] W3 w'∧w'.heap[w.heap.size]? =some (.cells #[.int .u64 xh,.int .i64 xo,.int .i64 xt,.int .i64 xf,.int .i64 xl] 106 (0,0))) rfl rfl rfl rfl rfl (fun w' hw=> ?_) (fun w' hw=> ?_) (fun w' h=>ah.of (h.1.mono (by simp))) ?_
   ·exact run_storeAt_mid (P:=Tryz.prog) w' w.heap.size 0 106 #[.int .u64 xh,.int .i64 xo,.int .i64 xt,.int .i64 xf,.int .i64 xl] (eC (hw.at hx3.out (by simp)) rfl) (by kernel_rfl) (by simp[Value.oneCell'])
   ·exact⟨Mod.setCells (b:=w.heap.size) (.inl (by simp)) _ _ _ (hw.mono (by simp)),dK (hw.at hx3.out (by simp)) rfl⟩
   refine cQ (p:=⟨w.heap.size+1,0,none⟩) (u:=.agg #[.int .i64 z1,.int .i64 z2,.int .i64 z3]) (fun w'=>w'.setCells (w.heap.size+1) 0 (#[.int .i64 z1,.int .i64 z2,.int .i64 z3]:Array Value).toList) (fun w'=>Mod [w.heap.size,w.heap.size+1] W3 w'∧w'.heap[w.heap.size]? =some (.cells #[.int .u64 xh,.int .i64 xo,.int .i64 xt,.int .i64 xf,.int .i64 xl] 106 (0,0))∧w'.heap[w.heap.size+1]? =some (.cells #[.int .i64 z1,.int .i64 z2,.int .i64 z3] 211 (0,0))) rfl rfl rfl rfl rfl (fun w' hw=> ?_) (fun w' hw=> ?_) (fun w' h=>ah.of h.1) ?_
   ·exact run_storeAt_mid (P:=Tryz.prog) w' (w.heap.size+1) 0 211 #[.int .i64 z1,.int .i64 z2,.int .i64 z3] (eC (hw.1.at hy3.out (by simp)) rfl) (by kernel_rfl) (by simp[Value.oneCell'])
   ·exact⟨Mod.setCells (b:=w.heap.size+1) (.inl (by simp)) _ _ _ (hw.1.mono (by simp)),(Mod.setCells (S:=[w.heap.size+1]) (b:=w.heap.size+1) (.inl (by simp)) _ 0 _ (Mod.refl _ _)).at hw.2 (by simp),dK (hw.1.at hy3.out (by simp)) rfl⟩
   refine sq 1 ?_;refine au fun w5 hw5=> ?_
   have hw5H:=zh hw5;clear k1 k2 hw5 hck;go_wp2_with fail;refine bodyPost_ret (pk Tryz.results113 rfl rfl rfl hw5H.out.2.1 hw5H.out.2.2 Tryz.underlying106 rfl (by kernel_rfl) Tryz.underlying211 rfl (by kernel_rfl)) rfl ?_;exact⟨xh,xo,xt,xf,xl,z1,z2,z3,rfl,hm3H.out.then hw5H.out.1 (fun x hx=>.inr (by simp at hx;omega)),fun h=>absurd h heH.out⟩
 ·have hfe:dt s p o acc i=aV s p o acc:=by unfold dt;rw[if_pos hE]
  rw[j3 hE]at hrs;unfold sH;rw[hfe];generalize aV s p o acc=E at*;have hne:(E != 0)=true:=by simpa using hE
  have hEH:=zh hE;clear hfe hE hS;go_enter Tryz.func113,Tryz.ntmps113;go_wp2_with fail;refine(hrs.out _ hm0.out).mono ?_;rintro e w1 ⟨rfl,hm1⟩;have hm1H:=zh (hm0.out.ag hm1);have hx1:=zh (hm1.at hx0.out (by simp));have hy1:=zh (hm1.at hy0.out (by simp));have hsz:=hm1.size;simp only[size_alloc]at hsz;have hlt1:w.heap.size<w1.heap.size:=by omega
  have hlt2:w.heap.size+1<w1.heap.size:=by omega
  have c1:=ae hx1.out;have f1:=ay hx1.out;have c2:=ae hy1.out;have f2:=ay hy1.out;clear hm1 hrs hm0 hx0 hy0;go_wp2_with fail;have q1:=dK (cs:=#[.int .u64 0,.int .i64 0,.int .i64 0,.int .i64 0,.int .i64 0]) hx1.out rfl;have q2:=(Mod.setCells (S:=[w.heap.size]) (b:=w.heap.size) (.inl (by simp)) (#[.int .u64 0,.int .i64 0,.int .i64 0,.int .i64 0,.int .i64 0]).toList 0 w1 (Mod.refl _ _)).at hy1.out (by simp);have q3:=dK (cs:=#[.int .i64 0,.int .i64 0,.int .i64 0]) q2 rfl;have q4:=(Mod.setCells (S:=[w.heap.size+1]) (b:=w.heap.size+1) (.inl (by simp)) (#[.int .i64 0,.int .i64 0,.int .i64 0]).toList 0 _ (Mod.refl _ _)).at q1 (by simp);have qm:=Mod.setCells (b:=w.heap.size+1) (.inr (by omega)) (#[.int .i64 0,.int .i64 0,.int .i64 0]).toList 0 _ (Mod.setCells (b:=w.heap.size) (.inr (by omega)) (#[.int .u64 0,.int .i64 0,.int .i64 0,.int .i64 0,.int .i64 0]).toList 0 _ (hm1H.out));have q5:=aI (o:=.cells #[.int .u64 0,.int .i64 0,.int .i64 0,.int .i64 0,.int .i64 0] 106) q3;have q6:=aI (o:=.cells #[.int .u64 0,.int .i64 0,.int .i64 0,.int .i64 0,.int .i64 0] 106) q4;refine bodyPost_ret (pk Tryz.results113 rfl rfl rfl q6 q5 Tryz.underlying106 rfl (by kernel_rfl) Tryz.underlying211 rfl (by kernel_rfl)) rfl ?_;exact⟨0,0,0,0,0,0,0,0,rfl,qm.alloc _,fun h=>absurd h hEH.out⟩
theorem mP {w:World} {b g n cap:Nat} {B:List Int} (h:w.ownsRow b 5 1 (.slice (some ⟨g,0,none⟩) n cap) n (aR B)) (hb:∀x∈B,0≤x∧x≤255) {p m:Nat} (hp:p+m≤n) (hn:n≤1048576) {q:Nat} (hq:0<m→q=p) (c:Nat):
  cI w (.slice (some ⟨g,q,none⟩) m c) ((B.drop p).take m):=by
 have hl:=h.1;rw[eN]at hl;have e:((B.drop p).take m).length=m:=by simp;omega
 refine .inr ⟨g,q,c,by rw[e],(h.lt g rfl).2,by rw[e];unfold maxLen;omega,fun i hi=> ?_⟩;rw[e]at hi;have hq':=hq (by omega);subst hq';have hi2:q+i<B.length:=by omega
 rw[show((B.drop q).take m)[i]'(by omega)=B[q+i] by simp];refine⟨hb _ (List.getElem_mem _),?_⟩;rw[h.cellAt (q+i) (by omega)];simp[aR,hi2]
theorem Dz {ar:Nat} {size:Int} {used:List Ext} {B:List Int} {w:World} {f:List Nat} (h:(b6 ar size used B).on w f) {o l:Nat} (hx:((o:Int),(l:Int))∈used) (off n:Nat) (hn:off+n≤l):
  Calls Tryz.prog 44 #[.pointer (some ⟨ar,0,none⟩),.agg #[.int .i64 o,.int .i64 l],.int .i64 off,.int .i64 n] w fun e w'=>∃v,e=.returned (.tuple #[v,.int .i64 0])∧w'.ownsRow w.heap.size 5 1 v n (aR ((B.drop (o+off)).take n))∧Mod [] w w':=by
 obtain⟨hk,⟨hl0,hol,hB⟩,hhas,ab,g,cap,⟨hc1,hc2⟩,hH⟩:=b6.view h hx;have hS0:=zh ((af.start hH).alloc (.cells #[.int .i64 o,.int .i64 l] 104));have hm0:=zh ((Mod.refl [] w).alloc (.cells #[.int .i64 o,.int .i64 l] 104));have hsl:=zh fun w' (h':af f w (aj w.heap.size (.cells #[.int .i64 o,.int .i64 l] 104 (0,0))::fe ar ab (.slice (some ⟨g,0,none⟩) B.length cap) (bK size used) used B) w')=>
  mR (h'.block 1 rfl) (h'.part 2 rfl).choose_spec.1 o l hhas hl0 hol hc1 hB hc2
 have hwi:=zh fun w=>nT (some ⟨g,o,none⟩) l (cap-o) (by omega) off n (by omega) w
 have hwt:jk off n l=true:=by unfold jk;simp;omega
 rw[hwt]at hwi;have hkH:=zh hk;have hlen:((B.drop (o+off)).take n).length=n:=by simp;omega
 have hlenH:=zh hlen;generalize hbs:(B.drop (o+off)).take n=bs at*;have hbsH:=zh hbs;clear h hH hhas hk hwt hx hlen hbs;have h0:decide ((n:Int)<0)=false:=by simp
 go_enter Tryz.func44,Tryz.ntmps44;go_wp2_with fail;refine(hsl.out _ hS0.out).mono ?_;rintro e w1 ⟨rfl,hm1⟩;have hS1:=zh (hS0.out.then hm1);have hmH:=zh (hm0.out.ag hm1);clear hm1 hS0 hsl hm0;go_wp2_with fail;refine(hwi.out _).mono ?_;rintro e w2 ⟨rfl,hm2⟩;have hS2:=zh (hS1.out.then hm2);have hm2H:=zh (hmH.out.ag hm2);clear hm2 hS1 hwi hmH;go_wp2_with fail;all_goals
  refine(wb _ bs (by rw[hlenH.out];omega) w2 ?_).mono ?_
  ·rw[←hbsH.out];exact mP (hS2.out.row 3 rfl) hkH.out.byte (p:=o+off) (m:=n) (by omega) (by omega) (by omega) _
  rintro e w3 ⟨v,rfl,hr,hm3⟩;obtain⟨va,vl,vc,rfl⟩:=dW hr;have hrH:=zh hr;have hm3H:=zh hm3;clear hr hm3 hS2;go_wp2_with fail;go_ret2;refine⟨_,rfl,?_,hm2H.out.ag hm3H.out⟩;have:=aE hrH.out hm2H.out.size;rw[hlenH.out]at this;exact this
def jY (n:Nat):Prop:=n=1∨n=2∨n=4∨n=8
theorem jY.pos {n:Nat} (h:jY n):0<n∧n≤8:=by unfold jY at h;omega
theorem rQ {w:World} {ar ab g m cap:Nat} {fr used:List Ext} {f:List Nat} (hb:w.heap[ar]? =some (.cells #[.pointer (some ⟨ab,0,none⟩),.slice (some ⟨g,0,none⟩) m cap] 164 (0,0))) (ha:(db ab fr used).on w f)
  (o l:Nat) (hu:hasB used (o,l)=true) (hl:o+l≤m) (hc:m≤cap) (hm:m≤1048576) (hcm:cap≤maxLen) (off n:Nat) (hn:off+n≤l) (hw:jY n):
  Calls Tryz.prog 161 #[.pointer (some ⟨ar,0,none⟩),.agg #[.int .i64 o,.int .i64 l],.int .i64 off,.int .i64 n] w fun e w'=>e=.returned (.tuple #[.slice (some ⟨g,o+off,none⟩) n (cap-o-off),.int .i64 0])∧Mod [] w w':=by
 have hn0:=hw.pos;have hm0:=zh ((Mod.refl [] w).alloc (.cells #[.int .i64 o,.int .i64 l] 104));have hsl:=zh fun w' (h':Mod [] w w')=>mR (h'.at hb (by simp)) (ai.bj (db ab fr used) ha h' (by simp)) o l hu (by omega) hl hc hm hcm
 have hwi:=zh fun w=>nT (some ⟨g,o,none⟩) l (cap-o) (by omega) off n (by omega) w
 have hwt:jk off n l=true:=by unfold jk;simp;omega
 rw[hwt]at hwi;have hne:¬(cap-o=off):=by omega
 have b9:=zh hw;clear hb ha hu hwt hw;rcases b9.out with rfl|rfl|rfl|rfl
 all_goals
  clear b9;go_enter Tryz.func161,Tryz.ntmps161;go_wp2_with fail;refine(hsl.out _ hm0.out).mono ?_;rintro e w1 ⟨rfl,hm1⟩;have hmH:=zh (hm0.out.ag hm1);clear hm1 hm0 hsl;go_wp2_with fail;refine(hwi.out _).mono ?_;rintro e w2 ⟨rfl,hm2⟩;have hm2H:=zh (hmH.out.ag hm2);clear hm2 hwi hmH;go_wp2_with fail;go_ret2;refine⟨?_,hm2H.out⟩
  first
  |rfl
  |(show Ending.returned (.tuple #[.slice _ (off+_-off) _,_])=_
    rw[Nat.add_sub_cancel_left];rfl)
theorem CH {ar:Nat} {size:Int} {used:List Ext} {B:List Int} {w:World} {f:List Nat} (h:(b6 ar size used B).on w f) {o l:Nat} (hx:((o:Int),(l:Int))∈used) (off n:Nat) (hn:off+n≤l) (hw:jY n):
  Calls Tryz.prog 114 #[.pointer (some ⟨ar,0,none⟩),.agg #[.int .i64 o,.int .i64 l],.int .i64 off,.int .i64 n] w fun e w'=>e=.returned (.tuple #[.int .u64 (ch ((B.drop (o+off)).take n)),.int .i64 0])∧Mod [] w w':=by
 obtain⟨hk,⟨hl0,hol,hB⟩,hhas,ab,g,cap,⟨hc1,hc2⟩,hH⟩:=b6.view h hx;have hn8:=hw.pos;have hS:=af.start hH;have hm0:=zh ((Mod.refl [] w).alloc (.cells #[.int .i64 o,.int .i64 l] 104));have hfd:=zh fun w' (h':Mod [] w w')=>rQ (h'.at (hS.block 0 rfl) (by simp)) (ai.bj (db ab (bK size used) used) (hS.part 1 rfl).choose_spec.1 h' (by simp)) o l hhas hol hc1 hB hc2 off n hn hw
 have hrow:=zh (hS.row 2 rfl);have hbyte:=zh hk.byte;have hlen:((B.drop (o+off)).take n).length=n:=by simp;omega
 have hby:∀x∈(B.drop (o+off)).take n,0≤x∧x≤255:=fun x hx=>hk.byte x (List.mem_of_mem_drop (List.mem_of_mem_take hx))
 have hbyH:=zh hby;generalize hbs:(B.drop (o+off)).take n=bs at*;have hbsH:=zh hbs;clear h hH hS hhas hk hx hbs hby;go_enter Tryz.func114,Tryz.ntmps114;go_wp2_with fail;refine(hfd.out _ hm0.out).mono ?_;rintro e w1 ⟨rfl,hm1⟩;have hmH:=zh (hm0.out.ag hm1);have hget:=zh fun(i:Nat) (c:Int) (hc:bs[i]? =some c)=>(show(0≤c∧c≤255)∧w1.cell? ⟨g,o+off+i,none⟩=some (.int .u8 c) by
  rw[←hbsH.out]at hc;obtain⟨hi,hc'⟩:=List.getElem?_eq_some_iff.1 hc;have hp:=mP (aG hrow.out hmH.out (by simp)) hbyte.out (p:=o+off) (m:=n) (by omega) (by omega) (fun _=>rfl) 0;rcases hp with⟨hp,_⟩|⟨sb,so,c2,hp,_,_,h4⟩
  ·cases hp
  ·simp at hp;obtain⟨⟨rfl,rfl⟩,_⟩:=hp;have:=h4 i hi;rw[hc']at this;exact this)
 clear hm1 hm0 hfd hrow hbyte;go_wp2_with fail;go_loopw [25,12] (fun i v wr=>∃k:Nat,k≤n∧i=.int .i64 k∧v=.int .u64 (ch (bs.take k))∧wr=w1) (fun i _ _=>n-(intOf i).toNat)
 case atStart=>exact⟨0,by omega,rfl,by simp[ch],rfl⟩
 case round=>
  obtain⟨k,hk,rfl,rfl,rfl⟩:=hrel;by_cases hlt:k<n
  ·have hcase:k=0∨k=1∨k=2∨k=3∨k=4∨k=5∨k=6∨k=7:=by omega
   rcases hcase with rfl|rfl|rfl|rfl|rfl|rfl|rfl|rfl
   ·obtain⟨c,hc,ht⟩:∃c,bs[0]? =some c∧bs.take 1=bs.take 0++[c]:=⟨bs[0]'(by omega),by simp,by rw[List.take_add_one,List.getElem?_eq_getElem (by omega)];rfl⟩;have hcb:=(hget.out 0 c hc);obtain⟨⟨c0,c1⟩,hcell⟩:=hcb
    try simp only[Nat.add_zero]at hcell
    have hr:=fU (bs.take 0) fun b hb=>hbyH.out b (List.mem_of_mem_take hb)
    rw[List.length_take,Nat.min_eq_left (by omega)]at hr;have hlt:=fV c (bs.take 0);rw[←ht,List.length_take,Nat.min_eq_left (by omega)]at hlt;have hltH:=zh hlt;clear ht hlt hc;obtain⟨vk,hvk⟩:∃vk,ch (bs.take 0)=vk:=⟨_,rfl⟩;rw[hvk]at hltH hr;simp only[hvk];simp only[Int.reducePow]at hr hltH;have hor:=Tb.fL (8*0) (c*1) vk (by omega) (by simp only[Nat.reduceMul,Int.reducePow];omega) (by omega) hr.1 (by simp only[Nat.reduceMul,Int.reducePow];omega) (by omega);clear hvk
    try simp only[Int.mul_one]at hor
    go_wp2_with fail;go_roundw
    case rel=>exact⟨1,by omega,by go_num,by first|(rw[hltH.out]<;>simp only[Int.mul_one];done)|(rw[hltH.out]<;>simp only[Int.mul_one,hor]),trivial⟩
    case measure=>simp[intOf];omega
   ·obtain⟨c,hc,ht⟩:∃c,bs[1]? =some c∧bs.take 2=bs.take 1++[c]:=⟨bs[1]'(by omega),by simp,by rw[List.take_add_one,List.getElem?_eq_getElem (by omega)];rfl⟩;have hcb:=(hget.out 1 c hc);obtain⟨⟨c0,c1⟩,hcell⟩:=hcb
    try simp only[Nat.add_zero]at hcell
    have hr:=fU (bs.take 1) fun b hb=>hbyH.out b (List.mem_of_mem_take hb)
    rw[List.length_take,Nat.min_eq_left (by omega)]at hr;have hlt:=fV c (bs.take 1);rw[←ht,List.length_take,Nat.min_eq_left (by omega)]at hlt;have hltH:=zh hlt;clear ht hlt hc;obtain⟨vk,hvk⟩:∃vk,ch (bs.take 1)=vk:=⟨_,rfl⟩;rw[hvk]at hltH hr;simp only[hvk];simp only[Int.reducePow]at hr hltH;have hor:=Tb.fL (8*1) (c*256) vk (by omega) (by simp only[Nat.reduceMul,Int.reducePow];omega) (by omega) hr.1 (by simp only[Nat.reduceMul,Int.reducePow];omega) (by omega);clear hvk
    try simp only[Int.mul_one]at hor
    go_wp2_with fail;go_roundw
    case rel=>exact⟨2,by omega,by go_num,by first|(rw[hltH.out]<;>simp only[Int.mul_one];done)|(rw[hltH.out]<;>simp only[Int.mul_one,hor]),trivial⟩
    case measure=>simp[intOf];omega
   ·obtain⟨c,hc,ht⟩:∃c,bs[2]? =some c∧bs.take 3=bs.take 2++[c]:=⟨bs[2]'(by omega),by simp,by rw[List.take_add_one,List.getElem?_eq_getElem (by omega)];rfl⟩;have hcb:=(hget.out 2 c hc);obtain⟨⟨c0,c1⟩,hcell⟩:=hcb
    try simp only[Nat.add_zero]at hcell
    have hr:=fU (bs.take 2) fun b hb=>hbyH.out b (List.mem_of_mem_take hb)
    rw[List.length_take,Nat.min_eq_left (by omega)]at hr;have hlt:=fV c (bs.take 2);rw[←ht,List.length_take,Nat.min_eq_left (by omega)]at hlt;have hltH:=zh hlt;clear ht hlt hc;obtain⟨vk,hvk⟩:∃vk,ch (bs.take 2)=vk:=⟨_,rfl⟩;rw[hvk]at hltH hr;simp only[hvk];simp only[Int.reducePow]at hr hltH;have hor:=Tb.fL (8*2) (c*65536) vk (by omega) (by simp only[Nat.reduceMul,Int.reducePow];omega) (by omega) hr.1 (by simp only[Nat.reduceMul,Int.reducePow];omega) (by omega);clear hvk
    try simp only[Int.mul_one]at hor
    go_wp2_with fail;go_roundw
    case rel=>exact⟨3,by omega,by go_num,by first|(rw[hltH.out]<;>simp only[Int.mul_one];done)|(rw[hltH.out]<;>simp only[Int.mul_one,hor]),trivial⟩
    case measure=>simp[intOf];omega
   ·obtain⟨c,hc,ht⟩:∃c,bs[3]? =some c∧bs.take 4=bs.take 3++[c]:=⟨bs[3]'(by omega),by simp,by rw[List.take_add_one,List.getElem?_eq_getElem (by omega)];rfl⟩;have hcb:=(hget.out 3 c hc);obtain⟨⟨c0,c1⟩,hcell⟩:=hcb
    try simp only[Nat.add_zero]at hcell
    have hr:=fU (bs.take 3) fun b hb=>hbyH.out b (List.mem_of_mem_take hb)
    rw[List.length_take,Nat.min_eq_left (by omega)]at hr;have hlt:=fV c (bs.take 3);rw[←ht,List.length_take,Nat.min_eq_left (by omega)]at hlt;have hltH:=zh hlt;clear ht hlt hc;obtain⟨vk,hvk⟩:∃vk,ch (bs.take 3)=vk:=⟨_,rfl⟩;rw[hvk]at hltH hr;simp only[hvk];simp only[Int.reducePow]at hr hltH;have hor:=Tb.fL (8*3) (c*16777216) vk (by omega) (by simp only[Nat.reduceMul,Int.reducePow];omega) (by omega) hr.1 (by simp only[Nat.reduceMul,Int.reducePow];omega) (by omega);clear hvk
    try simp only[Int.mul_one]at hor
    go_wp2_with fail;go_roundw
    case rel=>exact⟨4,by omega,by go_num,by first|(rw[hltH.out]<;>simp only[Int.mul_one];done)|(rw[hltH.out]<;>simp only[Int.mul_one,hor]),trivial⟩
    case measure=>simp[intOf];omega
   ·obtain⟨c,hc,ht⟩:∃c,bs[4]? =some c∧bs.take 5=bs.take 4++[c]:=⟨bs[4]'(by omega),by simp,by rw[List.take_add_one,List.getElem?_eq_getElem (by omega)];rfl⟩;have hcb:=(hget.out 4 c hc);obtain⟨⟨c0,c1⟩,hcell⟩:=hcb
    try simp only[Nat.add_zero]at hcell
    have hr:=fU (bs.take 4) fun b hb=>hbyH.out b (List.mem_of_mem_take hb)
    rw[List.length_take,Nat.min_eq_left (by omega)]at hr;have hlt:=fV c (bs.take 4);rw[←ht,List.length_take,Nat.min_eq_left (by omega)]at hlt;have hltH:=zh hlt;clear ht hlt hc;obtain⟨vk,hvk⟩:∃vk,ch (bs.take 4)=vk:=⟨_,rfl⟩;rw[hvk]at hltH hr;simp only[hvk];simp only[Int.reducePow]at hr hltH;have hor:=Tb.fL (8*4) (c*4294967296) vk (by omega) (by simp only[Nat.reduceMul,Int.reducePow];omega) (by omega) hr.1 (by simp only[Nat.reduceMul,Int.reducePow];omega) (by omega);clear hvk
    try simp only[Int.mul_one]at hor
    go_wp2_with fail;go_roundw
    case rel=>exact⟨5,by omega,by go_num,by first|(rw[hltH.out]<;>simp only[Int.mul_one];done)|(rw[hltH.out]<;>simp only[Int.mul_one,hor]),trivial⟩
    case measure=>simp[intOf];omega
   ·obtain⟨c,hc,ht⟩:∃c,bs[5]? =some c∧bs.take 6=bs.take 5++[c]:=⟨bs[5]'(by omega),by simp,by rw[List.take_add_one,List.getElem?_eq_getElem (by omega)];rfl⟩;have hcb:=(hget.out 5 c hc);obtain⟨⟨c0,c1⟩,hcell⟩:=hcb
    try simp only[Nat.add_zero]at hcell
    have hr:=fU (bs.take 5) fun b hb=>hbyH.out b (List.mem_of_mem_take hb)
    rw[List.length_take,Nat.min_eq_left (by omega)]at hr;have hlt:=fV c (bs.take 5);rw[←ht,List.length_take,Nat.min_eq_left (by omega)]at hlt;have hltH:=zh hlt;clear ht hlt hc;obtain⟨vk,hvk⟩:∃vk,ch (bs.take 5)=vk:=⟨_,rfl⟩;rw[hvk]at hltH hr;simp only[hvk];simp only[Int.reducePow]at hr hltH;have hor:=Tb.fL (8*5) (c*1099511627776) vk (by omega) (by simp only[Nat.reduceMul,Int.reducePow];omega) (by omega) hr.1 (by simp only[Nat.reduceMul,Int.reducePow];omega) (by omega);clear hvk
    try simp only[Int.mul_one]at hor
    go_wp2_with fail;go_roundw
    case rel=>exact⟨6,by omega,by go_num,by first|(rw[hltH.out]<;>simp only[Int.mul_one];done)|(rw[hltH.out]<;>simp only[Int.mul_one,hor]),trivial⟩
    case measure=>simp[intOf];omega
   ·obtain⟨c,hc,ht⟩:∃c,bs[6]? =some c∧bs.take 7=bs.take 6++[c]:=⟨bs[6]'(by omega),by simp,by rw[List.take_add_one,List.getElem?_eq_getElem (by omega)];rfl⟩;have hcb:=(hget.out 6 c hc);obtain⟨⟨c0,c1⟩,hcell⟩:=hcb
    try simp only[Nat.add_zero]at hcell
    have hr:=fU (bs.take 6) fun b hb=>hbyH.out b (List.mem_of_mem_take hb)
    rw[List.length_take,Nat.min_eq_left (by omega)]at hr;have hlt:=fV c (bs.take 6);rw[←ht,List.length_take,Nat.min_eq_left (by omega)]at hlt;have hltH:=zh hlt;clear ht hlt hc;obtain⟨vk,hvk⟩:∃vk,ch (bs.take 6)=vk:=⟨_,rfl⟩;rw[hvk]at hltH hr;simp only[hvk];simp only[Int.reducePow]at hr hltH;have hor:=Tb.fL (8*6) (c*281474976710656) vk (by omega) (by simp only[Nat.reduceMul,Int.reducePow];omega) (by omega) hr.1 (by simp only[Nat.reduceMul,Int.reducePow];omega) (by omega);clear hvk
    try simp only[Int.mul_one]at hor
    go_wp2_with fail;go_roundw
    case rel=>exact⟨7,by omega,by go_num,by first|(rw[hltH.out]<;>simp only[Int.mul_one];done)|(rw[hltH.out]<;>simp only[Int.mul_one,hor]),trivial⟩
    case measure=>simp[intOf];omega
   ·obtain⟨c,hc,ht⟩:∃c,bs[7]? =some c∧bs.take 8=bs.take 7++[c]:=⟨bs[7]'(by omega),by simp,by rw[List.take_add_one,List.getElem?_eq_getElem (by omega)];rfl⟩;have hcb:=(hget.out 7 c hc);obtain⟨⟨c0,c1⟩,hcell⟩:=hcb
    try simp only[Nat.add_zero]at hcell
    have hr:=fU (bs.take 7) fun b hb=>hbyH.out b (List.mem_of_mem_take hb)
    rw[List.length_take,Nat.min_eq_left (by omega)]at hr;have hlt:=fV c (bs.take 7);rw[←ht,List.length_take,Nat.min_eq_left (by omega)]at hlt;have hltH:=zh hlt;clear ht hlt hc;obtain⟨vk,hvk⟩:∃vk,ch (bs.take 7)=vk:=⟨_,rfl⟩;rw[hvk]at hltH hr;simp only[hvk];simp only[Int.reducePow]at hr hltH;have hor:=Tb.fL (8*7) (c*72057594037927936) vk (by omega) (by simp only[Nat.reduceMul,Int.reducePow];omega) (by omega) hr.1 (by simp only[Nat.reduceMul,Int.reducePow];omega) (by omega);clear hvk
    try simp only[Int.mul_one]at hor
    go_wp2_with fail;go_roundw
    case rel=>exact⟨8,by omega,by go_num,by first|(rw[hltH.out]<;>simp only[Int.mul_one];done)|(rw[hltH.out]<;>simp only[Int.mul_one,hor]),trivial⟩
    case measure=>simp[intOf];omega
  ·obtain rfl:k=n:=by omega
   rw[List.take_of_length_le (by omega)];go_wp2_with fail;go_ret2;exact⟨rfl,hmH.out⟩
end Go.Proofs.YtdehaommhbjakaaGreat
