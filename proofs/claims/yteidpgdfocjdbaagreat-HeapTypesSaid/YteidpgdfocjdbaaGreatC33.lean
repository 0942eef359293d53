/- Joined contracts. No conditions. -/
import Derived.Test.YteidpgdfocjdbaaGreatCS
import Derived.Test.YteidpgdfocjdbaaGreatC20
import Derived.Test.YteidpgdfocjdbaaGreatC26
import Derived.Test.YteidpgdfocjdbaaGreatC30
import Derived.Test.YteidpgdfocjdbaaGreatC32
set_option maxHeartbeats 8000000
set_option maxRecDepth 20000
namespace Go.Proofs.YteidpgdfocjdbaaGreat
open Go Go.RowKit Go.Stg
theorem size_alloc (w:World) (o:Obj):(w.alloc o).heap.size=w.heap.size+1:=by simp
theorem accD_range {c:HC} {k:Nat} {s:HS} (_:HInv c k s) (p o acc:Int):0≤accD s p o acc∧accD s p o acc≤29:=by
 unfold accD Tb.resE Bw.accE
 repeat' split
 all_goals omega
theorem act_rec {F:List Nat} {W w:World} {cs:List Comp} {a:HA} {c:HC} {k:Nat} {s:HS} {evb:Nat} {ep eop eh earg:Int} (hI:HInv c k s) (hk:k≤1000)
  (hS:Scene F W (hpA a c s::blockC evb (.cells #[.int .i64 ep,.int .i64 eop,.int .u64 eh,.int .u64 earg,.int .i64 0] 99 (0,0))::cs) w) (ho:eop≠3∧eop≠5) (ho2:1≤eop∧eop≤11) (ha:0≤earg∧earg≤18446744073709551615)
  {g:FuncId} {lb:Array Value} (eg:∀args w,(callFunc g args).run Tryz.prog w=.ok (.enter g args) w) {rs:Int×HS} {h1:Int} (hr:0≤rs.1∧rs.1≤29) (hh:0≤h1∧h1≤18446744073709551615) (he:rs.2.evs=s.evs) (hms:rs.2.miss=s.miss)
  (hdo:s.st ep=1→∀w',Scene F W (hpA a c s::blockC evb (.cells #[.int .i64 ep,.int .i64 eop,.int .u64 eh,.int .u64 earg,.int .i64 0] 99 (0,0))::cs) w'→Calls Tryz.prog g lb w' fun e w''=>e=.returned (.int .i64 rs.1)∧Scene F W (hpA a c rs.2::blockC evb (.cells #[.int .i64 ep,.int .i64 eop,.int .u64 h1,.int .u64 earg,.int .i64 0] 99 (0,0))::cs) w''):
  Calls Tryz.prog 35 #[.pointer (some ⟨a.hb,0,none⟩),.pointer (some ⟨evb,0,none⟩),.func (.func g) #[] lb] w fun e w'=>e=.returned (.int .i64 (act c s ep eop h1 earg rs).1)∧
   ∃eh2 er2,Scene F W (hpA a c (act c s ep eop h1 earg rs).2::blockC evb (.cells #[.int .i64 ep,.int .i64 eop,.int .u64 eh2,.int .u64 earg,.int .i64 er2] 99 (0,0))::cs) w'∧((act c s ep eop h1 earg rs).1=0→eh2=h1):=by
 have hel:=hI.evk;have hml:=hI.missk;by_cases hst:s.st ep=1
 ·cases hroom:room c s ep with
  |false=>
   have e1:act c s ep eop h1 earg rs=(19,{s with miss:=s.miss++[ep]}):=by unfold act;rw[if_neg (by simp[hst]),if_pos hroom]
   rw[e1];refine(act_full hS _ hst hroom ho (by omega)).mono ?_;rintro e w' ⟨he,hS'⟩;exact⟨he,eh,0,hS',fun h=>absurd h (by simp)⟩
  |true=>
   have e1:act c s ep eop h1 earg rs=(rs.1,logA c rs.2 ⟨ep,eop,h1,earg,rs.1⟩):=by unfold act;rw[if_neg (by simp[hst]),if_neg (by simp[hroom])]
   rw[e1];have hp:=hI.alive hst;refine(act_do hS hst (fun _=>hroom) eg (s':=rs.2) (cs':=cs) (h1:=h1) (r:=rs.1) ⟨hp,.inl ho2,hh,ha,hr⟩ (by simp[Ev.counts];omega) (by rw[he];omega) (by rw[hms];omega) (hdo hst)).mono ?_;rintro e w' ⟨he,hS'⟩;rw[if_neg (by omega)]at hS';exact⟨he,h1,rs.1,hS',fun _=>rfl⟩
 ·have e1:act c s ep eop h1 earg rs=(15,s):=by unfold act;rw[if_pos hst]
  rw[e1];refine(act_dead hS _ hst).mono ?_;rintro e w' ⟨he,hm⟩;exact⟨he,eh,0,hS.then hm,fun h=>absurd h (by simp)⟩
theorem act_quiet {F:List Nat} {W w:World} {cs cs':List Comp} {a:HA} {c:HC} {k:Nat} {s:HS} {evb:Nat} {ep eop eh earg r:Int} (hI:HInv c k s) (hk:k≤1000)
  (hS:Scene F W (hpA a c s::blockC evb (.cells #[.int .i64 ep,.int .i64 eop,.int .u64 eh,.int .u64 earg,.int .i64 0] 99 (0,0))::cs) w) (ho:eop=3∨eop=5) (ha:0≤earg∧earg≤18446744073709551615)
  {g:FuncId} {lb:Array Value} (eg:∀args w,(callFunc g args).run Tryz.prog w=.ok (.enter g args) w) (hr:0≤r∧r≤29) (hh:0≤eh∧eh≤18446744073709551615)
  (hdo:s.st ep=1→∀w',Scene F W (hpA a c s::blockC evb (.cells #[.int .i64 ep,.int .i64 eop,.int .u64 eh,.int .u64 earg,.int .i64 0] 99 (0,0))::cs) w'→Calls Tryz.prog g lb w' fun e w''=>e=.returned (.int .i64 r)∧Scene F W (hpA a c s::blockC evb (.cells #[.int .i64 ep,.int .i64 eop,.int .u64 eh,.int .u64 earg,.int .i64 0] 99 (0,0))::cs') w''):
  Calls Tryz.prog 35 #[.pointer (some ⟨a.hb,0,none⟩),.pointer (some ⟨evb,0,none⟩),.func (.func g) #[] lb] w fun e w'=>e=.returned (.int .i64 (actQ c s ep eop eh earg r).1)∧
   ∃er2 cs2,Scene F W (hpA a c (actQ c s ep eop eh earg r).2::blockC evb (.cells #[.int .i64 ep,.int .i64 eop,.int .u64 eh,.int .u64 earg,.int .i64 er2] 99 (0,0))::cs2) w'∧(s.st ep≠1∧cs2=cs∨s.st ep=1∧cs2=cs'):=by
 have hel:=hI.evk;have hml:=hI.missk;by_cases hst:s.st ep=1
 ·have hp:=hI.alive hst;have h2:=act_do hS hst (fun h=>absurd ho (by omega)) eg (s':=s) (cs':=cs') (h1:=eh) (r:=r) ⟨hp,.inl (show 1≤eop∧eop≤11 by omega),hh,ha,hr⟩ (by simp[Ev.counts];omega) (by omega) (by omega) (hdo hst);by_cases h0:r=0
  ·have e1:actQ c s ep eop eh earg r=(0,s):=by unfold actQ;rw[if_neg (by simp[hst]),if_pos h0]
   rw[e1];refine h2.mono ?_;rintro e w' ⟨he,hS'⟩;rw[if_pos ⟨ho,h0⟩]at hS';subst h0;exact⟨he,0,cs',hS',.inr ⟨hst,rfl⟩⟩
  ·have e1:actQ c s ep eop eh earg r=(r,logA c s ⟨ep,eop,eh,earg,r⟩):=by unfold actQ;rw[if_neg (by simp[hst]),if_neg h0]
   rw[e1];refine h2.mono ?_;rintro e w' ⟨he,hS'⟩;rw[if_neg fun h=>h0 h.2]at hS';exact⟨he,r,cs',hS',.inr ⟨hst,rfl⟩⟩
 ·have e1:actQ c s ep eop eh earg r=(15,s):=by unfold actQ;rw[if_pos hst]
  rw[e1];refine(act_dead hS _ hst).mono ?_;rintro e w' ⟨he,hm⟩;exact⟨he,0,cs,hS.then hm,.inl ⟨hst,rfl⟩⟩
theorem live_ext {c:HC} {k:Nat} {s:HS} (hI:HInv c k s) {j:Nat} (hj:j<c.n) (hl:(Tb.slotN s.T.g.S j).2=true):∃(o l:Nat),(Tb.entN s.T.E j).off=o∧(Tb.entN s.T.E j).len=l∧0<l∧(memH s j).length≤l:=by
 have hm:=List.mem_map_of_mem (f:=extE) (liveE_mem (c:=c) hj hl);obtain⟨⟨h1,h2,_⟩,_⟩:=hI.uok.ok _ hm;unfold extE at h1 h2;simp only at h1 h2;obtain⟨_,ht,hr⟩:=hI.ent _ (liveE_mem hj hl);have hsz:=hI.mem j hj hl;have hty:Ty.TyOk (tyTag s (Tb.entN s.T.E j).tag):=by
  refine hI.rok _ ?_;unfold tyTag Ty.lookT;rw[if_pos ht,List.getD_eq_getElem?_getD,List.getElem?_eq_getElem (by omega)];exact List.getElem_mem _
 have hs1:=size_pos hty;have hrs:=round_spec hs1.1 hs1.2;have e1:sizeTag s (Tb.entN s.T.E j).tag=Ty.sizeT (tyTag s (Tb.entN s.T.E j).tag).1 (tyTag s (Tb.entN s.T.E j).tag).2:=rfl;rw[e1]at hr hsz;exact⟨(Tb.entN s.T.E j).off.toNat,(Tb.entN s.T.E j).len.toNat,by omega,by omega,by omega,by omega⟩
open Ty (FieldsAt)
theorem ret_cells2_tmp {P:Program} {fn:Func} {p p2 u:Tmp} {ty t ty2 t2:TypeId} (h:fn.results=#[.cell p ty,.cell p2 ty2,.tmp u]) {tmps:Array Value} {w:World} {g g2:Nat} {cs cs2:Array Value} {fr fr2:Nat×Nat} {d d2:TypeDesc} {v:Value}
  (hp:tmps.getD p undef=.pointer (some ⟨g,0,none⟩)) (hp2:tmps.getD p2 undef=.pointer (some ⟨g2,0,none⟩)) (hv:tmps.getD u undef=v) (hg:w.heap[g]? =some (.cells cs t fr)) (hg2:w.heap[g2]? =some (.cells cs2 t2 fr2))
  (hu:P.underlying ty=some d) (hd:(match d with| .struct _| .array _ _=>true|_=>false)=true) (hi:(P.info? ty).map (·.size)=some cs.size)
  (hu2:P.underlying ty2=some d2) (hd2:(match d2 with| .struct _| .array _ _=>true|_=>false)=true) (hi2:(P.info? ty2).map (·.size)=some cs2.size):
  (results fn tmps).run P w=.ok (.tuple #[.agg cs,.agg cs2,v]) w:=by
 have h1:=run_loadVar_row w g t ty cs fr d hg hu hd hi;have h2:=run_loadVar_row w g2 t2 ty2 cs2 fr2 d2 hg2 hu2 hd2 hi2;simp only[results,h];simp only[Array.getD_eq_getD_getElem?]at hp hp2 hv;simp[Sem.run_bind,Result.andThen,hp,hp2,hv,asAddr,h1,h2]
theorem place_of {t:Ty.Ty} (ht:Ty.TyOk t) {i:Int} (h:Ty.placeE t.1 t.2 i=0):Ty.placeC t.1 t.2 i=#[.int .i64 (placeI t i).1,.int .i64 (placeI t i).2.1,.int .i64 (placeI t i).2.2]:=by
 have he:Ty.errT t.1 t.2=0:=ht;unfold Ty.placeE at h;rw[if_pos he]at h;unfold Ty.placeC placeI;split at h
 ·rename_i hr;rw[if_pos ⟨he,hr⟩];by_cases c:0<t.1
  ·rw[if_pos c,if_pos c]
  ·rw[if_neg c,if_neg c];have hn:i<t.2.length:=by
    have:=hr.2;unfold Ty.countT at this;rw[if_pos he,if_neg c]at this;exact this
   obtain⟨n,rfl⟩:=Int.eq_ofNat_of_zero_le hr.1;rw[Ty.outC_le,Ty.outC_here (by omega),Int.toNat_natCast];simp only[List.getD_eq_getElem?_getD,List.getElem?_eq_getElem (show n<t.2.length by omega),Option.getD_some]
 ·cases h
def FieldPost (s:HS) (p o acc i:Int) (w:World) (e:Ending) (w':World):Prop:=
 ∃xh xo xt xf xl p1 p2 p3,e=.returned (.tuple #[.agg #[.int .u64 xh,.int .i64 xo,.int .i64 xt,.int .i64 xf,.int .i64 xl],.agg #[.int .i64 p1,.int .i64 p2,.int .i64 p3],.int .i64 (fieldE s p o acc i)])∧Mod [] w w'∧
  (fieldE s p o acc i=0→entH s o=⟨xh,xo,xt,xf,xl⟩∧placeI (tyH s o) i=(p1,p2,p3))
theorem field_ok {F:List Nat} {W w:World} {cs:List Comp} {a:HA} {c:HC} {k:Nat} {s:HS} (hc:c.Ok) (hI:HInv c k s) (hk:k≤1000) {u:List Ext} {B:List Int} {fm:Int→Qt.Q} (hS:Scene F W (hpP a c s.R s.T s.L s.evs s.miss s.st u B fm++cs) w)
  (p o acc i:Int) (o0:0≤o) (o1:o≤18446744073709551615):
  Calls Tryz.prog 50 #[.pointer (some ⟨a.hb,0,none⟩),.int .i64 p,.int .u64 o,.int .i64 acc,.int .i64 i] w (FieldPost s p o acc i w):=by
 have hrs:=Lib.hid fun w' (hm:Mod [] w w')=>hresolve_ok hc hI hk (hS.then hm) p o acc o0 o1
 have hm0:=Lib.hid (((Mod.refl [] w).alloc (.cells #[.int .u64 0,.int .i64 0,.int .i64 0,.int .i64 0,.int .i64 0] 119)).alloc (.cells #[.int .i64 0,.int .i64 0,.int .i64 0] 121));have hx0:=Lib.hid (at_alloc_old (o:=.cells #[.int .i64 0,.int .i64 0,.int .i64 0] 121) (at_alloc w (.cells #[.int .u64 0,.int .i64 0,.int .i64 0,.int .i64 0,.int .i64 0] 119)));have hy0:=at_alloc (w.alloc (.cells #[.int .u64 0,.int .i64 0,.int .i64 0,.int .i64 0,.int .i64 0] 119)) (.cells #[.int .i64 0,.int .i64 0,.int .i64 0] 121);rw[size_alloc]at hy0;have hy0:=Lib.hid hy0;by_cases hE:accD s p o acc=0
 ·obtain⟨j,hj,hjn,hlv,hent,_⟩:=res_live hI (acc_res hE);have htr:=(hI.ent _ (liveE_mem hjn hlv)).2.1;rw[←hent]at htr;have hty:Ty.TyOk (tyH s o):=HInv.tagIn hc hI htr;have hto:=Lib.hid fun w' (hm:Mod [] w w')=>typeof_ok ((hS.then hm).block 0 rfl) ((hS.then hm).part 2 rfl).choose_spec.1 (entH s o)
  have hbd:=hty.bounds;have hpl:=Lib.hid fun v w' (h:FieldsAt w' v (tyH s o).2)=>Ty.place_ok (tyH s o).1 v (tyH s o).2 i w' h (by omega) (by omega)
  have hfe:fieldE s p o acc i=if Ty.placeE (tyH s o).1 (tyH s o).2 i≠0 then Ty.placeE (tyH s o).1 (tyH s o).2 i else if(placeI (tyH s o) i).2.2=6 then 8 else 0:=by unfold fieldE;rw[if_neg (by simp[hE])]
  have hlk:Ty.lookT s.R (entH s o).tag=tyH s o:=rfl;rw[hE,resX_zero hE]at hrs;rw[hlk]at hto;obtain⟨z1,z2,z3,e1,hpv,hz⟩:∃z1 z2 z3 e1,Ty.placeV (tyH s o).1 (tyH s o).2 i=.tuple #[.agg #[.int .i64 z1,.int .i64 z2,.int .i64 z3],.int .i64 e1]∧fieldE s p o acc i=(if e1=0∧z3=6 then 8 else e1)∧(e1=0→placeI (tyH s o) i=(z1,z2,z3)):=by
   by_cases h:Ty.placeE (tyH s o).1 (tyH s o).2 i=0
   ·refine⟨(placeI (tyH s o) i).1,(placeI (tyH s o) i).2.1,(placeI (tyH s o) i).2.2,0,by unfold Ty.placeV;rw[place_of hty h,h],?_,fun _=>rfl⟩;rw[hfe,if_neg (by simp[h])];simp
   ·refine⟨0,0,0,Ty.placeE (tyH s o).1 (tyH s o).2 i,?_,?_,fun h'=>absurd h' h⟩
    ·unfold Ty.placeV;congr 3;have he:Ty.errT (tyH s o).1 (tyH s o).2=0:=hty;unfold Ty.placeE at h;rw[if_pos he]at h;unfold Ty.placeC;split at h
     ·exact absurd rfl h
     ·rename_i hr;rw[if_neg (fun h2=>hr h2.2)]
    ·rw[hfe,if_pos h,if_neg (fun h2=>h h2.1)]
  rw[hpv]at hpl;unfold FieldPost;obtain⟨hz1,hz2⟩:=hz;obtain⟨E,hEq⟩:∃E,fieldE s p o acc i=E:=⟨_,rfl⟩;rw[hEq]at hz1;rw[hEq];have hz2H:=Lib.hid hz2;obtain⟨X,hX⟩:∃X,entH s o=X:=⟨_,rfl⟩;rw[hX]at hrs hto;obtain⟨xh,xo,xt,xf,xl⟩:=X;simp only[Tb.entV]at hrs hto;have hXH:=Lib.hid hX;generalize tyH s o=TT at*;obtain⟨tl,tf⟩:=TT;simp only at hto hpl;have hz1H:=Lib.hid hz1;clear hfe hlk hE hS hj hlv hent htr hty hbd hz1 hz2 hEq hX hpv;go_enter Tryz.func50,Tryz.ntmps50;go_wp2_with fail;refine(hrs.out _ hm0.out).mono ?_;rintro e w1 ⟨rfl,hm1⟩;have hm1H:=Lib.hid ((hm0.out.nil_then hm1).alloc (.cells #[.int .u64 xh,.int .i64 xo,.int .i64 xt,.int .i64 xf,.int .i64 xl] 119));have hx1:=Lib.hid (at_alloc_old (o:=.cells #[.int .u64 xh,.int .i64 xo,.int .i64 xt,.int .i64 xf,.int .i64 xl] 119) (hm1.at hx0.out (by simp)));have hy1:=Lib.hid (at_alloc_old (o:=.cells #[.int .u64 xh,.int .i64 xo,.int .i64 xt,.int .i64 xf,.int .i64 xl] 119) (hm1.at hy0.out (by simp)));have hz0:=Lib.hid (at_alloc w1 (.cells #[.int .u64 xh,.int .i64 xo,.int .i64 xt,.int .i64 xf,.int .i64 xl] 119));have hsz:=hm1.size;simp only[size_alloc]at hsz;have hlt1:w.heap.size<w1.heap.size:=by omega
  have hlt2:w.heap.size+1<w1.heap.size:=by omega
  clear hm1 hrs hm0 hx0 hy0;go_wp2_with fail;refine(hto.out _ hm1H.out).mono ?_;rintro e w2 ⟨v,rfl,hfs,hm2⟩;have hm2H:=Lib.hid (hm1H.out.nil_then hm2);have hx2:=Lib.hid (hm2.at hx1.out (by simp));have hy2:=Lib.hid (hm2.at hy1.out (by simp));have hz2':=Lib.hid (hm2.at hz0.out (by simp));have hlt3:=hm2.gt;have hfsH:=Lib.hid hfs;clear hm2 hto hm1H hx1 hy1 hz0 hfs;go_wp2_with fail;refine(hpl.out v _ hfsH.out).mono ?_;rintro e w3 ⟨rfl,hm3⟩;have hm3H:=Lib.hid ((hm2H.out.nil_then hm3).alloc (.cells #[.int .i64 z1,.int .i64 z2,.int .i64 z3] 121));have hx3:=Lib.hid (at_alloc_old (o:=.cells #[.int .i64 z1,.int .i64 z2,.int .i64 z3] 121) (hm3.at hx2.out (by simp)));have hy3:=Lib.hid (at_alloc_old (o:=.cells #[.int .i64 z1,.int .i64 z2,.int .i64 z3] 121) (hm3.at hy2.out (by simp)));have hz3:=Lib.hid (at_alloc_old (o:=.cells #[.int .i64 z1,.int .i64 z2,.int .i64 z3] 121) (hm3.at hz2'.out (by simp)));have hp3:=Lib.hid (at_alloc w3 (.cells #[.int .i64 z1,.int .i64 z2,.int .i64 z3] 121));have hlt4:=hm3.size;have hck:=cells_of hp3.out;clear hm3 hpl hm2H hx2 hy2 hz2' hfsH;by_cases he:e1=0
  ·subst he;by_cases h6:z3=6
   ·have h6':(z3==6)=true:=by simpa using h6
    have hE8:E=8:=by rw[hz1H.out];simp[h6]
    subst hE8;clear h6;go_wp2_with fail;generalize hW3:w3.alloc (.cells #[.int .i64 z1,.int .i64 z2,.int .i64 z3] 121)=W3 at*;generalize w3.heap.size=b4 at*;generalize w1.heap.size=b3 at*;have k1:=GW.cells (S:=[w.heap.size,w.heap.size+1]) hz3.out (by simp;omega);have k2:=GW.cells (S:=[w.heap.size,w.heap.size+1]) hp3.out (by simp;omega);refine wp_region_part [w.heap.size,w.heap.size+1] (by kernel_rfl) (by kernel_rfl) ?_;refine stage_quiet 3 (by kernel_rfl) ?_;simp only[tA,tB,tC,tD];(repeat go_big_quiet_step (fail));refine wpQuiet_nil ?_;refine stage_set (p:=⟨w.heap.size,0,none⟩) (u:=.agg #[.int .u64 xh,.int .i64 xo,.int .i64 xt,.int .i64 xf,.int .i64 xl]) (fun w'=>w'.setCells w.heap.size 0 (#[.int .u64 xh,.int .i64 xo,.int .i64 xt,.int .i64 xf,.int .i64 xl]:Array Value).toList) (fun w'=>Mod [w.heap.size] W3 w'∧w'.heap[w.heap.size]? =some (.cells #[.int .u64 xh,.int .i64 xo,.int .i64 xt,.int .i64 xf,.int .i64 xl] 119 (0,0))) rfl rfl rfl rfl rfl (fun w' hw=> ?_) (fun w' hw=> ?_) (fun w' h=>InGW.of (h.1.mono (by simp))) ?_
    ·exact run_storeAt_mid (P:=Tryz.prog) w' w.heap.size 0 119 #[.int .u64 xh,.int .i64 xo,.int .i64 xt,.int .i64 xf,.int .i64 xl] (there_all (hw.at hx3.out (by simp)) rfl) (by kernel_rfl) (by simp[Value.oneCell'])
    ·exact⟨Mod.setCells (b:=w.heap.size) (.inl (by simp)) _ _ _ (hw.mono (by simp)),laid_all (hw.at hx3.out (by simp)) rfl⟩
    refine stage_set (p:=⟨w.heap.size+1,0,none⟩) (u:=.agg #[.int .i64 z1,.int .i64 z2,.int .i64 z3]) (fun w'=>w'.setCells (w.heap.size+1) 0 (#[.int .i64 z1,.int .i64 z2,.int .i64 z3]:Array Value).toList) (fun w'=>Mod [w.heap.size,w.heap.size+1] W3 w'∧w'.heap[w.heap.size]? =some (.cells #[.int .u64 xh,.int .i64 xo,.int .i64 xt,.int .i64 xf,.int .i64 xl] 119 (0,0))∧w'.heap[w.heap.size+1]? =some (.cells #[.int .i64 z1,.int .i64 z2,.int .i64 z3] 121 (0,0))) rfl rfl rfl rfl rfl (fun w' hw=> ?_) (fun w' hw=> ?_) (fun w' h=>InGW.of h.1) ?_
    ·exact run_storeAt_mid (P:=Tryz.prog) w' (w.heap.size+1) 0 121 #[.int .i64 z1,.int .i64 z2,.int .i64 z3] (there_all (hw.1.at hy3.out (by simp)) rfl) (by kernel_rfl) (by simp[Value.oneCell'])
    ·exact⟨Mod.setCells (b:=w.heap.size+1) (.inl (by simp)) _ _ _ (hw.1.mono (by simp)),(Mod.setCells (S:=[w.heap.size+1]) (b:=w.heap.size+1) (.inl (by simp)) _ 0 _ (Mod.refl _ _)).at hw.2 (by simp),laid_all (hw.1.at hy3.out (by simp)) rfl⟩
    refine stage_quiet 1 (by kernel_rfl) ?_;simp only[tA,tB,tC,tD];(repeat go_big_quiet_step (fail));refine wpQuiet_nil ?_;refine stage_nil fun w5 hw5=> ?_
    have hw5H:=Lib.hid hw5;clear k1 k2 hw5 hck;go_wp2_with fail;refine bodyPost_ret (ret_cells2_tmp Tryz.results50 rfl rfl rfl hw5H.out.2.1 hw5H.out.2.2 Tryz.underlying119 rfl (by kernel_rfl) Tryz.underlying121 rfl (by kernel_rfl)) rfl ?_;exact⟨xh,xo,xt,xf,xl,z1,z2,z3,rfl,hm3H.out.then hw5H.out.1 (fun x hx=>.inr (by simp at hx;omega)),by simp⟩
   ·have h6':(z3==6)=false:=by simpa using h6
    have hE0:E=0:=by rw[hz1H.out];simp[h6]
    subst hE0;clear h6;go_wp2_with fail;generalize hW3:w3.alloc (.cells #[.int .i64 z1,.int .i64 z2,.int .i64 z3] 121)=W3 at*;generalize w3.heap.size=b4 at*;generalize w1.heap.size=b3 at*;have k1:=GW.cells (S:=[w.heap.size,w.heap.size+1]) hz3.out (by simp;omega);have k2:=GW.cells (S:=[w.heap.size,w.heap.size+1]) hp3.out (by simp;omega);refine wp_region_part [w.heap.size,w.heap.size+1] (by kernel_rfl) (by kernel_rfl) ?_;refine stage_quiet 3 (by kernel_rfl) ?_;simp only[tA,tB,tC,tD];(repeat go_big_quiet_step (fail));refine wpQuiet_nil ?_;refine stage_set (p:=⟨w.heap.size,0,none⟩) (u:=.agg #[.int .u64 xh,.int .i64 xo,.int .i64 xt,.int .i64 xf,.int .i64 xl]) (fun w'=>w'.setCells w.heap.size 0 (#[.int .u64 xh,.int .i64 xo,.int .i64 xt,.int .i64 xf,.int .i64 xl]:Array Value).toList) (fun w'=>Mod [w.heap.size] W3 w'∧w'.heap[w.heap.size]? =some (.cells #[.int .u64 xh,.int .i64 xo,.int .i64 xt,.int .i64 xf,.int .i64 xl] 119 (0,0))) rfl rfl rfl rfl rfl (fun w' hw=> ?_) (fun w' hw=> ?_) (fun w' h=>InGW.of (h.1.mono (by simp))) ?_
    ·exact run_storeAt_mid (P:=Tryz.prog) w' w.heap.size 0 119 #[.int .u64 xh,.int .i64 xo,.int .i64 xt,.int .i64 xf,.int .i64 xl] (there_all (hw.at hx3.out (by simp)) rfl) (by kernel_rfl) (by simp[Value.oneCell'])
    ·exact⟨Mod.setCells (b:=w.heap.size) (.inl (by simp)) _ _ _ (hw.mono (by simp)),laid_all (hw.at hx3.out (by simp)) rfl⟩
    refine stage_set (p:=⟨w.heap.size+1,0,none⟩) (u:=.agg #[.int .i64 z1,.int .i64 z2,.int .i64 z3]) (fun w'=>w'.setCells (w.heap.size+1) 0 (#[.int .i64 z1,.int .i64 z2,.int .i64 z3]:Array Value).toList) (fun w'=>Mod [w.heap.size,w.heap.size+1] W3 w'∧w'.heap[w.heap.size]? =some (.cells #[.int .u64 xh,.int .i64 xo,.int .i64 xt,.int .i64 xf,.int .i64 xl] 119 (0,0))∧w'.heap[w.heap.size+1]? =some (.cells #[.int .i64 z1,.int .i64 z2,.int .i64 z3] 121 (0,0))) rfl rfl rfl rfl rfl (fun w' hw=> ?_) (fun w' hw=> ?_) (fun w' h=>InGW.of h.1) ?_
    ·exact run_storeAt_mid (P:=Tryz.prog) w' (w.heap.size+1) 0 121 #[.int .i64 z1,.int .i64 z2,.int .i64 z3] (there_all (hw.1.at hy3.out (by simp)) rfl) (by kernel_rfl) (by simp[Value.oneCell'])
    ·exact⟨Mod.setCells (b:=w.heap.size+1) (.inl (by simp)) _ _ _ (hw.1.mono (by simp)),(Mod.setCells (S:=[w.heap.size+1]) (b:=w.heap.size+1) (.inl (by simp)) _ 0 _ (Mod.refl _ _)).at hw.2 (by simp),laid_all (hw.1.at hy3.out (by simp)) rfl⟩
    refine stage_quiet 1 (by kernel_rfl) ?_;simp only[tA,tB,tC,tD];(repeat go_big_quiet_step (fail));refine wpQuiet_nil ?_;refine stage_nil fun w5 hw5=> ?_
    have hw5H:=Lib.hid hw5;clear k1 k2 hw5 hck;go_wp2_with fail;refine bodyPost_ret (ret_cells2_tmp Tryz.results50 rfl rfl rfl hw5H.out.2.1 hw5H.out.2.2 Tryz.underlying119 rfl (by kernel_rfl) Tryz.underlying121 rfl (by kernel_rfl)) rfl ?_;exact⟨xh,xo,xt,xf,xl,z1,z2,z3,rfl,hm3H.out.then hw5H.out.1 (fun x hx=>.inr (by simp at hx;omega)),by first|exact fun _=>⟨hXH.out,hz2H.out rfl⟩|exact⟨hXH.out,hz2H.out trivial⟩|exact fun _=>⟨hXH.out,hz2H.out trivial⟩⟩
  ·have he':(e1==0)=false:=by simpa using he
   have hEe:E=e1:=by rw[hz1H.out];simp[he]
   subst hEe;have heH:=Lib.hid he;clear he;go_wp2_with fail;generalize hW3:w3.alloc (.cells #[.int .i64 z1,.int .i64 z2,.int .i64 z3] 121)=W3 at*;generalize w3.heap.size=b4 at*;generalize w1.heap.size=b3 at*;have k1:=GW.cells (S:=[w.heap.size,w.heap.size+1]) hz3.out (by simp;omega);have k2:=GW.cells (S:=[w.heap.size,w.heap.size+1]) hp3.out (by simp;omega);refine wp_region_part [w.heap.size,w.heap.size+1] (by kernel_rfl) (by kernel_rfl) ?_;refine stage_quiet 3 (by kernel_rfl) ?_;simp only[tA,tB,tC,tD];(repeat go_big_quiet_step (fail));refine wpQuiet_nil ?_;refine stage_set (p:=⟨w.heap.size,0,none⟩) (u:=.agg #[.int .u64 xh,.int .i64 xo,.int .i64 xt,.int .i64 xf,.int .i64 xl]) (fun w'=>w'.setCells w.heap.size 0 (#[.int .u64 xh,.int .i64 xo,.int .i64 xt,.int .i64 xf,.int .i64 xl]:Array Value).toList) (fun w'=>Mod [w.heap.size] W3 w'∧w'.heap[w.heap.size]? =some (.cells #[.int .u64 xh,.int .i64 xo,.int .i64 xt,.int .i64 xf,.int .i64 xl] 119 (0,0))) rfl rfl rfl rfl rfl (fun w' hw=> ?_) (fun w' hw=> ?_) (fun w' h=>InGW.of (h.1.mono (by simp))) ?_
   ·exact run_storeAt_mid (P:=Tryz.prog) w' w.heap.size 0 119 #[.int .u64 xh,.int .i64 xo,.int .i64 xt,.int .i64 xf,.int .i64 xl] (there_all (hw.at hx3.out (by simp)) rfl) (by kernel_rfl) (by simp[Value.oneCell'])
   ·exact⟨Mod.setCells (b:=w.heap.size) (.inl (by simp)) _ _ _ (hw.mono (by simp)),laid_all (hw.at hx3.out (by simp)) rfl⟩
   refine stage_set (p:=⟨w.heap.size+1,0,none⟩) (u:=.agg #[.int .i64 z1,.int .i64 z2,.int .i64 z3]) (fun w'=>w'.setCells (w.heap.size+1) 0 (#[.int .i64 z1,.int .i64 z2,.int .i64 z3]:Array Value).toList) (fun w'=>Mod [w.heap.size,w.heap.size+1] W3 w'∧w'.heap[w.heap.size]? =some (.cells #[.int .u64 xh,.int .i64 xo,.int .i64 xt,.int .i64 xf,.int .i64 xl] 119 (0,0))∧w'.heap[w.heap.size+1]? =some (.cells #[.int .i64 z1,.int .i64 z2,.int .i64 z3] 121 (0,0))) rfl rfl rfl rfl rfl (fun w' hw=> ?_) (fun w' hw=> ?_) (fun w' h=>InGW.of h.1) ?_
   ·exact run_storeAt_mid (P:=Tryz.prog) w' (w.heap.size+1) 0 121 #[.int .i64 z1,.int .i64 z2,.int .i64 z3] (there_all (hw.1.at hy3.out (by simp)) rfl) (by kernel_rfl) (by simp[Value.oneCell'])
   ·exact⟨Mod.setCells (b:=w.heap.size+1) (.inl (by simp)) _ _ _ (hw.1.mono (by simp)),(Mod.setCells (S:=[w.heap.size+1]) (b:=w.heap.size+1) (.inl (by simp)) _ 0 _ (Mod.refl _ _)).at hw.2 (by simp),laid_all (hw.1.at hy3.out (by simp)) rfl⟩
   refine stage_quiet 1 (by kernel_rfl) ?_;simp only[tA,tB,tC,tD];(repeat go_big_quiet_step (fail));refine wpQuiet_nil ?_;refine stage_nil fun w5 hw5=> ?_
   have hw5H:=Lib.hid hw5;clear k1 k2 hw5 hck;go_wp2_with fail;refine bodyPost_ret (ret_cells2_tmp Tryz.results50 rfl rfl rfl hw5H.out.2.1 hw5H.out.2.2 Tryz.underlying119 rfl (by kernel_rfl) Tryz.underlying121 rfl (by kernel_rfl)) rfl ?_;exact⟨xh,xo,xt,xf,xl,z1,z2,z3,rfl,hm3H.out.then hw5H.out.1 (fun x hx=>.inr (by simp at hx;omega)),fun h=>absurd h heH.out⟩
 ·have hfe:fieldE s p o acc i=accD s p o acc:=by unfold fieldE;rw[if_pos hE]
  rw[resX_bad hE]at hrs;unfold FieldPost;rw[hfe];generalize accD s p o acc=E at*;have hne:(E != 0)=true:=by simpa using hE
  have hEH:=Lib.hid hE;clear hfe hE hS;go_enter Tryz.func50,Tryz.ntmps50;go_wp2_with fail;refine(hrs.out _ hm0.out).mono ?_;rintro e w1 ⟨rfl,hm1⟩;have hm1H:=Lib.hid (hm0.out.nil_then hm1);have hx1:=Lib.hid (hm1.at hx0.out (by simp));have hy1:=Lib.hid (hm1.at hy0.out (by simp));have hsz:=hm1.size;simp only[size_alloc]at hsz;have hlt1:w.heap.size<w1.heap.size:=by omega
  have hlt2:w.heap.size+1<w1.heap.size:=by omega
  have c1:=cells_of hx1.out;have f1:=frozen_of hx1.out;have c2:=cells_of hy1.out;have f2:=frozen_of hy1.out;clear hm1 hrs hm0 hx0 hy0;go_wp2_with fail;have q1:=laid_all (cs:=#[.int .u64 0,.int .i64 0,.int .i64 0,.int .i64 0,.int .i64 0]) hx1.out rfl;have q2:=(Mod.setCells (S:=[w.heap.size]) (b:=w.heap.size) (.inl (by simp)) (#[.int .u64 0,.int .i64 0,.int .i64 0,.int .i64 0,.int .i64 0]).toList 0 w1 (Mod.refl _ _)).at hy1.out (by simp);have q3:=laid_all (cs:=#[.int .i64 0,.int .i64 0,.int .i64 0]) q2 rfl;have q4:=(Mod.setCells (S:=[w.heap.size+1]) (b:=w.heap.size+1) (.inl (by simp)) (#[.int .i64 0,.int .i64 0,.int .i64 0]).toList 0 _ (Mod.refl _ _)).at q1 (by simp);have qm:=Mod.setCells (b:=w.heap.size+1) (.inr (by omega)) (#[.int .i64 0,.int .i64 0,.int .i64 0]).toList 0 _ (Mod.setCells (b:=w.heap.size) (.inr (by omega)) (#[.int .u64 0,.int .i64 0,.int .i64 0,.int .i64 0,.int .i64 0]).toList 0 _ (hm1H.out));have q5:=at_alloc_old (o:=.cells #[.int .u64 0,.int .i64 0,.int .i64 0,.int .i64 0,.int .i64 0] 119) q3;have q6:=at_alloc_old (o:=.cells #[.int .u64 0,.int .i64 0,.int .i64 0,.int .i64 0,.int .i64 0] 119) q4;refine bodyPost_ret (ret_cells2_tmp Tryz.results50 rfl rfl rfl q6 q5 Tryz.underlying119 rfl (by kernel_rfl) Tryz.underlying121 rfl (by kernel_rfl)) rfl ?_;exact⟨0,0,0,0,0,0,0,0,rfl,qm.alloc _,fun h=>absurd h hEH.out⟩
theorem bytes_piece {w:World} {b g n cap:Nat} {B:List Int} (h:w.ownsRow b 5 1 (.slice (some ⟨g,0,none⟩) n cap) n (bvals B)) (hb:∀x∈B,0≤x∧x≤255) {p m:Nat} (hp:p+m≤n) (hn:n≤1048576) {q:Nat} (hq:0<m→q=p) (c:Nat):
  BytesAt w (.slice (some ⟨g,q,none⟩) m c) ((B.drop p).take m):=by
 have hl:=h.1;rw[bvals_len]at hl;have e:((B.drop p).take m).length=m:=by simp;omega
 refine .inr ⟨g,q,c,by rw[e],(h.lt g rfl).2,by rw[e];unfold maxLen;omega,fun i hi=> ?_⟩;rw[e]at hi;have hq':=hq (by omega);subst hq';have hi2:q+i<B.length:=by omega
 rw[show((B.drop q).take m)[i]'(by omega)=B[q+i] by simp];refine⟨hb _ (List.getElem_mem _),?_⟩;rw[h.cellAt (q+i) (by omega)];simp[bvals,hi2]
theorem arread_ok {ar:Nat} {size:Int} {used:List Ext} {B:List Int} {w:World} {f:List Nat} (h:(arC ar size used B).on w f) {o l:Nat} (hx:((o:Int),(l:Int))∈used) (off n:Nat) (hn:off+n≤l):
  Calls Tryz.prog 124 #[.pointer (some ⟨ar,0,none⟩),.agg #[.int .i64 o,.int .i64 l],.int .i64 off,.int .i64 n] w fun e w'=>∃v,e=.returned (.tuple #[v,.int .i64 0])∧w'.ownsRow w.heap.size 5 1 v n (bvals ((B.drop (o+off)).take n))∧Mod [] w w':=by
 obtain⟨hk,⟨hl0,hol,hB⟩,hhas,ab,g,cap,⟨hc1,hc2⟩,hH⟩:=arC.view h hx;have hS0:=Lib.hid ((Scene.start hH).alloc (.cells #[.int .i64 o,.int .i64 l] 56));have hm0:=Lib.hid ((Mod.refl [] w).alloc (.cells #[.int .i64 o,.int .i64 l] 56));have hsl:=Lib.hid fun w' (h':Scene f w (blockC w.heap.size (.cells #[.int .i64 o,.int .i64 l] 56 (0,0))::arP ar ab (.slice (some ⟨g,0,none⟩) B.length cap) (frOf size used) used B) w')=>
  arslice_ok (h'.block 1 rfl) (h'.part 2 rfl).choose_spec.1 o l hhas hl0 hol hc1 hB hc2
 have hwi:=Lib.hid fun w=>arwithin_ok (some ⟨g,o,none⟩) l (cap-o) (by omega) off n (by omega) w
 have hwt:withinB off n l=true:=by unfold withinB;simp;omega
 rw[hwt]at hwi;have hkH:=Lib.hid hk;have hlen:((B.drop (o+off)).take n).length=n:=by simp;omega
 have hlenH:=Lib.hid hlen;generalize hbs:(B.drop (o+off)).take n=bs at*;have hbsH:=Lib.hid hbs;clear h hH hhas hk hwt hx hlen hbs;have h0:decide ((n:Int)<0)=false:=by simp
 go_enter Tryz.func124,Tryz.ntmps124;go_wp2_with fail;refine(hsl.out _ hS0.out).mono ?_;rintro e w1 ⟨rfl,hm1⟩;have hS1:=Lib.hid (hS0.out.then hm1);have hmH:=Lib.hid (hm0.out.nil_then hm1);clear hm1 hS0 hsl hm0;go_wp2_with fail;refine(hwi.out _).mono ?_;rintro e w2 ⟨rfl,hm2⟩;have hS2:=Lib.hid (hS1.out.then hm2);have hm2H:=Lib.hid (hmH.out.nil_then hm2);clear hm2 hS1 hwi hmH;go_wp2_with fail;all_goals
  refine(bclone_ok _ bs (by rw[hlenH.out];omega) w2 ?_).mono ?_
  ·rw[←hbsH.out];exact bytes_piece (hS2.out.row 3 rfl) hkH.out.byte (p:=o+off) (m:=n) (by omega) (by omega) (by omega) _
  rintro e w3 ⟨v,rfl,hr,hm3⟩;obtain⟨va,vl,vc,rfl⟩:=rowForm hr;have hrH:=Lib.hid hr;have hm3H:=Lib.hid hm3;clear hr hm3 hS2;go_wp2_with fail;go_ret2;refine⟨_,rfl,?_,hm2H.out.nil_then hm3H.out⟩;have:=row_base hrH.out hm2H.out.size;rw[hlenH.out]at this;exact this
end Go.Proofs.YteidpgdfocjdbaaGreat
