/- Further contracts. No conditions. -/
import Derived.Laws.OwnMore
import Derived.Test.YtgfdeiijblakfaaGreatRows
import Derived.ProofKit
import Derived.OpenShut
import Derived.Deep.Slices
import Derived.Carry
import Derived.ChangeSlices
import Derived.ChangeSame
import Derived.Test.YtgfdeiijblakfaaGreatC00
import Derived.Test.YtgfdeiijblakfaaGreatC01
import Derived.Test.YtgfdeiijblakfaaGreatC02
import Derived.Test.YtgfdeiijblakfaaGreatC03
import Derived.Test.YtgfdeiijblakfaaGreatC04
import Derived.Test.YtgfdeiijblakfaaGreatC05
import Derived.Test.YtgfdeiijblakfaaGreatC06
import Derived.Test.YtgfdeiijblakfaaGreatC07
import Derived.Test.YtgfdeiijblakfaaGreatC08
import Derived.Test.YtgfdeiijblakfaaGreatC09
import Derived.Test.YtgfdeiijblakfaaGreatC10
import Derived.Test.YtgfdeiijblakfaaGreatC11
import Derived.Test.YtgfdeiijblakfaaGreatC12
import Derived.Test.YtgfdeiijblakfaaGreatC13
import Derived.Test.YtgfdeiijblakfaaGreatC14
import Derived.Test.YtgfdeiijblakfaaGreatC15
import Derived.Test.YtgfdeiijblakfaaGreatC16
import Derived.Test.YtgfdeiijblakfaaGreatC17
import Derived.Test.YtgfdeiijblakfaaGreatC18
import Derived.Test.YtgfdeiijblakfaaGreatC19
import Derived.Test.YtgfdeiijblakfaaGreatC20
import Derived.Test.YtgfdeiijblakfaaGreatC21
import Derived.Test.YtgfdeiijblakfaaGreatC22
import Derived.Test.YtgfdeiijblakfaaGreatC23
import Derived.Test.YtgfdeiijblakfaaGreatC24
import Derived.Test.YtgfdeiijblakfaaGreatC25
import Derived.Test.YtgfdeiijblakfaaGreatC26
import Derived.Test.YtgfdeiijblakfaaGreatC27
import Derived.Test.YtgfdeiijblakfaaGreatC28
import Derived.Test.YtgfdeiijblakfaaGreatC29
import Derived.Test.YtgfdeiijblakfaaGreatC30
import Derived.Test.YtgfdeiijblakfaaGreatC31
import Derived.Test.YtgfdeiijblakfaaGreatC32
import Derived.Test.YtgfdeiijblakfaaGreatC33
import Derived.Test.YtgfdeiijblakfaaGreatC34
import Derived.Test.YtgfdeiijblakfaaGreatC35
import Derived.Test.YtgfdeiijblakfaaGreatC36
import Derived.Test.YtgfdeiijblakfaaGreatC37
import Derived.Test.YtgfdeiijblakfaaGreatC38
import Derived.Test.YtgfdeiijblakfaaGreatC39
set_option maxRecDepth 20000
namespace Go.Proofs.YtgfdeiijblakfaaGreat.Tb
open Go Go.RowKit Go.Stg
theorem Sl.post {W w w':World} {b pb:Nat} {sl psv v:Value} {first ret':Int} {S':List Slot} {F':List Int} {e:Ending} (h1:Mod [] W w) (h3:∀x∈gfoot b pb sl psv,W.heap.size≤x) (h:GenPost v b first S' F' ret' sl psv pb w e w'):e=.returned v∧Sl W b pb sl first S' F' ret' w':=by
 obtain⟨psv',rfl,hm,hG,hf⟩:=h;refine⟨rfl,psv',h1.then hm (fun x hx=>.inr (h3 x hx)),hG,fun x hx=> ?_⟩;simp only[gfoot,List.mem_cons,List.mem_append,Option.mem_toList]at hx;rcases hx with rfl|rfl|hx|hx
 ·exact h3 x (by simp[gfoot])
 ·exact h3 x (by simp[gfoot])
 ·exact h3 x (by simp[gfoot,hx])
 ·rcases hf x hx with h|h
  ·exact h3 x (by simp[gfoot,h])
  ·exact Nat.le_trans h1.size h
end Go.Proofs.YtgfdeiijblakfaaGreat.Tb
namespace Go.Proofs.YtgfdeiijblakfaaGreat.Ty
open Go Go.RowKit Go.Stg
theorem fields_one {w:World} {b:Nat} {k c:Int} {T:TypeId} {fr:Nat×Nat} (h:w.heap[b]? =some (.cells #[.int .i64 k,.int .i64 c] T fr)):FieldsAt w (.slice (some ⟨b,0,none⟩) 1 1) [(k,c)]:=by
 refine .inr ⟨b,0,1,rfl,lt_of h,by simp[maxLen],fun i hi=> ?_⟩;have:i=0:=by simpa using hi
 subst this;rw[cells_of h,cells_of h];exact⟨rfl,rfl⟩
end Go.Proofs.YtgfdeiijblakfaaGreat.Ty
namespace Go.Proofs.YtgfdeiijblakfaaGreat
open Go Go.RowKit Go.Stg
def little:List Int→Int
 | []=>0
 |b::l=>b+256*little l
theorem little_snoc (b:Int):∀l:List Int,little (l++[b])=little l+b*256^l.length
 | []=>by simp[little]
 |a::l=>by
  rw[List.cons_append,little,little,little_snoc b l,List.length_cons,Int.pow_succ,Int.mul_add,Int.mul_comm 256 (b*_),Int.mul_assoc,Int.add_assoc]
theorem little_range:∀(l:List Int),(∀b∈l,0≤b∧b≤255)→0≤little l∧little l<256^l.length
 | [],_=>by simp[little]
 |a::l,h=>by
  have h1:=h a (by simp);have h2:=little_range l fun b hb=>h b (List.mem_cons_of_mem _ hb)
  rw[little,List.length_cons,Int.pow_succ];omega
theorem leB_snoc (v:Int) (k:Nat):leB v (k+1)=leB v k++[v/256^k%256]:=by
 induction k generalizing v with
 |zero=>simp[leB]
 |succ k ih=>
  rw[leB,ih,leB,List.cons_append,Int.ediv_ediv_of_nonneg (by omega), ←Int.pow_succ']
theorem little_leB (v:Int) (k:Nat):little (leB v k)=v%256^k:=by
 induction k generalizing v with
 |zero=>simp[leB,little,Int.emod_one]
 |succ k ih=>
  rw[leB,little,ih,Int.pow_succ'];have h1:=Int.emod_add_mul_ediv v 256;have h2:=Int.emod_add_mul_ediv (v/256) (256^k);have hp:(0:Int)<256^k:=Int.pow_pos (by omega);have r1:=Int.emod_nonneg v (show(256:Int)≠0 by omega);have r2:=Int.emod_lt_of_pos v (show(0:Int)<256 by omega);have r3:=Int.emod_nonneg (v/256) (show(256:Int)^k≠0 by omega);have r4:=Int.emod_lt_of_pos (v/256) hp;generalize(256:Int)^k=P at*;generalize v%256=a at*;generalize(v/256)%P=b at*;generalize v/256/P=q at*;have e:v=(a+256*b)+256*P*q:=by
   rw[←h1, ←h2,Int.mul_add,Int.mul_assoc,Int.add_assoc]
  rw[e,Int.add_mul_emod_self_left,Int.emod_eq_of_lt (by omega) (by omega)]
end Go.Proofs.YtgfdeiijblakfaaGreat
namespace Go
namespace Stg
theorem Scene.own1 {c:Comp} {w:World} {f:List Nat} (h:c.on w f):Scene f w [c] w:=Scene.start ⟨f,[],h,rfl,by simp,by simp⟩
theorem Scene.takes1 {c':Comp} {w w':World} {f:List Nat} {v:Value} (h:Scene f w [c'] w'):Takes c' v w f (.returned v) w':=by
 obtain⟨h1,fp,⟨g,z,h2,hz,_,rfl⟩,h3⟩:=h;have hz':z=[]:=hz;subst hz';exact⟨g,rfl,h2,h1,by simpa using h3⟩
end Stg
end Go
namespace Go
namespace Stg
theorem Scene.own {c:Comp} {w:World} {f:List Nat} (h:c.on w f):Scene f w [c] w:=by
 have:=Scene.start (cs:=[c]) (w:=w) (fp:=f++[]) ⟨f,[],h,rfl,by simp,rfl⟩
 rwa [List.append_nil]at this
end Stg
end Go
namespace Go.Proofs.YtgfdeiijblakfaaGreat.Bw
open Go Go.RowKit Go.Stg
end Go.Proofs.YtgfdeiijblakfaaGreat.Bw
namespace Go
namespace Stg
section
variable {P:Program} {ops:Array Oper} {Out:Prop} {Q:Act→World→Prop}
theorem stage_look {fa:List Nat} {W:World} (f:FuncId) (args:Array Value) (v:Value) {o:Oper} {rest:List Oper} {a:Act} {asx:Array Operand} {ts:Array TypeId}
  (hop:o.op=.call ⟨.value (.func f),asx,ts⟩) (hcall:∀(args:Array Value) w,(callFunc f args).run P w=.ok (.enter f args) w)
  (hw:Region.wanted o (yielded ops a.tmps)=true) (hargs:(asx.toList.map a.eval).toArray=args)
  (hc:∀w,Mod [] W w→Calls P f args w fun e w'=>e=.returned v∧Mod [] w w')
  (h:wpStage P ops (fun w'=>∃x:GW fa W,w'=x.1) Out Q rest (fun w'=>Mod [] W w') (a.put o.dst v)):
  wpStage P ops (fun w'=>∃x:GW fa W,w'=x.1) Out Q (o::rest) (fun w'=>Mod [] W w') a:=
 stage_go f args v (fun w'=>Mod [] W w') hop hcall hw hargs (fun w hm=>(hc w hm).mono fun _ _ ⟨he,k⟩=>⟨he,hm.nil_then k⟩) (fun _ h=>InGW.of (h.mono (by simp))) h
end
end Stg
end Go
namespace Go.Proofs.YtgfdeiijblakfaaGreat
open Go Go.RowKit Go.Stg
theorem withinN_nat {off n:Int} {size:Int} (hn:0≤n) (h:withinN off n size=true):∃a b:Nat,off=a∧n=b∧(a:Int)+b≤size:=by
 unfold withinN at h;simp only[Bool.and_eq_true,decide_eq_true_eq]at h;exact⟨off.toNat,n.toNat,by omega,by omega,by omega⟩
end Go.Proofs.YtgfdeiijblakfaaGreat
namespace Go.Proofs.YtgfdeiijblakfaaGreat
open Go Go.RowKit Go.Stg
section
variable {c:HC} {k:Nat} {s:HS}
theorem inv_actQ {p op h arg e:Int} (hI:HInv c k s) (ho:1≤op∧op≤11) (hh:0≤h∧h≤18446744073709551615) (ha:0≤arg∧arg≤18446744073709551615) (he:0≤e∧e≤29):HInv c (k+2) (actQ c s p op h arg e).2:=by
 unfold actQ;split
 ·exact hI.up (by omega)
 ·rename_i h1;split
  ·exact hI.up (by omega)
  ·exact(inv_log hI ⟨hI.alive (Classical.byContradiction h1),.inl ho,hh,ha,he⟩).up (by omega)
theorem inv_storeD (hI:HInv c k s) (p o off:Int) {b:List Int} (hb:∀x∈b,0≤x∧x≤255):HInv c k (storeD s p o off b).2:=by
 unfold storeD;split
 ·exact hI
 ·rename_i h;have hE:accD s p o 2=0:=Classical.byContradiction h;split
  ·exact hI
  ·rename_i hw;obtain⟨x,y,rfl,e,hf⟩:=withinN_nat (off:=off) (n:=b.length) (size:=sizeH s o) (by omega) (by simpa using hw);obtain⟨j,xo,xl,hj,hjn,hlv,hent,hxo,hxl,hby,hmx,hms,hus,hob⟩:=ob_at hI (acc_res hE);exact(inv_put hI (acc_res hE) hj (off:=x) (by omega) (b:=b) (by omega) hb).1
theorem storeD_range (hI:HInv c k s) (p o off:Int) (b:List Int):0≤(storeD s p o off b).1∧(storeD s p o off b).1≤29:=by
 have:=accD_range hI p o 2;unfold storeD;split
 ·exact this
 ·split<;>simp only<;>omega
section
variable {o:Int} (o0:0≤o) (o1:o≤18446744073709551615)
include o0 o1
theorem inv_opLoad (hI:HInv c k s) (p off n:Int):HInv c (k+2) (opLoad c s p o off n).2:=inv_actQ hI (by omega) ⟨o0,o1⟩ (u64_range _) (loadE_range hI _ _ _ _)
theorem inv_opStore (hI:HInv c k s) (p off:Int) {b:List Int} (hb:∀x∈b,0≤x∧x≤255):HInv c (k+2) (opStore c s p o off b).2:=
 inv_act hI (fun _=>(inv_storeD hI p o off hb).up (by omega)) (by omega) (fun _=>⟨o0,o1⟩) (u64_range _) fun _=>storeD_range hI p o off b
end
end
end Go.Proofs.YtgfdeiijblakfaaGreat
namespace Go
namespace Stg
open Go.ChangeShapes Go.WideShapes Go.ChangeAt Go.RowKit
section
variable {P:Program} {H:Type} {enc:TypeId×Value→H}
theorem cell_int {w:World} {r:Reach} {base:Nat} {u:TypeId} {k:IntKind} {x:Value} (hu:P.underlying u=some (.int k)) (h:Cell.okWide P w r base u x):∃n,x=.int k n∧k.min≤n∧n≤k.max:=by
 unfold Cell.okWide at h;rw[hu]at h;unfold Cell.ok at h;rw[hu]at h;cases x<;>simp at h;obtain⟨rfl,h⟩:=h;exact⟨_,rfl,h.1,h.2⟩
theorem open_int_agg {w:World} {r:Reach} {base:Nat} {t:TypeId} {v:Value} {ts:List TypeId} {k:IntKind} (ha:(match P.underlying t with|some (.struct _)|some (.array _ _)=>true|_=>false)=true)
  (hts:P.cellTypes P.depth t=some ts) (hC:P.cellsOf t=ts.length) (hk:∀u∈ts,P.underlying u=some (.int k)) (hval:Value.okWide P w r base t v):
  ∃ns:List Int,v=.agg (ns.map (Value.int k)).toArray∧ns.length=ts.length∧∀n∈ns,k.min≤n∧n≤k.max:=by
 have h:∃cs,v=.agg cs∧cs.size=P.cellsOf t∧Row.okWide P w r base t cs:=by
  unfold Value.okWide at hval;split at hval
  ·exact hval
  ·exact hval
  ·rename_i h1 h2;split at ha
   ·rename_i hs;exact absurd hs (h1 _)
   ·rename_i hs;exact absurd hs (h2 _ _)
   ·cases ha
 obtain⟨cs,rfl,hsz,ts',hts',_,hrow⟩:=h;have:ts'=ts:=by rw[hts]at hts';exact(Option.some.inj hts').symm
 subst this;have each:∀i (hi:i<cs.size),∃n,cs[i]=.int k n∧k.min≤n∧n≤k.max:=fun i hi=>by
  obtain⟨u,hu,hc⟩:=hrow i cs[i] (by simp[hi]);have hm:i%ts'.length=i:=Nat.mod_eq_of_lt (by omega);rw[hm]at hu;exact cell_int (hk u (List.mem_of_getElem? hu)) hc
 refine⟨cs.toList.map intOf,?_,by simp;omega,?_⟩
 ·congr 1;apply Array.ext
  ·simp
  ·intro i h1 h2;obtain⟨n,hn,_⟩:=each i h1;simp[hn,intOf]
 ·intro n hn;simp only[List.mem_map]at hn;obtain⟨x,hx,rfl⟩:=hn;obtain⟨i,hi,rfl⟩:=List.mem_iff_getElem.1 hx;simp only[Array.length_toList]at hi;obtain⟨m,hm,h1⟩:=each i hi;simp only[Array.getElem_toList,hm,intOf];exact h1
theorem trodAll_stays (hl:laidOutB P=true) {W W':World} (hb:Below W.heap.size W W'):∀(ts:List TypeId) (vs:List Value) (ds:List (DataW H)) (ps:List MemPlace),(∀t∈ts,P.readableRec t=true∧t<P.types.size)→
  DataW.TrodAll enc P W 0 (fun _=>true) true ts vs ds ps→(∀x∈ps,x.block<W.heap.size)→DataW.TrodAll enc P W' 0 (fun b=>decide (b<W.heap.size)) true ts vs ds ps
 | [],vs,ds,ps,_,h,_=>by
  obtain⟨rfl,rfl,rfl⟩:=trodAll_nil h;exact trodAll_mk0
 |t::ts,vs,ds,ps,ht,h,hlt=>by
  obtain⟨v,vs',d,ds',p,q,rfl,rfl,rfl,h1,h2⟩:=trodAll_cons h;obtain⟨r1,r2⟩:=ht t (by simp);exact trodAll_cons_mk (Below.trod hl r1 r2 h1 hb (fun x hx=>hlt x (by simp[hx]))) (trodAll_stays hl hb ts vs' ds' q (fun t h=>ht t (by simp[h])) h2 (fun x hx=>hlt x (by simp[hx])))
theorem law_close {f:Func} {s:ChangeSpec} {W W':World} {args:Array Value} {ds gs:List (DataW H)} {before:List MemPlace} {bt:TypeId}
  (hW:DataW.Whole enc P f.params.toList s.vars false W args.toList ds gs before) (hl:laidOutB P=true) (hts:∀t∈f.params.toList,P.readableRec t=true∧t<P.types.size) (hv:s.vars=[])
  (hb:Mod [] W W') (hres:f.resultTypes=#[bt]) (hbt:P.underlying bt=some .bool) (hspec:s.fn H (ds++gs)={results:=[.lit (.bool true)],args:=ds}):
  s.post enc P f false true false false W args (.bool true) W':=by
 have hW0:=hW;have hlt:=hW.lt;obtain⟨p,q,hA,hV,rfl,hfz,hnd⟩:=hW;have hV':=hV;rw[hv]at hV';obtain⟨hg,hq⟩:=trodVars_none hV';refine⟨ds,gs,p++q,[],p,[],hW0,?_,?_,?_,hb.below.frame _,fun h=>by cases h⟩
 ·rw[hspec,hres];exact trodAll_mk1 (shut_bool hbt true)
 ·rw[hspec];exact trodAll_stays hl hb.below _ _ _ _ hts hA (fun x hx=>hlt x (by simp[hx]))
 ·rw[hspec,hv];rfl
end
end Stg
end Go
namespace Go.Proofs.YtgfdeiijblakfaaGreat.Ty
open Go Go.RowKit Go.Stg Go.ChangeShapes Go.WideShapes Go.ChangeAt
theorem own:ownKnob Tryz.prog.godebug=none:=by kernel_rfl
end Go.Proofs.YtgfdeiijblakfaaGreat.Ty
