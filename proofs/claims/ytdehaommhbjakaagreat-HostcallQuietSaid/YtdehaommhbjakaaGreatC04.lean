/- Joined contracts. No conditions. -/
import Derived.Test.YtdehaommhbjakaaGreatC03
set_option maxHeartbeats 4000000
set_option maxRecDepth 100000
namespace Go.Proofs.YtdehaommhbjakaaGreat.Tb
open RowKit Stg
def iH (v:Value) (b:Nat) (first:Int) (S':List Slot) (F':List Int) (ret':Int) (sl psv:Value) (pb:Nat) (w:World) (e:Ending) (w':World):Prop:=
 ∃psv',e=.returned v∧Mod (bQ b pb sl psv) w w'∧ej w' b first S' F' ret' sl psv' pb∧∀x,psv'.ownBlock=some x→psv.ownBlock=some x∨w.heap.size≤x
theorem pK {b pb:Nat} {sl psv:Value}:∀x∈pb::psv.ownBlock.toList,x∈bQ b pb sl psv:=fun x hx=>by
 rcases List.mem_cons.1 hx with rfl|hx
 ·simp[bQ]
 ·simp only[bQ,List.mem_cons,List.mem_append];exact .inr (.inr (.inr hx))
section
variable {w:World} {b pb:Nat} {first ret:Int} {S:List Slot} {F:List Int} {sl psv:Value} (h:ej w b first S F ret sl psv pb)
include h
theorem Bp (hF:F=[]) (d:Int):Calls Tryz.prog 156 #[.pointer (some ⟨b,0,none⟩),.int .u64 d] w fun e w'=>e=.returned (.tuple #[.int .i64 0,.int .i64 0,.int .i64 17])∧Mod [] w w':=by
 subst hF;have hcb:=ae h.aQ;have hT:=zh (B6 d pb psv w h.lg);clear h;go_enter Tryz.func156,Tryz.ntmps156;go_wp2_with fail;refine hT.out.mono ?_;rintro e w1 ⟨rfl,hm1⟩;go_wp2_with fail;exact bodyPost_ret (v:=.tuple #[.int .i64 0,.int .i64 0,.int .i64 17]) (by simp[results,Tryz.results156,go_sem]) rfl ⟨rfl,hm1⟩
theorem BG (d:Int) (hd:0≤d) (hd2:d≤18446744073709551615) (hn:0<F.length) (i:Nat) (hi:d%F.length=i) (hil:i<F.length) (j:Nat) (hj:F[i]=j) (hjl:j<S.length) (hg0:0≤S[j].1) (hg1:S[j].1<4294967295) (g':Int) (hg':(S[j].1=0∧g'=first)∨(S[j].1≠0∧g'=S[j].1+1)):
  Calls Tryz.prog 156 #[.pointer (some ⟨b,0,none⟩),.int .u64 d] w (iH (.tuple #[.int .i64 j,.int .i64 g',.int .i64 0]) b first (S.set j (g',true)) (iY F i hn) ret sl psv pb w):=by
 have hcb:=ae h.aQ;have hT:=zh (Bl d hd hd2 pb psv F w h.lg hn i hi hil);rw[hj]at hT;have hbl:=aL h.aQ;obtain⟨g,cap,rfl,_,hg⟩:=cW h.row (by omega);go_enter Tryz.func156,Tryz.ntmps156;go_wp2_with fail;refine hT.out.mono ?_;rintro e w1 ⟨psv',rfl,hm1,hp1,hs1⟩;have hbn:b∉pb::psv.ownBlock.toList:=fun hx=>by
  rcases List.mem_cons.1 hx with e|hx
  ·exact h.n1 e
  ·exact h.n3.1 (by simpa using hx)
 have hgn:g∉pb::psv.ownBlock.toList:=fun hx=>by
  rcases List.mem_cons.1 hx with e|hx
  ·exact h.n2.2 (by rw[←e];rfl)
  ·exact h.n3.2 g rfl (by simpa using hx)
 have b1:=hm1.at h.aQ hbn;have r1:=aG h.row hm1 (fun x hx=>by have hx':some g=some x:=hx;obtain rfl:=Option.some.inj hx';exact hgn);have c1:=(r1.cellAt (j*2) (by omega)).trans (jZ S j hjl).1;have c2:=(r1.cellAt (j*2+1) (by omega)).trans (jZ S j hjl).2;have f1:=r1.frozenAt (j*2);have f2:=r1.frozenAt (j*2+1);have hcb1:=ae b1;clear hcb hT;obtain⟨n1,n2,n3⟩:=(⟨h.n1,h.n2,h.n3⟩:_∧_∧_);clear h;have hgb:g≠b:=fun e=>n2.1 (by rw[e];rfl)
 have hps:∀x,psv'.ownBlock=some x→x≠b∧x≠g:=fun x hx=>by
  rcases hs1 x hx with h|h
  ·exact⟨fun e=>n3.1 (by rw[h,e]),fun e=>n3.2 g rfl (by rw[h,e])⟩
  ·exact⟨by omega,by omega⟩
 have hgl:=hm1.lt hg;have fin:∀(u:Int) (W3:World),Mod [g] w1 W3→W3.ownsRow 0 279 2 (.slice (some ⟨g,0,none⟩) S.length cap) S.length (eG (S.set j (u,true)))→∀w4,Mod [] W3 w4→iH (.tuple #[.int .i64 j,.int .i64 u,.int .i64 0]) b first (S.set j (u,true)) (iY F i hn) ret (.slice (some ⟨g,0,none⟩) S.length cap) psv pb w (.returned (.tuple #[.int .i64 j,.int .i64 u,.int .i64 0])) w4:=by
  intro u W3 hmW hrW w4 hm4;have hm5:=hmW.ag hm4;refine⟨psv',rfl,(hm1.mono pK).trans (hm5.mono (fun x hx=>by rw[List.mem_singleton.1 hx];simp[bQ,Value.ownBlock])),⟨hm5.at b1 (by simpa using Ne.symm hgb),?_,hp1.mod hm5 (fun x hx hxg=> ?_),n1,n2,⟨fun e=>(hps b e).1 rfl,fun x hx e=> ?_⟩⟩,hs1⟩
  ·rw[List.length_set];exact aG hrW hm4 (by simp)
  ·rw[List.mem_singleton.1 hxg]at hx;rcases List.mem_cons.1 hx with e|hx
   ·exact n2.2 (by rw[←e];rfl)
   ·exact(hps g (by simpa using hx)).2 rfl
  ·have hx':some g=some x:=hx;obtain rfl:=Option.some.inj hx';exact(hps g e).2 rfl
 have finH:=zh fin;clear fin;rcases hg' with⟨hz,rfl⟩|⟨hz,rfl⟩
 ·rw[hz]at c1;clear hg0 hg1 hz;have b2:=dI (a:=⟨g,j*2,none⟩) (v:=.int .i64 1) b1 (Ne.symm hgb);have hcb2:=ae b2;have r3:=(((r1.stored (j*2) (.int .i64 1)).1.stored (j*2) (.int .i64 g')).1.stored (j*2+1) (.bool true)).1;rw[List.set_set,pG S j g' true hjl]at r3;have hmW:=(((Mod.refl [g] w1).setCell (p:=⟨g,j*2,none⟩) (.inl (by simp)) (.int .i64 1)).setCell (p:=⟨g,j*2,none⟩) (.inl (by simp)) (.int .i64 g')).setCell (p:=⟨g,j*2+1,none⟩) (.inl (by simp)) (.bool true);have hfin:=zh (finH.out g' _ hmW r3);have c3:=(r3.cellAt (j*2) (by omega)).trans (jZ (S.set j (g',true)) j (by simpa using hjl)).1;simp only[List.getElem_set_self]at c3;go_wp2_with fail;have hglW:=hmW.lt hgl;clear r3 hmW;generalize((w1.setCell ⟨g,j*2,none⟩ (.int .i64 1)).setCell ⟨g,j*2,none⟩ (.int .i64 g')).setCell ⟨g,j*2+1,none⟩ (.bool true)=W3 at*;have k1:=GW.bR (S:=[]) c3 hglW (by simp);refine aS (by kernel_rfl) (by kernel_rfl) ?_;refine sq 8 ?_;refine au fun w4 hm4=> ?_
  go_wp2_with fail;exact bodyPost_ret (v:=.tuple #[.int .i64 j,.int .i64 g',.int .i64 0]) (by simp[results,Tryz.results156,go_sem]) rfl (hfin.out w4 hm4)
 ·have r3:=((r1.stored (j*2) (.int .i64 (S[j].1+1))).1.stored (j*2+1) (.bool true)).1;rw[pG S j _ true hjl]at r3;have hmW:=((Mod.refl [g] w1).setCell (p:=⟨g,j*2,none⟩) (.inl (by simp)) (.int .i64 (S[j].1+1))).setCell (p:=⟨g,j*2+1,none⟩) (.inl (by simp)) (.bool true);have hfin:=zh (finH.out (S[j].1+1) _ hmW r3);have c3:=(r3.cellAt (j*2) (by omega)).trans (jZ (S.set j (S[j].1+1,true)) j (by simpa using hjl)).1;simp only[List.getElem_set_self]at c3;generalize S[j].1=ge at*;have hz2:(ge+1==1)=false:=by simp only[beq_eq_false_iff_ne];omega
  go_wp2_with fail;have hglW:=hmW.lt hgl;clear r3 hmW;generalize(w1.setCell ⟨g,j*2,none⟩ (.int .i64 (ge+1))).setCell ⟨g,j*2+1,none⟩ (.bool true)=W3 at*;have k1:=GW.bR (S:=[]) c3 hglW (by simp);refine aS (by kernel_rfl) (by kernel_rfl) ?_;refine sq 8 ?_;refine au fun w4 hm4=> ?_
  go_wp2_with fail;exact bodyPost_ret (v:=.tuple #[.int .i64 j,.int .i64 (ge+1),.int .i64 0]) (by simp[results,Tryz.results156,go_sem]) rfl (hfin.out w4 hm4)
theorem EX (k:Int) (hl:jn S k=.tuple #[.int .i64 0,.bool false]):Calls Tryz.prog 182 #[.pointer (some ⟨b,0,none⟩),.int .i64 k] w fun e w'=>e=.returned (.int .i64 6)∧Mod [] w w':=by
 have hL:=zh (tu h k);rw[hl]at hL;clear h;go_enter Tryz.func182,Tryz.ntmps182;go_wp2_with fail;refine hL.out.mono ?_;rintro e w1 ⟨rfl,hm1⟩;go_wp2_with fail;go_ret;exact⟨rfl,hm1⟩
theorem xA (j:Nat) (hjl:j<S.length) (ge:Int) (hs:S[j]=(ge,true)) (r':Int) (F':List Int) (hr0:0≤ret) (hr1:ret≤1000000) (hF:F.length<1000000) (hcase:(ge=4294967295∧r'=ret+1∧F'=F)∨(ge≠4294967295∧r'=ret∧F'=F++[(j:Int)])):
  Calls Tryz.prog 182 #[.pointer (some ⟨b,0,none⟩),.int .i64 j] w (iH (.int .i64 0) b first (S.set j (ge,false)) F' r' sl psv pb w):=by
 have hL:=zh (tu h j);have hV:jn S j=.tuple #[.int .i64 ge,.bool true]:=by
  unfold jn;simp only[if_pos (show(0:Int)≤j by omega),Int.toNat_natCast,List.getElem?_eq_getElem hjl,hs]
 rw[hV]at hL;clear hV;obtain⟨g,cap,rfl,_,hg⟩:=cW h.row (by omega);go_enter Tryz.func182,Tryz.ntmps182;go_wp2_with fail;refine hL.out.mono ?_;rintro e w1 ⟨rfl,hm1⟩;have b1:=hm1.at h.aQ (by simp);have r1:=aG h.row hm1 (by simp);have p1:=h.lg.mod hm1 (by simp);have hcb1:=ae b1;have c2:=(r1.cellAt (j*2+1) (by omega)).trans (jZ S j hjl).2;have f2:=r1.frozenAt (j*2+1);rw[hs]at c2;have hgb:g≠b:=fun e=>h.n2.1 (by rw[e];rfl)
 have b2:=dI (a:=⟨g,j*2+1,none⟩) (v:=.bool false) b1 (Ne.symm hgb);have hcb2:=ae b2;have hfb2:=ay b2;have r2:=(r1.stored (j*2+1) (.bool false)).1;rw[AU S j false hjl,hs]at r2;have hm2:=(Mod.refl [g] w1).setCell (p:=⟨g,j*2+1,none⟩) (.inl (by simp)) (.bool false);have p2:=p1.mod hm2 (fun x hx hxg=>by
  rw[List.mem_singleton.1 hxg]at hx;rcases List.mem_cons.1 hx with e|hx
  ·exact h.n2.2 (by rw[←e];rfl)
  ·exact h.n3.2 g rfl (by simpa using hx))
 have hm3:Mod (bQ b pb (.slice (some ⟨g,0,none⟩) S.length cap) psv) w (w1.setCell ⟨g,j*2+1,none⟩ (.bool false)):=(hm1.mono (by simp)).trans (hm2.mono (fun x hx=>by rw[List.mem_singleton.1 hx];simp[bQ,Value.ownBlock]));obtain⟨n1,n2,n3⟩:=(⟨h.n1,h.n2,h.n3⟩:_∧_∧_);clear h;clear hL b1 r1 p1;rcases hcase with⟨rfl,rfl,rfl⟩|⟨hne,rfl,rfl⟩
 ·go_wp2_with fail;go_ret;have b4:=aq (o:=3) (v:=.int .i64 (ret+1)) b2;have hm4:=(Mod.refl [b] (w1.setCell ⟨g,j*2+1,none⟩ (.bool false))).setCell (p:=⟨b,3,none⟩) (.inl (by simp)) (.int .i64 (ret+1));have hpb:∀x∈pb::psv.ownBlock.toList,x∉ [b]:=fun x hx hxb=>by
   rw[List.mem_singleton.1 hxb]at hx;rcases List.mem_cons.1 hx with e|hx
   ·exact n1 e
   ·exact n3.1 (by simpa using hx)
  refine⟨psv,rfl,hm3.trans (hm4.mono (fun x hx=>by rw[List.mem_singleton.1 hx];simp[bQ])),⟨b4,?_,p2.mod hm4 hpb,n1,n2,n3⟩,fun x hx=>.inl hx⟩;rw[List.length_set];exact aG r2 hm4 (fun x hx=>by have hx':some g=some x:=hx;obtain rfl:=Option.some.inj hx';simpa using hgb)
 ·have hne2:(ge==4294967295)=false:=by simpa using hne
  go_wp2_with fail;refine(sR j pb psv _ _ p2 (by simpa using hF)).mono ?_;rintro e w4 ⟨psv',rfl,hm4,hp4,hs4⟩;go_wp2_with fail;go_ret;have hbn:b∉pb::psv.ownBlock.toList:=fun hx=>by
   rcases List.mem_cons.1 hx with e|hx
   ·exact n1 e
   ·exact n3.1 (by simpa using hx)
  have hgn:g∉pb::psv.ownBlock.toList:=fun hx=>by
   rcases List.mem_cons.1 hx with e|hx
   ·exact n2.2 (by rw[←e];rfl)
   ·exact n3.2 g rfl (by simpa using hx)
  have hbl:=aL b2;have hgl:=hm1.lt hg;have hsz:=hm3.size;have hps:∀x,psv'.ownBlock=some x→x≠b∧x≠g:=fun x hx=>by
   rcases hs4 x hx with h|h
   ·exact⟨fun e=>n3.1 (by rw[h,e]),fun e=>n3.2 g rfl (by rw[h,e])⟩
   ·have:=hm2.lt hgl;exact⟨by omega,by omega⟩
  refine⟨psv',rfl,hm3.trans (hm4.mono pK),⟨hm4.at b2 hbn,?_,by simpa using hp4,n1,n2,⟨fun e=>(hps b e).1 rfl,fun x hx e=> ?_⟩⟩,fun x hx=>(hs4 x hx).imp id (fun h=>by omega)⟩
  ·rw[List.length_set];exact aG r2 hm4 (fun x hx=>by have hx':some g=some x:=hx;obtain rfl:=Option.some.inj hx';exact hgn)
  ·have hx':some g=some x:=hx;obtain rfl:=Option.some.inj hx';exact(hps g e).2 rfl
end
end Go.Proofs.YtdehaommhbjakaaGreat.Tb
namespace Go.Proofs.YtdehaommhbjakaaGreat.Tb
open RowKit Stg
section
variable {P:Program} {ops:Array Oper} {I:World→Prop} {Out:Prop} {Q:Act→World→Prop}
theorem jf (f:FuncId) (args:Array Value) (V:Value→Prop) (C':Value→World→Prop) {o:Oper} {C:World→Prop} {a:Act} {asz:Array Operand} {ts:Array TypeId} {K:(World→Prop)→Act→Prop} {I':Value→World→Prop}
  (hop:o.op=.call ⟨.value (.func f),asz,ts⟩) (hcall:∀(args:Array Value) w,(callFunc f args).run P w=.ok (.enter f args) w)
  (hargs:(asz.toList.map a.eval).toArray=args) (hV:∃v,V v)
  (hc:∀w,C w→Calls P f args w fun e w'=>∃v,e=.returned v∧V v∧C' v w') (hI:∀v w,C' v w→I' v w)
  (h:∀v,V v→K (C' v) (a.put o.dst v)):∃(V:Value→Prop) (R:Value→World→Prop),(∃v,V v)∧(∀w,C w→gives P o a w Out R)∧(∀v w,R v w→V v∧I' v w)∧∀v,V v→K (R v) (a.put o.dst v):=by
 refine⟨V,fun u w=>V u∧C' u w,hV,fun w hC=> ?_,fun u w h1=>⟨h1.1,hI u w h1.2⟩,fun u hu=> ?_⟩
 ·unfold gives;rw[nw hop rfl hcall w,hargs];exact(hc w hC).mono fun e w' ⟨v,h1,h2,h3⟩=>by subst h1;exact⟨h2,h3⟩
 ·have e:(fun w=>V u∧C' u w)=C' u:=by
   funext w;simp[hu]
  have h':=h u hu;rw[←e]at h';exact h'
theorem cD (f:FuncId) (args:Array Value) (V:Value→Prop) (C':Value→World→Prop) {o:Oper} {rest:List Oper} {C:World→Prop} {a:Act} {asz:Array Operand} {ts:Array TypeId}
  (hop:o.op=.call ⟨.value (.func f),asz,ts⟩) (hcall:∀(args:Array Value) w,(callFunc f args).run P w=.ok (.enter f args) w)
  (hw:Region.wanted o (yielded ops a.tmps)=true) (hargs:(asz.toList.map a.eval).toArray=args) (hV:∃v,V v)
  (hc:∀w,C w→Calls P f args w fun e w'=>∃v,e=.returned v∧V v∧C' v w') (hI:∀v w,C' v w→I w)
  (h:∀v,V v→aH P ops I Out Q rest (C' v) (a.put o.dst v)):aH P ops I Out Q (o::rest) C a:=by
 unfold aH;have he:aY o=true:=by simp[aY,hop]
 simp only[hw,he,if_true];exact jf f args V C' hop hcall hargs hV hc (I':=fun _ w=>(rest=[]∧gH ops=true)∨I w) (fun v w h=>.inr (hI v w h)) h
theorem cP (V:Value→Prop) (C':Value→World→Prop) {o:Oper} {rest:List Oper} {C:World→Prop} {a:Act}
  (hw:Region.wanted o (yielded ops a.tmps)=true) (he:aY o=true) (hV:∃v,V v)
  (hrun:∀w,C w→∃v w',(execOp a.eval o).run P w=.ok (.value v) w'∧V v∧C' v w') (hI:∀v w,C' v w→I w)
  (h:∀v,V v→aH P ops I Out Q rest (C' v) (a.put o.dst v)):aH P ops I Out Q (o::rest) C a:=by
 unfold aH;simp only[hw,he,if_true];obtain⟨V',R,h1,h2,h3,h4⟩:=oI (I:=I) (Out:=Out) (K:=fun C a=>aH P ops I Out Q rest C a) V C' hV hrun hI h;exact⟨V',R,h1,h2,fun v w hr=>⟨(h3 v w hr).1,.inr (h3 v w hr).2⟩,h4⟩
theorem aO (v:Nat→Value) (ob:Obj) (C':Nat→World→Prop) {o:Oper} {rest:List Oper} {C:World→Prop} {a:Act}
  (hv:∀s s',v s=v s'→s=s') (hw:Region.wanted o (yielded ops a.tmps)=true) (he:aY o=true)
  (hrun:∀w,C w→(execOp a.eval o).run P w=.ok (.value (v w.heap.size)) (w.alloc ob)) (hC:∀w,C w→C' w.heap.size (w.alloc ob)) (hI:∀s w,C' s w→I w)
  (h:∀s,aH P ops I Out Q rest (C' s) (a.put o.dst (v s))):aH P ops I Out Q (o::rest) C a:=by
 unfold aH;simp only[hw,he,if_true];obtain⟨V',R,h1,h2,h3,h4⟩:=sj (I:=I) (Out:=Out) (K:=fun C a=>aH P ops I Out Q rest C a) v ob C' hv hrun hC hI h;exact⟨V',R,h1,h2,fun v w hr=>⟨(h3 v w hr).1,.inr (h3 v w hr).2⟩,h4⟩
end
def cV (k:Nat):List Int:=(List.range k).map Int.ofNat
theorem lp (k:Nat):(cV k).length=k:=by simp[cV]
theorem n5 (k:Nat):cV (k+1)=cV k++[(k:Int)]:=by simp[cV,List.range_succ]
def fresh (n:Nat):List Slot:=List.replicate n (0,false)
theorem iC (n:Nat):(fresh n).length=n:=by simp[fresh]
theorem AT (n:Nat):(madeCells #[.int .i64 0,.bool false] (n*2)).toList=eG (fresh n):=by
 have hl:(eG (fresh n)).length=n*2:=by rw[ur,iC]
 apply List.ext_getElem?;intro j;by_cases hj:j<n*2
 ·have hlt:j/2<(fresh n).length:=by rw[iC];omega
  obtain⟨c1,c2⟩:=jZ (fresh n) (j/2) hlt;have hs:(fresh n)[j/2]=(0,false):=by simp[fresh]
  rw[hs]at c1 c2;rw[Array.getElem?_toList];rcases Nat.mod_two_eq_zero_or_one j with hm|hm
  ·have e:j/2*2=j:=by omega
   rw[e]at c1;rw[c1];simp[madeCells,hj,hm]
  ·have e:j/2*2+1=j:=by omega
   rw[e]at c2;rw[c2];simp[madeCells,hj,hm]
 ·have hl2:(madeCells #[.int .i64 0,.bool false] (n*2)).toList.length=n*2:=by rw[Array.length_toList,size_madeCells]
  rw[List.getElem?_eq_none (by omega),List.getElem?_eq_none (by omega)]
theorem C0:(Tryz.prog.info? 279).map (fun i=>(i.zero,i.size,i.bytes))=some (some (.agg #[.int .i64 0,.bool false]),2,16):=by kernel_rfl
def zv (W:World) (sl:Value) (n pb:Nat) (w':World):Prop:=
 Mod [] W w'∧w'.ownsRow 0 279 2 sl n (eG (fresh n))∧(∀y,sl.ownBlock=some y→W.heap.size≤y)∧W.heap.size≤pb∧sl.ownBlock≠some pb∧
  ∃psv,gk 275 3 w' pb psv []∧(∀x,psv.ownBlock=some x→W.heap.size≤x)∧∀x,sl.ownBlock=some x→psv.ownBlock≠some x
theorem Br (n:Nat) (hn:n≤4096) (w:World):∃w',(Instr.makeSlice 229 (.int .i64 n) (.int .i64 n)).run Tryz.prog w=.ok (.slice (some ⟨w.heap.size,0,none⟩) n n) w'∧w'.ownsRow w.heap.size 279 2 (.slice (some ⟨w.heap.size,0,none⟩) n n) n (eG (fresh n))∧Mod [] w w':=by
 obtain⟨i0,hi,hz0,hz1,hz2⟩:=info_parts C0;obtain⟨w',h1,h2,h3⟩:=run_makeSlice_full (P:=Tryz.prog) w w.heap.size 229 279 i0 (.agg #[.int .i64 0,.bool false]) 2 Tryz.underlying229 hi hz0 hz1 .i64 .i64 n (by omega) (by rw[hz2];omega) (by unfold maxLen;omega) (Nat.le_refl _);exact⟨w',h1,by rw[←AT];exact h2,(Mod.refl [] w).grown h3 (by simp)⟩
theorem ej.y6 {w w':World} {b pb:Nat} {first ret:Int} {S:List Slot} {F F':List Int} {sl psv r:Value} {e:Ending} (h:ej w b first S F ret sl psv pb) (hp:oC 275 3 r pb psv (F'.map (.int .i64)) w e w'):
  ∃psv',e=.returned r∧Mod (pb::psv.ownBlock.toList) w w'∧ej w' b first S F' ret sl psv' pb∧∀x,psv'.ownBlock=some x→psv.ownBlock=some x∨w.heap.size≤x:=by
 obtain⟨psv',rfl,hm,hpl,hs⟩:=hp;have hbn:b∉pb::psv.ownBlock.toList:=fun hx=>by
  rcases List.mem_cons.1 hx with e|hx
  ·exact h.n1 e
  ·exact h.n3.1 (by simpa using hx)
 have hsn:∀x,sl.ownBlock=some x→x∉pb::psv.ownBlock.toList:=fun x hx hxm=>by
  rcases List.mem_cons.1 hxm with e|hxm
  ·exact h.n2.2 (by rw[hx,e])
  ·exact h.n3.2 x hx (by simpa using hxm)
 have hbl:=aL h.aQ;refine⟨psv',rfl,hm,⟨hm.at h.aQ hbn,aG h.row hm hsn,hpl,h.n1,h.n2,⟨fun e=> ?_,fun x hx e=> ?_⟩⟩,hs⟩
 ·rcases hs _ e with h'|h'
  ·exact h.n3.1 h'
  ·omega
 ·rcases hs _ e with h'|h'
  ·exact h.n3.2 x hx h'
  ·have:=(h.row.lt x hx).2;omega
theorem mW {P:Program} {w w':World} {o:Oper} {a:Act} {v x y:Value} {t:TypeId} {p q:Operand} (ho:o.op=.makeSlice t p q) (hx:a.eval p=x) (hy:a.eval q=y) (hr:(Instr.makeSlice t x y).run P w=.ok v w'):(execOp a.eval o).run P w=.ok (.value v) w':=by
 unfold execOp;simp[ho,hx,hy,hr]
theorem oU (n:Nat) (f:Int) (hn:n≤4096) (hf1:1≤f) (hf2:f≤4294967295) (w:World):
  Calls Tryz.prog 67 #[.int .i64 n,.int .i64 f] w fun e w'=>∃b pb sl psv,e=.returned (.tuple #[.pointer (some ⟨b,0,none⟩),.int .i64 0])∧Mod [] w w'∧ej w' b f (fresh n) (cV n) 0 sl psv pb∧∀x∈bQ b pb sl psv,w.heap.size≤x:=by
 have hM:=zh (Br n hn);have hNw:=zh fun w=>Dh _ [] w (by simp) (u6 w) ⟨_,_,_,rfl⟩
 go_enter Tryz.func67,Tryz.ntmps67;go_wp2_with fail;refine iQ 3 _ (fun w'=>∃x:GW [] w,w'=x.1) (fun w'=>Mod [] w w') (by kernel_rfl) rfl rfl (by kernel_rfl) (by kernel_rfl) (fun _ h=>ah.of h) (Mod.refl _ _).drew ?_;dsimp only[List.getElem_toArray,List.getElem_cons_succ,List.getElem_cons_zero];refine dd 2 (by kernel_rfl) (by decide) ?_;simp only[tA,tB,tC,tD,Nat.reduceAdd];(repeat go_big_quiet_step (fail));refine wpQuiet_nil ?_;refine fh (by decide) rfl rfl ?A rfl (by simp) ?B
 case A=>
  refine oI (fun v=>∃g,v=.slice (some ⟨g,0,none⟩) n n) (fun v w'=>Mod [] w w'∧w'.ownsRow 0 279 2 v n (eG (fresh n))∧∀y,v.ownBlock=some y→w.heap.size≤y) ⟨_,0,rfl⟩ (fun w' hw=> ?_) (fun v w' h=>ah.of h.1) (fun v hv=> ?_)
  ·obtain⟨w2,h1,h2,h3⟩:=hM.out w';refine⟨_,w2,mW rfl rfl rfl h1,⟨_,rfl⟩,hw.ag h3,aE h2 (Nat.zero_le _),fun y hy=>Nat.le_trans hw.size (h2.lt y hy).1⟩
  simp only[Act.put,sA,sB,sC];obtain⟨g,rfl⟩:=hv;refine ia ?_;refine cD 129 _ (fun u=>∃pb,u=.pointer (some ⟨pb,0,none⟩)) (fun u w'=>∃pb,u=.pointer (some ⟨pb,0,none⟩)∧zv w (.slice (some ⟨g,0,none⟩) n n) n pb w') rfl Tryz.call129 rfl rfl ⟨_,0,rfl⟩ (fun w' h=>(hNw.out w').mono fun e w'' ⟨pb,psv,he,hm,hp,hpb,hps⟩=>⟨_,he,⟨pb,rfl⟩,pb,rfl,?_⟩) (fun u w' ⟨pb,_,h⟩=>ah.of h.1) (fun u hu=> ?_)
  ·have hlt:=h.2.1.lt;refine⟨h.1.ag hm,aG h.2.1 hm (by simp),h.2.2,Nat.le_trans h.1.size hpb,fun e=>by have:=(hlt _ e).2;omega,psv,hp,fun x hx=>Nat.le_trans h.1.size (hps x hx),fun x hx e=>by have:=(hlt x hx).2;have:=hps x e;omega⟩
  obtain⟨pb,rfl⟩:=hu;simp only[Act.put,sA,sB,sC];refine sq 1 ?_;refine aO (fun b=>.pointer (some ⟨b,0,none⟩)) (.cells #[.int .i64 f,.slice (some ⟨g,0,none⟩) n n,.pointer (some ⟨pb,0,none⟩),.int .i64 0] 233 (0,0)) (fun b w'=>∃psv,Mod [] w w'∧ej w' b f (fresh n) [] 0 (.slice (some ⟨g,0,none⟩) n n) psv pb∧∀x∈bQ b pb (.slice (some ⟨g,0,none⟩) n n) psv,w.heap.size≤x) (by intro s s' h;simpa using h) rfl rfl (fun w' hw=> ?_) (fun w' hw=> ?_) (fun s w' ⟨psv,h,_⟩=>ah.of h) (fun b=> ?_)
  ·kernel_rfl
  ·obtain⟨pb',e,h1,h2,h3,h4,h5,psv,h6,h7,h8⟩:=hw;have e':pb=pb':=by simpa using e
   subst e';have ha:=(Mod.refl [] w').alloc (.cells #[.int .i64 f,.slice (some ⟨g,0,none⟩) n n,.pointer (some ⟨pb,0,none⟩),.int .i64 0] 233 (0,0));have hpl:=aL h6.aQ;have hsl:=h2.lt;have hpv:=h6.row.lt;refine⟨psv,h1.alloc _,⟨an _ _,by rw[iC];exact aG h2 ha (by simp),h6.mod ha (by simp),by omega,⟨fun e=>by have:=(hsl _ e).2;omega,h5⟩,⟨fun e=>by have:=(hpv _ e).2;omega,h8⟩⟩,fun x hx=> ?_⟩;simp only[bQ,List.mem_cons,List.mem_append,Option.mem_toList]at hx;rcases hx with rfl|rfl|hx|hx
   ·exact h1.size
   ·exact h4
   ·exact h3 x hx
   ·exact h7 x hx
  refine sq 1 ?_;refine au ?_;rintro w5 ⟨psv,hm5,hG,hfo⟩;clear hM hNw;go_wp2_with fail;go_loopw [29] (fun i wr=>∃k:Nat,k≤n∧i=.int .i64 k∧∃psv,Mod [] w wr∧ej wr b f (fresh n) (cV k) 0 (.slice (some ⟨g,0,none⟩) n n) psv pb∧∀x∈bQ b pb (.slice (some ⟨g,0,none⟩) n n) psv,w.heap.size≤x) (fun i _=>n-(intOf i).toNat)
  case atStart=>exact⟨0,by omega,rfl,psv,hm5,hG,hfo⟩
  case round=>
   obtain⟨k,hk,rfl,psv2,hm6,hG6,hfo6⟩:=hrel;clear hG hm5 hfo;have hcb:=ae hG6.aQ;by_cases hlt:k<n
   ·go_wp2_with fail;refine(sR k pb psv2 _ _ hG6.lg (by simp[lp];omega)).mono ?_;intro e w7 hpost;have hpost2:oC 275 3 (.tuple #[]) pb psv2 ((cV (k+1)).map (.int .i64)) wr e w7:=by rw[n5,List.map_append];exact hpost
    obtain⟨psv3,rfl,hm7,hG7,hfo7⟩:=hG6.y6 hpost2;have hm8:=hm6.then hm7 (fun x hx=>.inr (hfo6 x (pK x hx)));have hfo8:∀x∈bQ b pb (.slice (some ⟨g,0,none⟩) n n) psv3,w.heap.size≤x:=fun x hx=>by
     simp only[bQ,List.mem_cons,List.mem_append,Option.mem_toList]at hx;rcases hx with rfl|rfl|hx|hx
     ·exact hfo6 x (by simp[bQ])
     ·exact hfo6 x (by simp[bQ])
     ·exact hfo6 x (by simp[bQ,hx])
     ·rcases hfo7 x hx with h|h
      ·exact hfo6 x (by simp[bQ,h])
      ·exact Nat.le_trans hm6.size h
    clear hG6 hfo6 hm6 hcb hpost hpost2;go_wp2_with fail;go_roundw
    case rel=>exact⟨k+1,by omega,by go_num,psv3,hm8,hG7,hfo8⟩
    case measure=>simp[intOf];omega
   ·obtain rfl:k=n:=by omega
    go_wp2_with fail;go_ret2;exact⟨b,pb,_,psv2,rfl,hm6,hG6,hfo6⟩
 case B=>
  simp only[Nat.reduceSub,List.eraseIdx_cons_succ,List.eraseIdx_cons_zero];refine cD 129 _ (fun u=>∃pb,u=.pointer (some ⟨pb,0,none⟩)) (fun u w'=>∃pb,u=.pointer (some ⟨pb,0,none⟩)∧Mod [] w w'∧w.heap.size≤pb∧∃psv,gk 275 3 w' pb psv []∧∀x,psv.ownBlock=some x→w.heap.size≤x) rfl Tryz.call129 rfl rfl ⟨_,0,rfl⟩ (fun w' h=>(hNw.out w').mono fun e w'' ⟨pb,psv,he,hm,hp,hpb,hps⟩=>⟨_,he,⟨pb,rfl⟩,pb,rfl,h.ag hm,Nat.le_trans h.size hpb,psv,hp,fun x hx=>Nat.le_trans h.size (hps x hx)⟩) (fun u w' ⟨pb,_,h⟩=>ah.of h.1) (fun u hu=> ?_);obtain⟨pb,rfl⟩:=hu;simp only[Act.put,sA,sB,sC];refine cP (fun v=>∃g,v=.slice (some ⟨g,0,none⟩) n n) (fun v w'=>∃pb',Value.pointer (some ⟨pb,0,none⟩)=.pointer (some ⟨pb',0,none⟩)∧zv w v n pb' w') rfl rfl ⟨_,0,rfl⟩ (fun w' hw=> ?_) (fun v w' ⟨pb,_,h⟩=>ah.of h.1) (fun v hv=> ?_)
  ·obtain⟨pb',e,br,aP,psv,hp,hps⟩:=hw;obtain⟨w2,h1,h2,h3⟩:=hM.out w';have hpl:=aL hp.aQ;have hge:∀y,(Value.slice (some ⟨w'.heap.size,0,none⟩) n n).ownBlock=some y→w'.heap.size≤y:=fun y hy=>(h2.lt y hy).1
   refine⟨_,w2,mW rfl rfl rfl h1,⟨_,rfl⟩,pb',e,br.ag h3,aE h2 (Nat.zero_le _),fun y hy=>Nat.le_trans br.size (hge y hy),aP,fun e=>by have:=hge _ e;omega,psv,hp.mod h3 (by simp),hps,fun x hx e=>by have:=hge x hx;have:=(hp.row.lt x e).2;omega⟩
  simp only[Act.put,sA,sB,sC];obtain⟨g,rfl⟩:=hv;refine sq 1 ?_;refine aO (fun b=>.pointer (some ⟨b,0,none⟩)) (.cells #[.int .i64 f,.slice (some ⟨g,0,none⟩) n n,.pointer (some ⟨pb,0,none⟩),.int .i64 0] 233 (0,0)) (fun b w'=>∃psv,Mod [] w w'∧ej w' b f (fresh n) [] 0 (.slice (some ⟨g,0,none⟩) n n) psv pb∧∀x∈bQ b pb (.slice (some ⟨g,0,none⟩) n n) psv,w.heap.size≤x) (by intro s s' h;simpa using h) rfl rfl (fun w' hw=> ?_) (fun w' hw=> ?_) (fun s w' ⟨psv,h,_⟩=>ah.of h) (fun b=> ?_)
  ·kernel_rfl
  ·obtain⟨pb',e,h1,h2,h3,h4,h5,psv,h6,h7,h8⟩:=hw;have e':pb=pb':=by simpa using e
   subst e';have ha:=(Mod.refl [] w').alloc (.cells #[.int .i64 f,.slice (some ⟨g,0,none⟩) n n,.pointer (some ⟨pb,0,none⟩),.int .i64 0] 233 (0,0));have hpl:=aL h6.aQ;have hsl:=h2.lt;have hpv:=h6.row.lt;refine⟨psv,h1.alloc _,⟨an _ _,by rw[iC];exact aG h2 ha (by simp),h6.mod ha (by simp),by omega,⟨fun e=>by have:=(hsl _ e).2;omega,h5⟩,⟨fun e=>by have:=(hpv _ e).2;omega,h8⟩⟩,fun x hx=> ?_⟩;simp only[bQ,List.mem_cons,List.mem_append,Option.mem_toList]at hx;rcases hx with rfl|rfl|hx|hx
   ·exact h1.size
   ·exact h4
   ·exact h3 x hx
   ·exact h7 x hx
  refine sq 1 ?_;refine au ?_;rintro w5 ⟨psv,hm5,hG,hfo⟩;clear hM hNw;go_wp2_with fail;go_loopw [29] (fun i wr=>∃k:Nat,k≤n∧i=.int .i64 k∧∃psv,Mod [] w wr∧ej wr b f (fresh n) (cV k) 0 (.slice (some ⟨g,0,none⟩) n n) psv pb∧∀x∈bQ b pb (.slice (some ⟨g,0,none⟩) n n) psv,w.heap.size≤x) (fun i _=>n-(intOf i).toNat)
  case atStart=>exact⟨0,by omega,rfl,psv,hm5,hG,hfo⟩
  case round=>
   obtain⟨k,hk,rfl,psv2,hm6,hG6,hfo6⟩:=hrel;clear hG hm5 hfo;have hcb:=ae hG6.aQ;by_cases hlt:k<n
   ·go_wp2_with fail;refine(sR k pb psv2 _ _ hG6.lg (by simp[lp];omega)).mono ?_;intro e w7 hpost;have hpost2:oC 275 3 (.tuple #[]) pb psv2 ((cV (k+1)).map (.int .i64)) wr e w7:=by rw[n5,List.map_append];exact hpost
    obtain⟨psv3,rfl,hm7,hG7,hfo7⟩:=hG6.y6 hpost2;have hm8:=hm6.then hm7 (fun x hx=>.inr (hfo6 x (pK x hx)));have hfo8:∀x∈bQ b pb (.slice (some ⟨g,0,none⟩) n n) psv3,w.heap.size≤x:=fun x hx=>by
     simp only[bQ,List.mem_cons,List.mem_append,Option.mem_toList]at hx;rcases hx with rfl|rfl|hx|hx
     ·exact hfo6 x (by simp[bQ])
     ·exact hfo6 x (by simp[bQ])
     ·exact hfo6 x (by simp[bQ,hx])
     ·rcases hfo7 x hx with h|h
      ·exact hfo6 x (by simp[bQ,h])
      ·exact Nat.le_trans hm6.size h
    clear hG6 hfo6 hm6 hcb hpost hpost2;go_wp2_with fail;go_roundw
    case rel=>exact⟨k+1,by omega,by go_num,psv3,hm8,hG7,hfo8⟩
    case measure=>simp[intOf];omega
   ·obtain rfl:k=n:=by omega
    go_wp2_with fail;go_ret2;exact⟨b,pb,_,psv2,rfl,hm6,hG6,hfo6⟩
end Go.Proofs.YtdehaommhbjakaaGreat.Tb
namespace Go.Proofs.YtdehaommhbjakaaGreat.Tb
open RowKit Stg
attribute [local go_sem] Oper.semAt_some
def ik (w:World) (v:Value) (xs:List Int):Prop:=
 (v=.slice none 0 0∧xs=[])∨∃sb so cap,v=.slice (some ⟨sb,so,none⟩) xs.length cap∧sb<w.heap.size∧xs.length≤1000000∧
  ∀i (h:i<xs.length),w.cell? ⟨sb,so+i,none⟩=some (.int .i64 xs[i])
theorem ik.len {w0:World} {v:Value} {xs:List Int} (h:ik w0 v xs) (ty:TypeId) (w:World):(Builtin.len_ #[28] ty #[v]).run Tryz.prog w=.ok (.int .i64 xs.length) w:=by
 rcases h with⟨rfl,rfl⟩|⟨sb,so,cap,rfl,_⟩<;>simp[Builtin.len_,run_underlying Tryz.underlying28,goInt]
theorem ik.mod {S:List Nat} {w w':World} {v:Value} {xs:List Int} (h:ik w v xs) (hm:Mod S w w') (hS:∀x,v.ownBlock=some x→x∉S):ik w' v xs:=by
 rcases h with h|⟨sb,so,cap,rfl,h2,h3,h4⟩
 ·exact .inl h
 ·exact .inr ⟨sb,so,cap,rfl,hm.lt h2,h3,fun i hi=>(bg hm h2 (hS sb rfl)).trans (h4 i hi)⟩
theorem ik.small {w:World} {v:Value} {xs:List Int} (h:ik w v xs):xs.length≤1000000:=by
 rcases h with⟨_,rfl⟩|⟨_,_,_,_,_,h,_⟩
 ·simp
 ·exact h
theorem qU {F:Fence} {n':Nat} {P:Program} (w:World) {ops:Array Oper} {rest:List Oper} {o:Oper} {a:Act} {Q:Exit→Act→World→Prop} (hgd:o.guard=none) (s x:Operand) (t:TypeId)
  (ho:o.op=Op.call {callee:=Callee.builtin Builtin.append,args:=#[s,x],argTypes:=#[t,t]})
  (base:Nat) (e:TypeId) (i:TypeInfo) (z:Value) (size bytes:Nat) (ht:P.underlying t=some (.slice e)) (hi:P.info? e=some i) (hz:i.zero=some z)
  (hsize:i.size=size) (hby:i.bytes=bytes) (hzs:z.cells.size=size) (hsz:0<size)
  (v:Value) (n:Nat) (xs:List Value) (hs:a.eval s=v) (hown:w.ownsRow base e size v n xs)
  (ad:Addr) (m c:Nat) (news:List Value) (hx:a.eval x=.slice (some ad) m c) (hl:news.length=m*size) (hnews:∀j u,news[j]? =some u→w.cell? (ad.add j)=some u) (h1:∀u∈news,u.oneCell'=true)
  (h63:n+m≤maxLen) (hbytes:(n+m)*bytes≤140737488355328) (hb:base≤w.heap.size)
  (h:∀v' w',w'.ownsRow base e size v' (n+m) (xs++news)→w.grownBy w' v.ownBlock→(∀x,v'.ownBlock=some x→v.ownBlock=some x∨w.heap.size≤x)→wpListIn F n' P ops Q rest (a.put o.dst v') w'):wpListIn F n' P ops Q (o::rest) a w:=by
 refine wpListIn_plain hgd fun K hK'=> ?_
 obtain⟨v',w',hrun,h2,h3,h4⟩:=gG (P:=P) w t o.type e i z size bytes ht hi hz hsize hby hzs hsz v n xs (aE hown (Nat.zero_le _)) ad m c news hl hnews h1 h63 hbytes;have h2':w'.ownsRow base e size v' (n+m) (xs++news):=cy h2 fun g hg=>by
  rcases h4 g hg with h|h
  ·exact(hown.lt g h).1
  ·omega
 unfold Oper.wpIn;refine⟨?_,?_⟩
 ·simp[Oper.about,ho,resolve,Target.leads,Sem.run_pure]
 ·rw[Oper.semAt_plain F _ _ (by rw[ho];intro c hc';cases hc')];simp[execOp,ho,resolve,invoke,builtin,hs,hx,hrun,Result.andThen];exact hK' _ _ (h v' w' h2' h3 h4)
theorem zZ (W:World) {l k:Nat} (o':Obj) (h:k≠l):(W.putObj l o').heap[k]? =W.heap[k]? :=by
 show(W.heap.setIfInBounds l o')[k]? =_;rw[Array.getElem?_setIfInBounds_ne (Ne.symm h)]
def tE (h:Nat) (W:World) (k:Nat):Prop:=∀v,W.cell? ⟨h,0,none⟩=some v→v.ownBlock≠some k
theorem Bz {h B:Nat} (hB:h<B):∀(W:World) (l:Nat) (o':Obj) k,B≤l→tE h W k→tE h (W.putObj l o') k:=by
 intro W l o' k hl ha v hv;refine ha v ?_;rw[←hv];exact(World.cell?_of_block (a:=⟨h,0,none⟩) (zZ W o' (by show h≠l;omega))).symm
theorem Af (B b:Nat) (sv:Value) (xs:List Int) (w:World) (bN:w.heap[B]? =some (.cells #[.pointer (some ⟨b,0,none⟩)] 230 (0,0))) (hp:gk 275 3 w b sv (xs.map (.int .i64))):Calls Tryz.prog 199 #[.slice none 0 0,.func (.func 200) #[] #[.pointer (some ⟨B,0,none⟩)]] w fun e w'=>∃v,e=.returned v∧Mod [] w w'∧ik w' v xs:=by
 obtain⟨i0,hi,hz0,hz1,hz2⟩:=info_parts mh;have hlen:=hp.len;simp only[List.length_map]at hlen;refine(callsIn_wide (n:=5)).1 ?_;refine callsIn_of_wp_marks Tryz.func199 rfl trivial ?_ rfl;simp only[Tryz.ntmps199,List.size_toArray,List.length_cons,List.length_nil,Nat.reduceAdd,Nat.reduceSub,Array.replicate_succ,Array.replicate_zero,List.push_toArray,List.append_toArray,List.nil_append,List.cons_append];gi_wp2_with fail;have hBlt:=aL bN;have bO0:=Boxed.new w 28 (.slice none 0 0);have bN:=aI (o:=.cells #[.slice none 0 0] 28) bN;have hB0:RowKit.Below w.heap.size w (w.alloc (.cells #[.slice none 0 0] 28)):=(RowKit.Below.refl _ w).alloc (Nat.le_refl _) _;have hp0:=hp.mod (Mod.lB hB0) (by simp);have hsz:(w.alloc (.cells #[.slice none 0 0] 28)).heap.size=w.heap.size+1:=by simp
 generalize w.alloc (.cells #[.slice none 0 0] 28)=W0 at*;have hst:=Bg 4 (by omega) B W0.heap.size b (tE w.heap.size) sv xs W0 bN (by omega) hp0 (fun W W2 k h1 h2 hk v hv=>by
  have e1:W2.cell? ⟨w.heap.size,0,none⟩=some (.slice none 0 0):=by
   rw[World.cell?_of_block (a:=⟨w.heap.size,0,none⟩) (h2.block _ (Nat.lt_of_lt_of_le (by show w.heap.size<W0.heap.size;omega) h1.size)),World.cell?_of_block (a:=⟨w.heap.size,0,none⟩) (h1.block _ (by show w.heap.size<W0.heap.size;omega))];exact bO0.cell
  rw[e1]at hv;cases hv;simp[Value.ownBlock])
 refine wpIn_rangeFunc_ownG rfl (by omega) (gf:=200) (lb:=#[.pointer (some ⟨B,0,none⟩)]) rfl trivial (enters_of Tryz.func200 (by kernel_rfl) rfl) hst FH
  (Fl (Bz (by omega))) (RowKit.Below.refl _ _) (fun _=>rfl)
  (fun(pre:List Int) W=>(∃v,Boxed W w.heap.size 28 v∧W.ownsRow w.heap.size 3 1 v pre.length (pre.map (Value.int .i64))∧True)∧RowKit.Below w.heap.size w W) (fun _ _ _=>False)
  (OwnFrom.and (Own.from (holdsRow_own w.heap.size w.heap.size 28 3 1 (fun(pre:List Int)=>pre.length) (fun(pre:List Int)=>pre.map (Value.int .i64)) (fun _ _=>True)) _) (ownFrom_below (Nat.le_refl _) (by omega))) (fun _ _ _ _ _ hs _ _=>hs)
  ⟨⟨_,bO0,World.ownsRow_nil _ _ _ _,trivial⟩,hB0⟩ ?a1 ?assign ?body ?done ?stop
 case assign=>
  intro l x W K hK;gi_wp2;exact hK
 case body=>
  rintro l pre x W ⟨⟨v,hv,hrow, -⟩,hB⟩ hlt;have hc:=hv.cell;clear hst hp0 bO0 bN hB0 hp
  gi_wp2_with (gi_at_builtin;refine qU _ rfl _ _ 28 rfl w.heap.size 3 i0 (.int .i64 0) 1 8 Tryz.underlying28 hi hz0 hz1 hz2 rfl (by decide) _ _ _ rfl (hrow.alloc _) ⟨W.heap.size,0,none⟩ 1 1 [.int .i64 x] rfl rfl (cell_one_new _ _ _) (by simp[Value.oneCell']) (by unfold maxLen;omega) (by omega) (by have:=hB.size;simp;omega) ?_;intro v' w1 hown' hgrow hfr;obtain⟨g',cap',rfl⟩:=ownsRow_succ hown';obtain⟨hv1,hv2,hr2,hk2,hb2⟩:=hv.appended (by decide) hrow hB.size (Nat.le_refl _) hown' hgrow;have hc1:=hv1.cell;have hf1:=hv1.frozen)
  refine⟨hk2.from _,⟨hk2.size,fun k cs T fr hk ha hck=>⟨?_,fun u hu=> ?_⟩⟩,⟨_,hv2,by simpa using hr2,trivial⟩,hB.trans hb2⟩
  ·have hlt:=aL hck;have hne:k≠w.heap.size:=by omega
   have h1:=(hgrow.block k (by simp;omega) (fun e=>ha v hc e.symm)).trans (aI hck);exact dI h1 hne
  ·rw[hv2.cell]at hu;cases hu;intro e;rcases hfr k e with h|h
   ·exact ha v hc h
   ·have:=aL hck;simp at h;omega
 case done=>
  rintro D ys W hD rfl ⟨⟨v,hv,hrow, -⟩,hB⟩ hK;have hc:=hv.cell
  gi_wp2_with fail
  refine⟨by simp,.inl ⟨_,_,rfl,run_takeDeferred hK,?_⟩⟩;have hK':=ownsRow_putObj hrow (.deferred none) hK rfl;have hB':=hB.trans (belowK_b (w:=w) (Nat.le_refl _) W D _ (.deferred none) (by omega) hK rfl rfl);generalize W.putObj D (.deferred none)=W2 at*;refine⟨_,results_tmp rfl _ _ _,v,rfl,Mod.lB hB',?_⟩;rcases hK'.2 with⟨rfl,h2⟩|⟨g,cap,cur,rfl,h2,h3,h4,h5,h6,h7⟩
  ·exact .inl ⟨rfl,List.eq_nil_of_length_eq_zero h2⟩
  ·refine .inr ⟨g,0,cap,rfl,aL h3,hlen,fun i hi=> ?_⟩;have hcc:=hK'.cellAt i (by omega);rw[List.getElem?_map,List.getElem?_eq_getElem hi]at hcc;rw[Nat.zero_add];exact hcc
 case stop=>
  rintro D c pre W _ _ h _;exact h.elim
theorem BC (B b:Nat) (sv:Value) (xs:List Int) (w:World) (bN:w.heap[B]? =some (.cells #[.pointer (some ⟨b,0,none⟩)] 230 (0,0))) (hp:gk 275 3 w b sv (xs.map (.int .i64))):Calls Tryz.prog 189 #[.func (.func 200) #[] #[.pointer (some ⟨B,0,none⟩)]] w fun e w'=>∃v,e=.returned v∧Mod [] w w'∧ik w' v xs:=by
 have hA:=zh (Af B b sv xs w bN hp);clear hp bN;go_enter Tryz.func189,Tryz.ntmps189;go_wp2_with fail;refine hA.out.mono ?_;rintro e w1 ⟨v,rfl,hm,hi⟩;obtain⟨a,n,c,rfl⟩:∃a n c,v=.slice a n c:=by
  rcases hi with⟨rfl,_⟩|⟨_,_,_,rfl,_⟩
  ·exact⟨_,_,_,rfl⟩
  ·exact⟨_,_,_,rfl⟩
 go_wp2_with fail;go_ret;exact⟨_,rfl,hm,hi⟩
theorem Fm {w:World} {b pb:Nat} {first ret:Int} {S:List Slot} {F:List Int} {sl psv:Value} (h:ej w b first S F ret sl psv pb):Calls Tryz.prog 176 #[.pointer (some ⟨b,0,none⟩)] w fun e w'=>∃v,e=.returned v∧Mod [] w w'∧ik w' v F:=by
 have hcb:=ae h.aQ;have hp:=zh h.lg;clear h;go_enter Tryz.func176,Tryz.ntmps176;go_wp2_with fail;refine(CF (some ⟨pb,0,none⟩) _).mono ?_;rintro e w1 ⟨rfl,rfl⟩;have bN:=an w (.cells #[.pointer (some ⟨pb,0,none⟩)] 230);have hp1:=hp.out.mod ((Mod.refl [] w).alloc (.cells #[.pointer (some ⟨pb,0,none⟩)] 230)) (by simp);have hm0:=(Mod.refl [] w).alloc (.cells #[.pointer (some ⟨pb,0,none⟩)] 230);have hC:=zh (BC w.heap.size pb psv F _ bN hp1);clear hp1 hp;go_wp2_with fail;refine hC.out.mono ?_;rintro e w2 ⟨v,rfl,hm,hi⟩;obtain⟨a,n,c,rfl⟩:∃a n c,v=.slice a n c:=by
  rcases hi with⟨rfl,_⟩|⟨_,_,_,rfl,_⟩
  ·exact⟨_,_,_,rfl⟩
  ·exact⟨_,_,_,rfl⟩
 go_wp2_with fail;go_ret;exact⟨_,rfl,hm0.ag hm,hi⟩
end Go.Proofs.YtdehaommhbjakaaGreat.Tb
