/- Joined contracts. No conditions. -/
import Derived.Test.YtgfdeiijblakfaaGreatCS
import Derived.Test.YtgfdeiijblakfaaGreatC02
import Derived.Test.YtgfdeiijblakfaaGreatC03
set_option maxHeartbeats 1000000
namespace Go.Proofs.YtgfdeiijblakfaaGreat.Tb
open Go Go.RowKit Go.Stg
abbrev Slot:=Int×Bool
def gcells (S:List Slot):List Value:=S.flatMap fun s=>[.int .i64 s.1,.bool s.2]
theorem gcells_length:∀S:List Slot,(gcells S).length=S.length*2
 | []=>rfl
 |f::r=>by
  have:=gcells_length r;simp[gcells]at this⊢;omega
theorem gcells_at:∀(S:List Slot) (i:Nat) (h:i<S.length),(gcells S)[i*2]? =some (.int .i64 S[i].1)∧(gcells S)[i*2+1]? =some (.bool S[i].2)
 | [],i,h=>by simp at h
 |f::r,0,_=>⟨rfl,rfl⟩
 |f::r,i+1,h=>by
  have e:gcells (f::r)=.int .i64 f.1:: .bool f.2::gcells r:=rfl;have h1:(i+1)*2=i*2+2:=by omega
  have h2:i*2+2+1=i*2+1+2:=by omega
  rw[e,h1,h2];exact gcells_at r i (by simpa using h)
theorem gcells_set:∀(S:List Slot) (i:Nat) (a:Int) (l:Bool),i<S.length→((gcells S).set (i*2) (.int .i64 a)).set (i*2+1) (.bool l)=gcells (S.set i (a,l))
 | [],i,_,_,h=>by simp at h
 |f::r,0,a,b,_=>rfl
 |f::r,i+1,a,b,h=>by
  have e:gcells (f::r)=.int .i64 f.1:: .bool f.2::gcells r:=rfl;have e2:gcells (f::r.set i (a,b))=.int .i64 f.1:: .bool f.2::gcells (r.set i (a,b)):=rfl;have h1:(i+1)*2=i*2+2:=by omega
  have h2:i*2+2+1=i*2+1+2:=by omega
  rw[List.set_cons_succ,e,e2,h1,h2, ←gcells_set r i a b (by simpa using h)];rfl
structure GenAt (w:World) (b:Nat) (first:Int) (S:List Slot) (F:List Int) (ret:Int) (sl psv:Value) (pb:Nat):Prop where
 blk:w.heap[b]? =some (.cells #[.int .i64 first,sl,.pointer (some ⟨pb,0,none⟩),.int .i64 ret] 155 (0,0))
 row:w.ownsRow 0 231 2 sl S.length (gcells S)
 pool:PoolAt 200 3 w pb psv (F.map (.int .i64))
 n1:b≠pb
 n2:sl.ownBlock≠some b∧sl.ownBlock≠some pb
 n3:psv.ownBlock≠some b∧∀x,sl.ownBlock=some x→psv.ownBlock≠some x
def gfoot (b pb:Nat) (sl psv:Value):List Nat:=b::pb::(sl.ownBlock.toList++psv.ownBlock.toList)
theorem GenAt.mod {w w':World} {b pb:Nat} {first ret:Int} {S:List Slot} {F:List Int} {sl psv:Value} {T:List Nat} (h:GenAt w b first S F ret sl psv pb) (hm:Mod T w w') (hT:∀x∈gfoot b pb sl psv,x∉T):GenAt w' b first S F ret sl psv pb:=
 ⟨hm.at h.blk (hT b (by simp[gfoot])),row_mod h.row hm (fun g hg=>hT g (by simp[gfoot,hg])),h.pool.mod hm (fun x hx=>hT x (by
  rcases List.mem_cons.1 hx with rfl|hx
  ·simp[gfoot]
  ·simp only[gfoot,List.mem_cons,List.mem_append];exact .inr (.inr (.inr hx)))),h.n1,h.n2,h.n3⟩
section
variable {w:World} {b pb:Nat} {first ret:Int} {S:List Slot} {F:List Int} {sl psv:Value} (h:GenAt w b first S F ret sl psv pb)
include h
theorem size_ok:Calls Tryz.prog 140 #[.pointer (some ⟨b,0,none⟩)] w fun e w'=>e=.returned (.int .i64 S.length)∧Mod [] w w':=by
 have hcb:=cells_of h.blk;have hln:=fun ty w=>row_len (ty:=ty) Tryz.underlying151 h.row w
 clear h;go_enter Tryz.func140,Tryz.ntmps140;go_wp2;go_ret;exact⟨rfl,Mod.refl _ _⟩
def liveV (S:List Slot) (k:Int):Value:=.tuple #[.int .i64 (if 0≤k then(match S[k.toNat]? with|some (g,true)=>g|_=>0)else 0),.bool (if 0≤k then(match S[k.toNat]? with|some (_,true)=>true|_=>false)else false)]
theorem live_ok (k:Int):Calls Tryz.prog 141 #[.pointer (some ⟨b,0,none⟩),.int .i64 k] w fun e w'=>e=.returned (liveV S k)∧Mod [] w w':=by
 have hS:=Lib.hid (size_ok h);by_cases hk:k<0
 ·have hV:liveV S k=.tuple #[.int .i64 0,.bool false]:=by unfold liveV;rw[if_neg (by omega),if_neg (by omega)]
  rw[hV];clear h hV;go_enter Tryz.func141,Tryz.ntmps141;go_wp2_with fail;go_ret2;exact⟨rfl,Mod.refl _ _⟩
 ·by_cases hn:k<S.length
  ·obtain⟨j,rfl⟩:=Int.eq_ofNat_of_zero_le (show 0≤k by omega);have hj:j<S.length:=by omega
   have hrow:=h.row;obtain⟨g,cap,rfl,_,hg⟩:=row_pos hrow (by omega);have e1:=(hrow.cellAt (j*2) (by omega)).trans (gcells_at S j hj).1;have e2:=(hrow.cellAt (j*2+1) (by omega)).trans (gcells_at S j hj).2;have hblk:=h.blk;have hV:liveV S j=.tuple #[.int .i64 (if S[j].2 then S[j].1 else 0),.bool S[j].2]:=by
    unfold liveV;simp only[if_pos (show(0:Int)≤j by omega),Int.toNat_natCast,List.getElem?_eq_getElem hj];obtain⟨x,y⟩:=S[j];cases y<;>rfl
   rw[hV];clear h hV;generalize S[j]=s at*;obtain⟨ge,lv⟩:=s;simp only at e1 e2;go_enter Tryz.func141,Tryz.ntmps141;go_wp2_with fail;refine hS.out.mono ?_;rintro e w1 ⟨rfl,hm1⟩;have hcb:=cells_of (hm1.at hblk (by simp));have c1:=(cell_mod hm1 hg (by simp)).trans e1;have c2:=(cell_mod hm1 hg (by simp)).trans e2;clear e1 e2 hrow hS
   cases lv with
   |true=>
    go_wp2_with fail;go_ret2;exact⟨rfl,hm1⟩
   |false=>
    go_wp2_with fail;go_ret2;exact⟨rfl,hm1⟩
  ·have hV:liveV S k=.tuple #[.int .i64 0,.bool false]:=by
    unfold liveV;rw[List.getElem?_eq_none (by omega)];split<;>rfl
   rw[hV];clear h hV;go_enter Tryz.func141,Tryz.ntmps141;go_wp2_with fail;refine hS.out.mono ?_;rintro e w1 ⟨rfl,hm1⟩;go_wp2_with fail;go_ret2;exact⟨rfl,hm1⟩
end
end Go.Proofs.YtgfdeiijblakfaaGreat.Tb
namespace Go.Proofs.YtgfdeiijblakfaaGreat.Tb
open Go Go.RowKit Go.Stg
def GenPost (v:Value) (b:Nat) (first:Int) (S':List Slot) (F':List Int) (ret':Int) (sl psv:Value) (pb:Nat) (w:World) (e:Ending) (w':World):Prop:=
 ∃psv',e=.returned v∧Mod (gfoot b pb sl psv) w w'∧GenAt w' b first S' F' ret' sl psv' pb∧∀x,psv'.ownBlock=some x→psv.ownBlock=some x∨w.heap.size≤x
theorem gfoot_pool {b pb:Nat} {sl psv:Value}:∀x∈pb::psv.ownBlock.toList,x∈gfoot b pb sl psv:=fun x hx=>by
 rcases List.mem_cons.1 hx with rfl|hx
 ·simp[gfoot]
 ·simp only[gfoot,List.mem_cons,List.mem_append];exact .inr (.inr (.inr hx))
section
variable {w:World} {b pb:Nat} {first ret:Int} {S:List Slot} {F:List Int} {sl psv:Value} (h:GenAt w b first S F ret sl psv pb)
include h
theorem issue_none (hF:F=[]) (d:Int):Calls Tryz.prog 128 #[.pointer (some ⟨b,0,none⟩),.int .u64 d] w fun e w'=>e=.returned (.tuple #[.int .i64 0,.int .i64 0,.int .i64 17])∧Mod [] w w':=by
 subst hF;have hcb:=cells_of h.blk;have hT:=Lib.hid (TakeI_none d pb psv w h.pool);clear h;go_enter Tryz.func128,Tryz.ntmps128;go_wp2_with fail;refine hT.out.mono ?_;rintro e w1 ⟨rfl,hm1⟩;go_wp2_with fail;exact bodyPost_ret (v:=.tuple #[.int .i64 0,.int .i64 0,.int .i64 17]) (by simp[results,Tryz.results128,go_sem]) rfl ⟨rfl,hm1⟩
theorem issue_some (d:Int) (hd:0≤d) (hd2:d≤18446744073709551615) (hn:0<F.length) (i:Nat) (hi:d%F.length=i) (hil:i<F.length) (j:Nat) (hj:F[i]=j) (hjl:j<S.length) (hg0:0≤S[j].1) (hg1:S[j].1<4294967295) (g':Int) (hg':(S[j].1=0∧g'=first)∨(S[j].1≠0∧g'=S[j].1+1)):
  Calls Tryz.prog 128 #[.pointer (some ⟨b,0,none⟩),.int .u64 d] w (GenPost (.tuple #[.int .i64 j,.int .i64 g',.int .i64 0]) b first (S.set j (g',true)) (takeAt F i hn) ret sl psv pb w):=by
 have hcb:=cells_of h.blk;have hT:=Lib.hid (TakeI_some d hd hd2 pb psv F w h.pool hn i hi hil);rw[hj]at hT;have hbl:=lt_of h.blk;obtain⟨g,cap,rfl,_,hg⟩:=row_pos h.row (by omega);go_enter Tryz.func128,Tryz.ntmps128;go_wp2_with fail;refine hT.out.mono ?_;rintro e w1 ⟨psv',rfl,hm1,hp1,hs1⟩;have hbn:b∉pb::psv.ownBlock.toList:=fun hx=>by
  rcases List.mem_cons.1 hx with e|hx
  ·exact h.n1 e
  ·exact h.n3.1 (by simpa using hx)
 have hgn:g∉pb::psv.ownBlock.toList:=fun hx=>by
  rcases List.mem_cons.1 hx with e|hx
  ·exact h.n2.2 (by rw[←e];rfl)
  ·exact h.n3.2 g rfl (by simpa using hx)
 have b1:=hm1.at h.blk hbn;have r1:=row_mod h.row hm1 (fun x hx=>by have hx':some g=some x:=hx;obtain rfl:=Option.some.inj hx';exact hgn);have c1:=(r1.cellAt (j*2) (by omega)).trans (gcells_at S j hjl).1;have c2:=(r1.cellAt (j*2+1) (by omega)).trans (gcells_at S j hjl).2;have f1:=r1.frozenAt (j*2);have f2:=r1.frozenAt (j*2+1);have hcb1:=cells_of b1;clear hcb hT;obtain⟨n1,n2,n3⟩:=(⟨h.n1,h.n2,h.n3⟩:_∧_∧_);clear h;have hgb:g≠b:=fun e=>n2.1 (by rw[e];rfl)
 have hps:∀x,psv'.ownBlock=some x→x≠b∧x≠g:=fun x hx=>by
  rcases hs1 x hx with h|h
  ·exact⟨fun e=>n3.1 (by rw[h,e]),fun e=>n3.2 g rfl (by rw[h,e])⟩
  ·exact⟨by omega,by omega⟩
 have hgl:=hm1.lt hg;have fin:∀(u:Int) (W3:World),Mod [g] w1 W3→W3.ownsRow 0 231 2 (.slice (some ⟨g,0,none⟩) S.length cap) S.length (gcells (S.set j (u,true)))→∀w4,Mod [] W3 w4→GenPost (.tuple #[.int .i64 j,.int .i64 u,.int .i64 0]) b first (S.set j (u,true)) (takeAt F i hn) ret (.slice (some ⟨g,0,none⟩) S.length cap) psv pb w (.returned (.tuple #[.int .i64 j,.int .i64 u,.int .i64 0])) w4:=by
  intro u W3 hmW hrW w4 hm4;have hm5:=hmW.nil_then hm4;refine⟨psv',rfl,(hm1.mono gfoot_pool).trans (hm5.mono (fun x hx=>by rw[List.mem_singleton.1 hx];simp[gfoot,Value.ownBlock])),⟨hm5.at b1 (by simpa using Ne.symm hgb),?_,hp1.mod hm5 (fun x hx hxg=> ?_),n1,n2,⟨fun e=>(hps b e).1 rfl,fun x hx e=> ?_⟩⟩,hs1⟩
  ·rw[List.length_set];exact row_mod hrW hm4 (by simp)
  ·rw[List.mem_singleton.1 hxg]at hx;rcases List.mem_cons.1 hx with e|hx
   ·exact n2.2 (by rw[←e];rfl)
   ·exact(hps g (by simpa using hx)).2 rfl
  ·have hx':some g=some x:=hx;obtain rfl:=Option.some.inj hx';exact(hps g e).2 rfl
 have finH:=Lib.hid fin;clear fin;rcases hg' with⟨hz,rfl⟩|⟨hz,rfl⟩
 ·rw[hz]at c1;clear hg0 hg1 hz;have b2:=at_setCell_other (a:=⟨g,j*2,none⟩) (v:=.int .i64 1) b1 (Ne.symm hgb);have hcb2:=cells_of b2;have r3:=(((r1.stored (j*2) (.int .i64 1)).1.stored (j*2) (.int .i64 g')).1.stored (j*2+1) (.bool true)).1;rw[List.set_set,gcells_set S j g' true hjl]at r3;have hmW:=(((Mod.refl [g] w1).setCell (p:=⟨g,j*2,none⟩) (.inl (by simp)) (.int .i64 1)).setCell (p:=⟨g,j*2,none⟩) (.inl (by simp)) (.int .i64 g')).setCell (p:=⟨g,j*2+1,none⟩) (.inl (by simp)) (.bool true);have hfin:=Lib.hid (finH.out g' _ hmW r3);have c3:=(r3.cellAt (j*2) (by omega)).trans (gcells_at (S.set j (g',true)) j (by simpa using hjl)).1;simp only[List.getElem_set_self]at c3;go_wp2_with fail;have hglW:=hmW.lt hgl;clear r3 hmW;generalize((w1.setCell ⟨g,j*2,none⟩ (.int .i64 1)).setCell ⟨g,j*2,none⟩ (.int .i64 g')).setCell ⟨g,j*2+1,none⟩ (.bool true)=W3 at*;have k1:=GW.cell1 (S:=[]) c3 hglW (by simp);refine wp_region_pure (by kernel_rfl) (by kernel_rfl) ?_;refine stage_quiet 8 (by kernel_rfl) ?_;simp only[tA,tB,tC,tD];(repeat go_big_quiet_step (fail));refine wpQuiet_nil ?_;refine stage_nil fun w4 hm4=> ?_
  go_wp2_with fail;exact bodyPost_ret (v:=.tuple #[.int .i64 j,.int .i64 g',.int .i64 0]) (by simp[results,Tryz.results128,go_sem]) rfl (hfin.out w4 hm4)
 ·have r3:=((r1.stored (j*2) (.int .i64 (S[j].1+1))).1.stored (j*2+1) (.bool true)).1;rw[gcells_set S j _ true hjl]at r3;have hmW:=((Mod.refl [g] w1).setCell (p:=⟨g,j*2,none⟩) (.inl (by simp)) (.int .i64 (S[j].1+1))).setCell (p:=⟨g,j*2+1,none⟩) (.inl (by simp)) (.bool true);have hfin:=Lib.hid (finH.out (S[j].1+1) _ hmW r3);have c3:=(r3.cellAt (j*2) (by omega)).trans (gcells_at (S.set j (S[j].1+1,true)) j (by simpa using hjl)).1;simp only[List.getElem_set_self]at c3;generalize S[j].1=ge at*;have hz2:(ge+1==1)=false:=by simp only[beq_eq_false_iff_ne];omega
  go_wp2_with fail;have hglW:=hmW.lt hgl;clear r3 hmW;generalize(w1.setCell ⟨g,j*2,none⟩ (.int .i64 (ge+1))).setCell ⟨g,j*2+1,none⟩ (.bool true)=W3 at*;have k1:=GW.cell1 (S:=[]) c3 hglW (by simp);refine wp_region_pure (by kernel_rfl) (by kernel_rfl) ?_;refine stage_quiet 8 (by kernel_rfl) ?_;simp only[tA,tB,tC,tD];(repeat go_big_quiet_step (fail));refine wpQuiet_nil ?_;refine stage_nil fun w4 hm4=> ?_
  go_wp2_with fail;exact bodyPost_ret (v:=.tuple #[.int .i64 j,.int .i64 (ge+1),.int .i64 0]) (by simp[results,Tryz.results128,go_sem]) rfl (hfin.out w4 hm4)
end
end Go.Proofs.YtgfdeiijblakfaaGreat.Tb
