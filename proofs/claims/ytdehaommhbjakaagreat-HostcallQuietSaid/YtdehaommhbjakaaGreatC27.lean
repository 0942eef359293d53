/- Joined contracts. No conditions. -/
import Derived.Test.YtdehaommhbjakaaGreatC25
set_option maxHeartbeats 4000000
set_option maxRecDepth 20000
namespace Go.Proofs.YtdehaommhbjakaaGreat
open RowKit Stg
open Ty (aw fF ax eL iR fD fW Src l4 ij)
theorem qV {P:Program} (w:World) {ops:Array Oper} {rest:List Oper} {o:Oper} {a:Act} {Q:Exit→Act→World→Prop} (hgd:o.guard=none) (s x:Operand) (t:TypeId)
  (ho:o.op=.call {callee:=.builtin .append,args:=#[s,x],argTypes:=#[t,t]})
  (e:TypeId) (i:TypeInfo) (z:Value) (size bytes:Nat) (ht:P.underlying t=some (.slice e)) (hi:P.info? e=some i) (hz:i.zero=some z)
  (hsize:i.size=size) (hby:i.bytes=bytes) (hzs:z.cells.size=size) (hsz:0<size)
  (v:Value) (n:Nat) (xs:List Value) (hs:a.eval s=v) (hown:w.ownsRow 0 e size v n xs)
  (u:Value) (m:Nat) (news:List Value) (hx:a.eval x=u) (hu:Src w u m news) (hl:news.length=m*size) (h1:∀u∈news,u.oneCell'=true)
  (h63:n+m≤maxLen) (hbytes:(n+m)*bytes≤140737488355328)
  (h:∀v' w',w'.ownsRow 0 e size v' (n+m) (xs++news)→w.grownBy w' v.ownBlock→(∀x,v'.ownBlock=some x→v.ownBlock=some x∨w.heap.size≤x)→wpList P ops Q rest (a.put o.dst v') w'):wpList P ops Q (o::rest) a w:=by
 refine wpList_plain hgd fun K hK=> ?_
 obtain⟨v',w',hr,h2,h3,h4⟩:=ij (P:=P) w t o.type e i z size bytes ht hi hz hsize hby hzs hsz v n xs hown u m news hu hl h1 h63 hbytes;unfold Oper.wp execOp;simp only[ho,resolve,invoke,builtin,Sem.run_bind,Sem.run_pure,Result.andThen_ok,List.map_toArray,List.map_cons,List.map_nil,hs,hx,hr];exact hK _ _ (h v' w' h2 h3 h4)
theorem zK {P:Program} (w:World) (t u ty e:TypeId) (i:TypeInfo) (z:Value) (ht:P.underlying t=some (.slice e)) (hu:P.underlying u=some (.int .i64)) (hi:P.info? e=some i) (hz:i.zero=some z) (hzs:z.cells.size=i.size)
  (n:Nat) (h0:0<n) (h63:n≤1000000) (h48:i.bytes≤1000) (hsz:0<i.size):
  ∃cur,(Builtin.append_ #[t,u] ty #[.slice none 0 0,.int .i64 n]).run P w=.ok (.slice (some ⟨w.heap.size,0,none⟩) n (grownCap w n 0 e)) (w.drew.alloc (.cells cur e))∧cur.size=grownCap w n 0 e*i.size:=by
 have hn:n≠0:=by omega
 have hw:IntKind.i64.wrap (n:Int)=n:=IntWalk.i64_in (n:Int) (by omega);have hz0:¬((n:Int)<0):=by omega
 have hb:n*i.bytes≤1000000*1000:=Nat.mul_le_mul h63 h48;have hb1:¬(281474976710656<(n:Int)*i.bytes):=by
  have:((n*i.bytes:Nat):Int)=(n:Int)*i.bytes:=by simp
  omega
 have h63':¬(9223372036854775807<(n:Int)):=by omega
 have h48':¬(281474976710656<Builtin.nextslicecap n 0*i.bytes):=by rw[nextslicecap_zero h0];omega
 have hns:¬(n*i.size=0):=by have:=Nat.mul_pos h0 hsz;omega
 refine⟨Builtin.zeroCells z.cells n++Builtin.zeroCells z.cells (grownCap w n 0 e-n),?_,?_⟩
 ·simp[Builtin.append_,run_underlying ht,run_underlying hu,sizeOf,typeInfo,zeroValue,hi,hz,asInt,asIntOf,hw,hn,hz0,hb1,h63',h48',Question.forced,run_firstCells_none,newRow,grownCap];exact fun h=>absurd h hns
 ·rw[Array.size_append,size_zeroCells,size_zeroCells,hzs, ←Nat.add_mul];congr 1;have:=grownCap_ge w n 0 e;omega
theorem zF {P:Program} (w:World) {ops:Array Oper} {rest:List Oper} {o:Oper} {a:Act} {Q:Exit→Act→World→Prop} (hgd:o.guard=none) (s x:Operand) (t u:TypeId)
  (ho:o.op=.call {callee:=.builtin .append,args:=#[s,x],argTypes:=#[t,u]})
  (e:TypeId) (i:TypeInfo) (z:Value) (ht:P.underlying t=some (.slice e)) (hu:P.underlying u=some (.int .i64)) (hi:P.info? e=some i) (hz:i.zero=some z) (hzs:z.cells.size=i.size)
  (n:Nat) (hs:a.eval s=.slice none 0 0) (hx:a.eval x=.int .i64 n) (h0:0<n) (h63:n≤1000000) (h48:i.bytes≤1000) (hsz:0<i.size)
  (h:∀(cap:Nat) (cur:Array Value),n≤cap→cap≤maxLen→cur.size=cap*i.size→wpList P ops Q rest (a.put o.dst (.slice (some ⟨w.heap.size,0,none⟩) n cap)) (w.drew.alloc (.cells cur e))):wpList P ops Q (o::rest) a w:=by
 refine wpList_plain hgd fun K hK=> ?_
 obtain⟨cur,hr,hc⟩:=zK (P:=P) (ty:=o.type) w t u e i z ht hu hi hz hzs n h0 h63 h48 hsz;unfold Oper.wp execOp;simp only[ho,resolve,invoke,builtin,Sem.run_bind,Sem.run_pure,Result.andThen_ok,List.map_toArray,List.map_cons,List.map_nil,hs,hx,hr];exact hK _ _ (h _ cur (grownCap_ge w n 0 e) (grownCap_le_maxLen w n 0 e (by unfold maxLen;omega)) hc)
def G8 (w:World) (e:Ending) (w':World):Prop:=∃u,e=.returned u∧w'.ownsRow w.heap.size 104 2 u 0 []∧Mod [] w w'
theorem EM (n:Nat) (h0:0<n) (h1:n≤1000000) (w:World):Calls Tryz.prog 208 #[.slice none 0 0,.int .i64 n] w (G8 w):=by
 obtain⟨i0,hi0,hz0,hz1,hz2⟩:=info_parts oy;go_enter Tryz.func208,Tryz.ntmps208;go_wp2_with (at_builtin;refine zF _ rfl _ _ 120 3 rfl 104 i0 _ Tryz.underlying120 Tryz.underlying3 hi0 hz0 (by rw[hz1];rfl) n rfl rfl h0 h1 (by omega) (by omega) ?_;intro cap cur hcap hcm hcs);rw[hz1]at hcs;have hrow:=World.ownsRow_made (base:=w.heap.size) (e:=104) (size:=2) w.drew cur cap (Nat.le_refl _) hcm hcs;go_ret;exact⟨_,rfl,hrow,(Mod.refl [] w).drew.alloc _⟩
def FK (w:World) (fs:List Ext) (e:Ending) (w':World):Prop:=∃u,e=.returned u∧w'.ownsRow w.heap.size 104 2 u fs.length (ax fs)∧Mod [] w w'
theorem rf (a b:List Ext):ax (a++b)=ax a++ax b:=by unfold ax;rw[List.flatMap_append]
def eY (f1 f2 f3:List Ext) (k:Nat):List Ext:=if k=0 then []else if k=1 then f1 else if k=2 then f1++f2 else f1++f2++f3
def kW (f1 f2 f3:List Ext) (k:Nat):Int:=if k=0 then 0 else if k=1 then f1.length else if k=2 then f1.length+f2.length else f1.length+f2.length+f3.length
theorem gI {cb:Nat} {v1 v2 v3:Value} {f1 f2 f3:List Ext} {T:TypeId} {w:World} (hb:w.heap[cb]? =some (.cells #[v1,v2,v3] T (0,0))) (h1:aw w v1 f1) (h2:aw w v2 f2) (h3:aw w v3 f3) (h0:0<f2.length) (hl1:f1.length≤100000) (hl2:f2.length≤100000) (hl3:f3.length≤100000):
  Calls Tryz.prog 203 #[.slice (some ⟨cb,0,none⟩) 3 3] w (FK w (f1++f2++f3)):=by
 obtain⟨i0,hi0,hz0,hz1,hz2⟩:=info_parts oy;obtain⟨a1,l1,c1,rfl⟩:=nX h1;obtain⟨a2,l2,c2,rfl⟩:=nX h2;obtain⟨a3,l3,c3,rfl⟩:=nX h3;have hln1:=fun ty w=>mf h1 ty w
 have hln2:=fun ty w=>mf h2 ty w
 have hln3:=fun ty w=>mf h3 ty w
 have f1H:=zh h1;have f2H:=zh h2;have f3H:=zh h3;have hbH:=zh hb;have hcb:=ae hb;clear h1 h2 h3 hb;go_enter Tryz.func203,Tryz.ntmps203;go_wp2_with fail;go_loopw [11,3] (fun i n wr=>∃k:Nat,k≤3∧i=.int .i64 k∧n=.int .i64 (kW f1 f2 f3 k)∧wr=w) (fun i _ _=>3-(intOf i).toNat)
 case atStart=>exact⟨0,by omega,rfl,rfl,rfl⟩
 case round=>
  obtain⟨k,hk,rfl,rfl,rfl⟩:=hrel;have hcase:k=0∨k=1∨k=2∨k=3:=by omega
  rcases hcase with rfl|rfl|rfl|rfl
  ·have e:kW f1 f2 f3 0=0:=rfl;rw[e];clear e;simp only[show((0:Nat):Int)=0 from rfl];go_wp2_with fail;go_roundw
   case rel=>exact⟨1,by omega,by go_num,by simp[kW],trivial⟩
   case measure=>simp[intOf]
  ·have e:kW f1 f2 f3 1=f1.length:=rfl;rw[e];clear e;simp only[show((1:Nat):Int)=1 from rfl];go_wp2_with fail;go_roundw
   case rel=>exact⟨2,by omega,by go_num,by simp[kW],trivial⟩
   case measure=>simp[intOf]
  ·have e:kW f1 f2 f3 2=f1.length+f2.length:=rfl;rw[e];clear e;simp only[show((2:Nat):Int)=2 from rfl];go_wp2_with fail;go_roundw
   case rel=>exact⟨3,by omega,by go_num,by simp[kW],trivial⟩
   case measure=>simp[intOf]
  ·have e:kW f1 f2 f3 3=((f1.length+f2.length+f3.length:Nat):Int):=by simp[kW]
   rw[e];clear e;simp only[show((3:Nat):Int)=3 from rfl];have hgr:=zh (EM (f1.length+f2.length+f3.length) (by omega) (by omega) wr);go_wp2_with fail;refine hgr.out.mono ?_;rintro e w1 ⟨u,rfl,hr1,hm1⟩;obtain⟨ua,ul,uc,rfl⟩:=cx hr1;have hr1H:=zh hr1;have hm1H:=zh hm1;clear hr1 hm1 hgr hcb;go_wp2_with fail;go_loopw [27,6] (fun i nv w2=>∃k:Nat,k≤3∧i=.int .i64 k∧Mod [] wr w2∧w2.ownsRow wr.heap.size 104 2 nv (eY f1 f2 f3 k).length (ax (eY f1 f2 f3 k))) (fun i _ _=>3-(intOf i).toNat)
   case atStart=>exact⟨0,by omega,rfl,hm1H.out,hr1H.out⟩
   case round=>
    obtain⟨k,hk,rfl,hm,hr⟩:=hrel;have hmH:=zh hm;have hrH:=zh hr;have hcb:=ae (hm.at hbH.out (by simp));obtain⟨na,nl,nc,rfl⟩:=cx hr;clear hm hr hm1H hr1H;have hcase:k=0∨k=1∨k=2∨k=3:=by omega
    rcases hcase with rfl|rfl|rfl|rfl
    ·simp only[show((0:Nat):Int)=0 from rfl];have hsrc:=zh (l4 (f1H.out.mod hmH.out));have hfl:=zh (eL f1);have hck:eY f1 f2 f3 1=eY f1 f2 f3 0++f1:=by simp[eY]
     have hckH:=zh hck;have hcl:(eY f1 f2 f3 0).length≤200000:=by simp[eY];try omega
     generalize eY f1 f2 f3 0=D at*;clear hck;go_wp2_with (at_builtin;refine qV _ rfl _ _ 120 rfl 104 i0 _ 2 16 Tryz.underlying120 hi0 hz0 hz1 hz2 rfl (by decide) _ D.length (ax D) rfl (aE hrH.out (Nat.zero_le _)) _ f1.length (ax f1) rfl hsrc.out hfl.out (fD f1) (by unfold maxLen;omega) (by omega) ?_;intro v' w2 hown hgrow hfr;obtain⟨xa,xl,xc,rfl⟩:=cx hown;have hownH:=zh hown;have hgrowH:=zh hgrow;have hfrH:=zh hfr;clear hown hgrow hfr);go_roundw
     case rel=>
      refine⟨1,by omega,by go_num,hmH.out.grown hgrowH.out (fun y hy=>.inr (hrH.out.lt y hy).1),?_⟩;rw[hckH.out,rf,List.length_append];refine cy hownH.out fun y hy=> ?_
      rcases hfrH.out y hy with h|h
      ·exact(hrH.out.lt y h).1
      ·have:=hmH.out.size;omega
     case measure=>simp[intOf]
    ·simp only[show((1:Nat):Int)=1 from rfl];have hsrc:=zh (l4 (f2H.out.mod hmH.out));have hfl:=zh (eL f2);have hck:eY f1 f2 f3 2=eY f1 f2 f3 1++f2:=by simp[eY]
     have hckH:=zh hck;have hcl:(eY f1 f2 f3 1).length≤200000:=by simp[eY];try omega
     generalize eY f1 f2 f3 1=D at*;clear hck;go_wp2_with (at_builtin;refine qV _ rfl _ _ 120 rfl 104 i0 _ 2 16 Tryz.underlying120 hi0 hz0 hz1 hz2 rfl (by decide) _ D.length (ax D) rfl (aE hrH.out (Nat.zero_le _)) _ f2.length (ax f2) rfl hsrc.out hfl.out (fD f2) (by unfold maxLen;omega) (by omega) ?_;intro v' w2 hown hgrow hfr;obtain⟨xa,xl,xc,rfl⟩:=cx hown;have hownH:=zh hown;have hgrowH:=zh hgrow;have hfrH:=zh hfr;clear hown hgrow hfr);go_roundw
     case rel=>
      refine⟨2,by omega,by go_num,hmH.out.grown hgrowH.out (fun y hy=>.inr (hrH.out.lt y hy).1),?_⟩;rw[hckH.out,rf,List.length_append];refine cy hownH.out fun y hy=> ?_
      rcases hfrH.out y hy with h|h
      ·exact(hrH.out.lt y h).1
      ·have:=hmH.out.size;omega
     case measure=>simp[intOf]
    ·simp only[show((2:Nat):Int)=2 from rfl];have hsrc:=zh (l4 (f3H.out.mod hmH.out));have hfl:=zh (eL f3);have hck:eY f1 f2 f3 3=eY f1 f2 f3 2++f3:=by simp[eY]
     have hckH:=zh hck;have hcl:(eY f1 f2 f3 2).length≤200000:=by simp[eY];try omega
     generalize eY f1 f2 f3 2=D at*;clear hck;go_wp2_with (at_builtin;refine qV _ rfl _ _ 120 rfl 104 i0 _ 2 16 Tryz.underlying120 hi0 hz0 hz1 hz2 rfl (by decide) _ D.length (ax D) rfl (aE hrH.out (Nat.zero_le _)) _ f3.length (ax f3) rfl hsrc.out hfl.out (fD f3) (by unfold maxLen;omega) (by omega) ?_;intro v' w2 hown hgrow hfr;obtain⟨xa,xl,xc,rfl⟩:=cx hown;have hownH:=zh hown;have hgrowH:=zh hgrow;have hfrH:=zh hfr;clear hown hgrow hfr);go_roundw
     case rel=>
      refine⟨3,by omega,by go_num,hmH.out.grown hgrowH.out (fun y hy=>.inr (hrH.out.lt y hy).1),?_⟩;rw[hckH.out,rf,List.length_append];refine cy hownH.out fun y hy=> ?_
      rcases hfrH.out y hy with h|h
      ·exact(hrH.out.lt y h).1
      ·have:=hmH.out.size;omega
     case measure=>simp[intOf]
    ·simp only[show((3:Nat):Int)=3 from rfl];go_wp2_with fail;go_ret;exact⟨_,rfl,hrH.out,hmH.out⟩
end Go.Proofs.YtdehaommhbjakaaGreat
