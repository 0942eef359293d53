/- Joined contracts. No conditions. -/
import Derived.Laws.BitsLemmas
import Derived.Laws.Bits64
import Derived.Test.YteidpgdfocjdbaaGreatCS
import Derived.Test.YteidpgdfocjdbaaGreatC01
import Derived.Test.YteidpgdfocjdbaaGreatC02
import Derived.Test.YteidpgdfocjdbaaGreatC04
namespace Go.Proofs.YteidpgdfocjdbaaGreat.Tb
open Go Go.RowKit Go.Stg
def Sl (W:World) (b pb:Nat) (sl:Value) (first:Int) (S:List Slot) (F:List Int) (ret:Int) (w:World):Prop:=
 ∃psv,Mod [] W w∧GenAt w b first S F ret sl psv pb∧∀x∈gfoot b pb sl psv,W.heap.size≤x
section
variable {W w:World} {b pb:Nat} {sl:Value} {first ret:Int} {S:List Slot} {F:List Int} (h:Sl W b pb sl first S F ret w)
include h
theorem Sl.mod:Mod [] W w:=let ⟨_,h,_⟩:=h;h
theorem Sl.then {w':World} (hm:Mod [] w w'):Sl W b pb sl first S F ret w':=by
 obtain⟨psv,h1,h2,h3⟩:=h;exact⟨psv,h1.nil_then hm,h2.mod hm (by simp),h3⟩
end
end Go.Proofs.YteidpgdfocjdbaaGreat.Tb
namespace Go.Proofs.YteidpgdfocjdbaaGreat.Tb
open Go Go.RowKit Go.Stg
theorem set_perm {α:Type} (D:List α) (z:α) (i:Nat) (hi:i<D.length):(D++[z]).Perm (D[i]::D.set i z):=by
 have h1:D=D.take i++D[i]::D.drop (i+1):=by rw[←List.drop_eq_getElem_cons hi,List.take_append_drop]
 have h2:D.set i z=D.take i++z::D.drop (i+1):=List.set_eq_take_append_cons_drop▸(by rw[if_pos hi]);rw[h2];refine List.Perm.trans (l₂:=D[i]::(D.take i++D.drop (i+1))++[z]) ?_ ?_
 ·refine List.Perm.append_right _ ?_;conv=>lhs;rw[h1]
  exact List.perm_middle
 ·refine List.Perm.cons _ ?_;refine List.Perm.trans ?_ List.perm_middle.symm;exact List.perm_append_comm
theorem takeAt_perm {α:Type} (l:List α) (i:Nat) (h:0<l.length) (hi:i<l.length):l.Perm (l[i]::takeAt l i h):=by
 have hne:l≠ []:=by intro e;simp[e]at h
 have hl:l=l.dropLast++[l[l.length-1]]:=by rw[←List.getLast_eq_getElem hne];exact(List.dropLast_concat_getLast hne).symm
 have hll:l.dropLast.length=l.length-1:=List.length_dropLast;unfold takeAt;generalize l.dropLast=D at*;generalize l[l.length-1]=z at*;subst hl;by_cases hlast:i=D.length
 ·subst hlast;simp
 ·have hd:i<D.length:=by simp at hi;omega
  rw[List.set_append_left _ _ hd,List.dropLast_concat,List.getElem_append_left hd];exact set_perm D z i hd
def nextG (first g:Int):Int:=if g=0 then first else g+1
def slotOf (S:List Slot) (x:Int):Slot:=S.getD x.toNat (0,false)
def remG (first:Int) (S:List Slot) (x:Int):Int:=4294967295-nextG first (slotOf S x).1+1
def sumG:List Int→Int
 | []=>0
 |x::l=>x+sumG l
theorem sumG_append (l:List Int) (x:Int):sumG (l++[x])=sumG l+x:=by
 induction l with
 |nil=>simp[sumG]
 |cons y l ih=>simp only[List.cons_append,sumG,ih];omega
theorem slotOf_nat (S:List Slot) (m:Nat) (h:m<S.length):slotOf S m=S[m]:=by simp[slotOf,List.getD_eq_getElem?_getD,List.getElem?_eq_getElem h]
structure RInv (n:Nat) (first:Int) (S:List Slot) (F:List Int) (ret t:Int):Prop where
 len:S.length=n
 nd:F.Nodup
 free:∀x∈F,∃m:Nat,x=m∧m<n
 dead:∀m (h:m<S.length),S[m].2=false
 gens:∀m (h:m<S.length),0≤S[m].1∧S[m].1≤4294967295
 low:∀x∈F,(slotOf S x).1<4294967295
 cnt:(F.length:Int)+ret=n
 tot:sumG (F.map (remG first S))=t
 ret0:0≤ret
theorem RInv.start (n:Nat) (first:Int):RInv n first (fresh n) (upTo n) 0 (n*(4294967295-first+1)):=by
 refine⟨fresh_length n,?_,fun x hx=> ?_,fun m h=>by simp[fresh],fun m h=>by simp[fresh],fun x hx=> ?_,by simp[upTo_length],?_,Int.le_refl 0⟩
 ·unfold upTo List.Nodup;rw[List.pairwise_map];exact List.Pairwise.imp (fun h e=>h (Int.ofNat.inj e)) List.nodup_range
 ·simp only[upTo,List.mem_map,List.mem_range]at hx;obtain⟨m,h,rfl⟩:=hx;exact⟨m,rfl,h⟩
 ·simp only[upTo,List.mem_map,List.mem_range]at hx;obtain⟨m,h,rfl⟩:=hx;show(slotOf (fresh n) (m:Int)).1<_;rw[slotOf_nat _ m (by rw[fresh_length];exact h)];simp[fresh]
 ·have hr:∀k,k≤n→sumG ((upTo k).map (remG first (fresh n)))=k*(4294967295-first+1):=by
   intro k;induction k with
   |zero=>intro _;simp[upTo,sumG]
   |succ k ih=>
    intro hk;rw[upTo_succ,List.map_append,List.map_singleton,sumG_append,ih (by omega)];have:remG first (fresh n) k=4294967295-first+1:=by
     unfold remG;rw[slotOf_nat _ k (by rw[fresh_length];omega)];simp[fresh,nextG]
    rw[this];push_cast;rw[Int.add_mul,Int.one_mul]
  exact hr n (Nat.le_refl _)
end Go.Proofs.YteidpgdfocjdbaaGreat.Tb
namespace Go.Proofs.YteidpgdfocjdbaaGreat.Tb
open Go Go.RowKit Go.Stg
structure GS where
 S:List Slot
 F:List Int
 ret:Int
def slotN (S:List Slot) (m:Nat):Slot:=S.getD m (0,false)
theorem slotN_at {S:List Slot} {m:Nat} (h:m<S.length):slotN S m=S[m]:=by simp[slotN,List.getD_eq_getElem?_getD,List.getElem?_eq_getElem h]
theorem slotN_out {S:List Slot} {m:Nat} (h:S.length≤m):slotN S m=(0,false):=by simp[slotN,List.getD_eq_getElem?_getD,List.getElem?_eq_none h]
theorem slotN_set {S:List Slot} {j:Nat} (h:j<S.length) (z:Slot) (m:Nat):slotN (S.set j z) m=if m=j then z else slotN S m:=by
 unfold slotN;simp only[List.getD_eq_getElem?_getD];by_cases e:m=j
 ·subst e;simp[h]
 ·rw[if_neg e,List.getElem?_set_ne (Ne.symm e)]
def pickI (F:List Int) (d:Int):Nat:=(d%(F.length:Int)).toNat
def pickS (F:List Int) (d:Int):Nat:=(F.getD (pickI F d) 0).toNat
def issG (first:Int) (x:GS) (d:Int):GS:=
 if h:0<x.F.length then⟨x.S.set (pickS x.F d) (nextG first (slotN x.S (pickS x.F d)).1,true),takeAt x.F (pickI x.F d) h,x.ret⟩else x
def issV (first:Int) (x:GS) (d:Int):Value:=
 if 0<x.F.length then .tuple #[.int .i64 (pickS x.F d),.int .i64 (nextG first (slotN x.S (pickS x.F d)).1),.int .i64 0]else .tuple #[.int .i64 0,.int .i64 0,.int .i64 17]
def liveN (S:List Slot) (k:Int):Bool:=decide (0≤k)&&(slotN S k.toNat).2
def endG (x:GS) (k:Int):GS:=
 if liveN x.S k then
  if(slotN x.S k.toNat).1=4294967295 then⟨x.S.set k.toNat ((slotN x.S k.toNat).1,false),x.F,x.ret+1⟩
  else⟨x.S.set k.toNat ((slotN x.S k.toNat).1,false),x.F++[k],x.ret⟩
 else x
def liveC (S:List Slot):Nat:=S.countP (·.2)
structure GInv (n:Nat) (first:Int) (x:GS):Prop where
 len:x.S.length=n
 nd:x.F.Nodup
 free:∀y∈x.F,∃m:Nat,y=m∧m<n∧(slotN x.S m).2=false∧(slotN x.S m).1<4294967295
 gens:∀m,m<n→(slotN x.S m=(0,false))∨(first≤(slotN x.S m).1∧(slotN x.S m).1≤4294967295)
 cnt:(liveC x.S:Int)+x.F.length+x.ret=n
 ret0:0≤x.ret
theorem liveC_set {S:List Slot} {j:Nat} (h:j<S.length) (z:Slot):liveC (S.set j z)+(if(slotN S j).2 then 1 else 0)=liveC S+(if z.2 then 1 else 0):=by
 unfold liveC;rw[List.countP_set h,slotN_at h];have:S[j].2=true→0<S.countP (·.2):=fun e=>List.countP_pos_iff.2 ⟨S[j],List.getElem_mem h,e⟩
 generalize S.countP (·.2)=c at*;cases hs:S[j].2<;>cases z.2<;>simp[hs]at* <;>omega
theorem GInv.start (n:Nat) (first:Int):GInv n first ⟨fresh n,upTo n,0⟩:=by
 have hr:=RInv.start n first
 have hsl:∀m,m<n→slotN (fresh n) m=(0,false):=fun m h=>by rw[slotN_at (by rw[fresh_length];exact h)];simp[fresh]
 refine⟨fresh_length n,hr.nd,fun y hy=> ?_,fun m h=>.inl (hsl m h),?_,Int.le_refl 0⟩
 ·obtain⟨m,e,h⟩:=hr.free y hy;exact⟨m,e,h,by rw[hsl m h],by show(slotN (fresh n) m).1<4294967295;rw[hsl m h];show(0:Int)<4294967295;omega⟩
 ·have:liveC (fresh n)=0:=by
   unfold liveC;rw[List.countP_eq_zero];intro a ha;simp[fresh]at ha;simp[ha]
  simp[this,upTo_length]
theorem liveV_eq (S:List Slot) (k:Int):liveV S k=.tuple #[.int .i64 (if liveN S k then(slotN S k.toNat).1 else 0),.bool (liveN S k)]:=by
 unfold liveV liveN;by_cases h0:0≤k
 ·simp only[h0,decide_true,Bool.true_and,if_true];rcases Nat.lt_or_ge k.toNat S.length with h|h
  ·rw[slotN_at h,List.getElem?_eq_getElem h];rcases hs:S[k.toNat]with⟨g,l⟩
   cases l<;>simp
  ·rw[slotN_out h,List.getElem?_eq_none h];simp
 ·simp[h0]
theorem liveN_iff {S:List Slot} {k:Int} (h:liveN S k=true):∃j:Nat,k=j∧j<S.length∧(slotN S j).2=true:=by
 unfold liveN at h;simp only[Bool.and_eq_true,decide_eq_true_eq]at h;refine⟨k.toNat,by omega,?_,h.2⟩;rcases Nat.lt_or_ge k.toNat S.length with h'|h'
 ·exact h'
 ·rw[slotN_out h']at h;simp at h
section
variable {n:Nat} {first:Int} {x:GS} (h:GInv n first x) (hf1:1≤first) (hf2:first≤4294967295)
include h hf1 hf2
theorem GInv.pick (hn:0<x.F.length) (d:Int):∃(hi:pickI x.F d<x.F.length) (hj:pickS x.F d<x.S.length),d%(x.F.length:Int)=pickI x.F d∧x.F[pickI x.F d]=(pickS x.F d:Int)∧pickS x.F d<n∧x.S[pickS x.F d].2=false∧0≤x.S[pickS x.F d].1∧x.S[pickS x.F d].1<4294967295∧(slotN x.S (pickS x.F d))=x.S[pickS x.F d]:=by
 have e1:=Int.emod_nonneg d (show(x.F.length:Int)≠0 by omega);have e2:=Int.emod_lt_of_pos d (show(0:Int)<x.F.length by omega);have hp:d%(x.F.length:Int)=pickI x.F d:=by unfold pickI;omega
 have hi:pickI x.F d<x.F.length:=by omega
 obtain⟨m,hm,hmn,hd,hl⟩:=h.free x.F[pickI x.F d] (List.getElem_mem hi);have hs:pickS x.F d=m:=by
  unfold pickS;rw[List.getD_eq_getElem?_getD,List.getElem?_eq_getElem hi];simp[hm]
 have hml:m<x.S.length:=by rw[h.len];exact hmn
 have hg:=h.gens m hmn;rw[slotN_at hml]at hd hl hg;subst hs;refine⟨hi,hml,hp,hm,hmn,hd,?_,hl,by rw[slotN_at hml]⟩;rcases hg with e|e
 ·rw[e];exact Int.le_refl 0
 ·omega
theorem GInv.issue (d:Int):GInv n first (issG first x d):=by
 unfold issG;by_cases hn:0<x.F.length
 ·rw[dif_pos hn];obtain⟨hi,hj,hp,hF,hjn,hd,hg0,hg1,hsl⟩:=h.pick hf1 hf2 hn d;generalize pickI x.F d=i at*;generalize pickS x.F d=j at*;have hpm:=takeAt_perm x.F i hn hi;rw[hF]at hpm;have hnd:=List.nodup_cons.1 (hpm.nodup_iff.1 h.nd);have hmem:∀y∈takeAt x.F i hn,y∈x.F:=fun y hy=>hpm.mem_iff.2 (List.mem_cons_of_mem _ hy)
  have hlc:=liveC_set hj (nextG first (slotN x.S j).1,true);rw[hsl,hd]at hlc;rw[hsl];have hlen:=takeAt_length x.F i hn;have hcnt:=h.cnt;refine⟨by rw[List.length_set];exact h.len,hnd.2,fun y hy=> ?_,fun m hm=> ?_,?_,h.ret0⟩
  ·obtain⟨m,e,h1,h2,h3⟩:=h.free y (hmem y hy);have:m≠j:=fun e'=>hnd.1 (by rw[←e', ←e];exact hy)
   exact⟨m,e,h1,by rw[slotN_set hj,if_neg this];exact h2,by show(slotN (x.S.set j _) m).1<_;rw[slotN_set hj,if_neg this];exact h3⟩
  ·show slotN (x.S.set j _) m=_∨_;rw[slotN_set hj];by_cases e:m=j
   ·rw[if_pos e];right;show first≤nextG _ _∧nextG _ _≤_
    have:=h.gens j hjn;rw[hsl]at this;rcases this with e|e
    ·rw[e];simp[nextG];omega
    ·unfold nextG;split<;>omega
   ·rw[if_neg e];exact h.gens m hm
  ·show(liveC (x.S.set j _):Int)+((takeAt x.F i hn).length:Int)+x.ret=n;simp at hlc;omega
 ·rw[dif_neg hn];exact h
omit hf1 hf2 in
theorem GInv.endd (k:Int):GInv n first (endG x k):=by
 unfold endG;by_cases hl:liveN x.S k=true
 ·rw[if_pos hl];obtain⟨j,rfl,hj,hd⟩:=liveN_iff hl;rw[Int.toNat_natCast];have hjn:j<n:=by rw[←h.len];exact hj
  have hg:=h.gens j hjn;have hg1:first≤(slotN x.S j).1∧(slotN x.S j).1≤4294967295:=by
   rcases hg with e|e
   ·rw[e]at hd;cases hd
   ·exact e
  have hlc:=liveC_set hj ((slotN x.S j).1,false);rw[hd]at hlc;simp at hlc;have hcnt:=h.cnt;have hret:=h.ret0;generalize(slotN x.S j).1=g at*;have hfr:∀y∈x.F,∃m:Nat,y=m∧m≠j∧m<n∧(slotN (x.S.set j (g,false)) m).2=false∧(slotN (x.S.set j (g,false)) m).1<4294967295:=fun y hy=>by
   obtain⟨m,e,h1,h2,h3⟩:=h.free y hy;have:m≠j:=fun e'=>by rw[e',hd]at h2;cases h2
   refine⟨m,e,this,h1,?_⟩;rw[slotN_set hj,if_neg this];exact⟨h2,h3⟩
  have hgens:∀m,m<n→(slotN (x.S.set j (g,false)) m=(0,false))∨(first≤(slotN (x.S.set j (g,false)) m).1∧(slotN (x.S.set j (g,false)) m).1≤4294967295):=fun m hm=>by
   rw[slotN_set hj];by_cases e:m=j
   ·rw[if_pos e];exact .inr hg1
   ·rw[if_neg e];exact h.gens m hm
  have hsl:(x.S.set j (g,false)).length=n:=by rw[List.length_set];exact h.len
  by_cases hm:g=4294967295
  ·rw[if_pos hm];exact⟨hsl,h.nd,fun y hy=>let ⟨m,e,_,h1,h2,h3⟩:=hfr y hy;⟨m,e,h1,h2,h3⟩,hgens,by show(liveC (x.S.set j (g,false)):Int)+(x.F.length:Int)+(x.ret+1)=n;omega,by show 0≤x.ret+1;omega⟩
  ·rw[if_neg hm];refine⟨hsl,?_,fun y hy=> ?_,hgens,by show(liveC (x.S.set j (g,false)):Int)+((x.F++[(j:Int)]).length:Int)+x.ret=n;simp;omega,hret⟩
   ·show(x.F++[(j:Int)]).Nodup;rw[List.nodup_append];refine⟨h.nd,by simp,fun y hy z hz e=> ?_⟩;rw[List.mem_singleton.1 hz]at e;obtain⟨m,e1,e2,_⟩:=hfr y hy;omega
   ·rcases List.mem_append.1 hy with hy|hy
    ·obtain⟨m,e,_,h1,h2,h3⟩:=hfr y hy;exact⟨m,e,h1,h2,h3⟩
    ·refine⟨j,List.mem_singleton.1 hy,hjn,?_⟩;show(slotN (x.S.set j (g,false)) j).2=false∧(slotN (x.S.set j (g,false)) j).1<4294967295;rw[slotN_set hj,if_pos rfl];exact⟨rfl,by show g<_;omega⟩
 ·rw[if_neg hl];exact h
end
end Go.Proofs.YteidpgdfocjdbaaGreat.Tb
namespace Go.Proofs.YteidpgdfocjdbaaGreat.Tb
open Go Go.RowKit Go.Stg
section
variable {w:World} {b pb n:Nat} {sl psv:Value} {first:Int} {x:GS} (hS:GenAt w b first x.S x.F x.ret sl psv pb) (h:GInv n first x)
include hS
theorem GenPost.same {v:Value} {w':World} (hm:Mod [] w w'):GenPost v b first x.S x.F x.ret sl psv pb w (.returned v) w':=
 ⟨psv,rfl,hm.mono (by simp),hS.mod hm (by simp),fun y hy=>.inl hy⟩
theorem live_post (k:Int):Calls Tryz.prog 100 #[.pointer (some ⟨b,0,none⟩),.int .i64 k] w fun e w'=>e=.returned (.tuple #[.int .i64 (if liveN x.S k then(slotN x.S k.toNat).1 else 0),.bool (liveN x.S k)])∧Mod [] w w':=by
 rw[←liveV_eq];exact live_ok hS k
include h
theorem iss_post (hf1:1≤first) (hf2:first≤4294967295) (d:Int) (hd:0≤d) (hd2:d≤18446744073709551615):Calls Tryz.prog 87 #[.pointer (some ⟨b,0,none⟩),.int .u64 d] w (GenPost (issV first x d) b first (issG first x d).S (issG first x d).F (issG first x d).ret sl psv pb w):=by
 unfold issG issV;by_cases hn:0<x.F.length
 ·rw[dif_pos hn,if_pos hn];obtain⟨hi,hj,hp,hF,hjn,hd',hg0,hg1,hsl⟩:=h.pick hf1 hf2 hn d;rw[hsl];refine issue_some hS d hd hd2 hn _ hp hi _ hF hj hg0 hg1 _ ?_;unfold nextG;by_cases h:x.S[pickS x.F d].1=0
  ·exact .inl ⟨h,by rw[if_pos h]⟩
  ·exact .inr ⟨h,by rw[if_neg h]⟩
 ·rw[dif_neg hn,if_neg hn];refine(issue_none hS (List.length_eq_zero_iff.1 (by omega)) d).mono ?_;rintro e w' ⟨rfl,hm⟩;exact GenPost.same hS hm
end
theorem gfoot_grow {w:World} {b pb:Nat} {sl psv psv':Value} (hf:∀y,psv'.ownBlock=some y→psv.ownBlock=some y∨w.heap.size≤y):∀y∈gfoot b pb sl psv',y∈gfoot b pb sl psv∨w.heap.size≤y:=fun y hy=>by
 simp only[gfoot,List.mem_cons,List.mem_append,Option.mem_toList]at hy⊢;rcases hy with rfl|rfl|hy|hy
 ·simp
 ·simp
 ·simp[hy]
 ·rcases hf y hy with h|h
  ·exact .inl (.inr (.inr (.inr h)))
  ·exact .inr h
theorem row_lt {w:World} {base sz n:Nat} {e:TypeId} {v:Value} {xs:List Value} (h:w.ownsRow base e sz v n xs):∀g,v.ownBlock=some g→base≤g∧g<w.heap.size:=fun g hg=>by
 rcases row_cases h with⟨rfl,_⟩|⟨k,cap,rfl,h1,h2,_⟩
 ·simp[Value.ownBlock]at hg
 ·simp[Value.ownBlock]at hg;subst hg;exact⟨h1,h2⟩
theorem GenAt.foot_lt {w:World} {b pb:Nat} {first ret:Int} {S:List Slot} {F:List Int} {sl psv:Value} (h:GenAt w b first S F ret sl psv pb):∀y∈gfoot b pb sl psv,y<w.heap.size:=fun y hy=>by
 simp only[gfoot,List.mem_cons,List.mem_append,Option.mem_toList]at hy;rcases hy with rfl|rfl|hy|hy
 ·exact lt_of h.blk
 ·exact lt_of h.pool.blk
 ·exact(row_lt h.row y hy).2
 ·exact(row_lt h.pool.row y hy).2
end Go.Proofs.YteidpgdfocjdbaaGreat.Tb
namespace Go.Proofs.YteidpgdfocjdbaaGreat.Tb
open Go Go.RowKit Go.Stg
section
variable {P:Program}
theorem run_append_in (w:World) (t ty e:TypeId) (i:TypeInfo) (z:Value) (bytes:Nat) (ht:P.underlying t=some (.slice e)) (hi:P.info? e=some i) (hz:i.zero=some z)
  (hsize:i.size=1) (hby:i.bytes=bytes) (hzs:z.cells.size=1)
  (v:Value) (n:Nat) (xs:List Value) (hown:w.ownsRow 0 e 1 v n xs)
  (sv:Value) (news:List Value) (hin:SliceIn w sv news) (h1:∀u∈news,u.oneCell'=true)
  (h63:n+news.length≤maxLen) (hbytes:(n+news.length)*bytes≤140737488355328):
  ∃v' w',(Builtin.append_ #[t,t] ty #[v,sv]).run P w=.ok v' w'∧w'.ownsRow 0 e 1 v' (n+news.length) (xs++news)∧w.grownBy w' v.ownBlock∧∀x,v'.ownBlock=some x→v.ownBlock=some x∨w.heap.size≤x:=by
 rcases hin with⟨rfl,rfl⟩|⟨sb,so,cap,rfl,_,hc⟩
 ·exact⟨v,w,run_append_owned_none w 0 t ty e i 1 ht hi v n xs hown,by simpa using hown,⟨rfl,rfl,rfl,Nat.le_refl _,fun _ _ _=>rfl⟩,fun x hx=>.inl hx⟩
 ·exact run_append_row (P:=P) w t ty e i z 1 bytes ht hi hz hsize hby hzs (by decide) v n xs hown ⟨sb,so,none⟩ news.length cap news (by simp) (fun j u hj=>by rw[add_at];exact hc j u hj) h1 h63 hbytes
theorem wpList_append_in (w:World) {ops:Array Oper} {rest:List Oper} {o:Oper} {a:Act} {Q:Exit→Act→World→Prop} (hgd:o.guard=none) (s x:Operand) (t:TypeId)
  (ho:o.op=.call {callee:=.builtin .append,args:=#[s,x],argTypes:=#[t,t]})
  (e:TypeId) (i:TypeInfo) (z:Value) (bytes:Nat) (ht:P.underlying t=some (.slice e)) (hi:P.info? e=some i) (hz:i.zero=some z)
  (hsize:i.size=1) (hby:i.bytes=bytes) (hzs:z.cells.size=1)
  (v:Value) (n:Nat) (xs:List Value) (hs:a.eval s=v) (hown:w.ownsRow 0 e 1 v n xs)
  (sv:Value) (news:List Value) (hx:a.eval x=sv) (hin:SliceIn w sv news) (h1:∀u∈news,u.oneCell'=true)
  (h63:n+news.length≤maxLen) (hbytes:(n+news.length)*bytes≤140737488355328)
  (h:∀v' w',w'.ownsRow 0 e 1 v' (n+news.length) (xs++news)→w.grownBy w' v.ownBlock→(∀x,v'.ownBlock=some x→v.ownBlock=some x∨w.heap.size≤x)→wpList P ops Q rest (a.put o.dst v') w'):wpList P ops Q (o::rest) a w:=by
 refine wpList_plain hgd fun K hK=> ?_
 obtain⟨v',w',hr,h2,h3,h4⟩:=run_append_in (P:=P) w t o.type e i z bytes ht hi hz hsize hby hzs v n xs hown sv news hin h1 h63 hbytes;unfold Oper.wp execOp;simp only[ho,resolve,invoke,builtin,Sem.run_bind,Sem.run_pure,Result.andThen_ok,List.map_toArray,List.map_cons,List.map_nil,hs,hx,hr];exact hK _ _ (h v' w' h2 h3 h4)
end
theorem SliceIn.mod {w w':World} {sv:Value} {cs:List Value} (h:SliceIn w sv cs) (hm:Mod [] w w'):SliceIn w' sv cs:=by
 rcases h with h|⟨sb,so,cap,rfl,h2,h3⟩
 ·exact .inl h
 ·exact .inr ⟨sb,so,cap,rfl,hm.lt h2,fun j u hj=>(cell_mod hm h2 (by simp)).trans (h3 j u hj)⟩
end Go.Proofs.YteidpgdfocjdbaaGreat.Tb
namespace Go.Proofs.YteidpgdfocjdbaaGreat.Tb
open Go Go.RowKit Go.Stg
theorem IntsAt.lt {w:World} {v:Value} {xs:List Int} (h:IntsAt w v xs):∀x,v.ownBlock=some x→x<w.heap.size:=fun x hx=>by
 rcases h with⟨rfl,_⟩|⟨sb,so,cap,rfl,h2,_⟩
 ·simp[Value.ownBlock]at hx
 ·simp[Value.ownBlock]at hx;omega
end Go.Proofs.YteidpgdfocjdbaaGreat.Tb
namespace Go.Proofs.YteidpgdfocjdbaaGreat.Tb
open Go Go.RowKit Go.Stg
theorem issV_some {first d:Int} {x:GS} (h:0<x.F.length):issV first x d=.tuple #[.int .i64 (pickS x.F d),.int .i64 (nextG first (slotN x.S (pickS x.F d)).1),.int .i64 0]:=if_pos h
theorem issV_none {first d:Int} {x:GS} (h:x.F=[]):issV first x d=.tuple #[.int .i64 0,.int .i64 0,.int .i64 17]:=if_neg (by simp[h])
theorem issG_some {first d:Int} {x:GS} (h:0<x.F.length):issG first x d=⟨x.S.set (pickS x.F d) (nextG first (slotN x.S (pickS x.F d)).1,true),takeAt x.F (pickI x.F d) h,x.ret⟩:=dif_pos h
theorem issG_none {first d:Int} {x:GS} (h:x.F=[]):issG first x d=x:=dif_neg (by simp[h])
end Go.Proofs.YteidpgdfocjdbaaGreat.Tb
namespace Go
namespace Stg
structure Comp where
 on:World→List Nat→Prop
 keep:∀ {w w':World} {f T:List Nat},on w f→Mod T w w'→(∀x∈f,x∉T)→on w' f
 lt:∀ {w:World} {f:List Nat},on w f→∀x∈f,x<w.heap.size
def Hold:List Comp→World→List Nat→Prop
 | [],_,fp=>fp=[]
 |c::cs,w,fp=>∃f g,c.on w f∧Hold cs w g∧(∀x∈f,x∉g)∧fp=f++g
theorem Hold.keep:∀ {cs:List Comp} {w w':World} {fp T:List Nat},Hold cs w fp→Mod T w w'→(∀x∈fp,x∉T)→Hold cs w' fp
 | [],_,_,_,_,h,_,_=>h
 |_::_,_,_,_,_,⟨f,g,h1,h2,h3,e⟩,hm,hT=>by
  subst e;exact⟨f,g,Comp.keep _ h1 hm fun x hx=>hT x (List.mem_append_left _ hx),Hold.keep h2 hm fun x hx=>hT x (List.mem_append_right _ hx),h3,rfl⟩
theorem Hold.lt:∀ {cs:List Comp} {w:World} {fp:List Nat},Hold cs w fp→∀x∈fp,x<w.heap.size
 | [],_,_,h=>by subst h;simp
 |_::_,_,_,⟨f,g,h1,h2,_,e⟩=>by
  subst e;intro x hx;rcases List.mem_append.1 hx with hx|hx
  ·exact Comp.lt _ h1 x hx
  ·exact h2.lt x hx
def Comp.all (cs:List Comp):Comp:=⟨Hold cs,Hold.keep,Hold.lt⟩
theorem Hold.part:∀ {cs:List Comp} {w:World} {fp:List Nat} (i:Nat) {c:Comp},Hold cs w fp→cs[i]? =some c→
  ∃f,c.on w f∧(∀x∈f,x∈fp)∧∀w' f' c',Comp.on c' w' f'→Mod f w w'→(∀x∈f',x∈f∨w.heap.size≤x)→∃fp',Hold (cs.set i c') w' fp'∧∀x∈fp',x∈fp∨w.heap.size≤x
 | [],_,_,_,_,_,hi=>by simp at hi
 |c0::cs,w,fp,0,c,⟨f,g,h1,h2,h3,e⟩,hi=>by
  obtain rfl:c0=c:=by simpa using hi
  subst e;refine⟨f,h1,fun x hx=>List.mem_append_left _ hx,fun w' f' c' k1 k2 k3=>⟨f'++g,⟨f',g,k1,h2.keep k2 fun x hx hxf=>h3 x hxf hx,fun x hx hxg=> ?_,rfl⟩,fun x hx=> ?_⟩⟩
  ·rcases k3 x hx with h|h
   ·exact h3 x h hxg
   ·have:=h2.lt x hxg;omega
  ·rcases List.mem_append.1 hx with hx|hx
   ·exact(k3 x hx).imp (List.mem_append_left _) id
   ·exact .inl (List.mem_append_right _ hx)
 |c0::cs,w,fp,i+1,c,⟨f0,g,h1,h2,h3,e⟩,hi=>by
  subst e;obtain⟨f,k1,k2,k3⟩:=Hold.part i h2 (by simpa using hi);refine⟨f,k1,fun x hx=>List.mem_append_right _ (k2 x hx),fun w' f' c' m1 m2 m3=> ?_⟩;obtain⟨g',n1,n2⟩:=k3 w' f' c' m1 m2 m3;refine⟨f0++g',⟨f0,g',Comp.keep _ h1 m2 fun x hx hxf=>h3 x hx (k2 x hxf),n1,fun x hx hxg=> ?_,rfl⟩,fun x hx=> ?_⟩
  ·rcases n2 x hxg with h|h
   ·exact h3 x hx h
   ·have:=Comp.lt _ h1 x hx;omega
  ·rcases List.mem_append.1 hx with hx|hx
   ·exact .inl (List.mem_append_left _ hx)
   ·exact(n2 x hx).imp (List.mem_append_right _) id
theorem Hold.erase:∀ {cs:List Comp} {w:World} {fp:List Nat} (i:Nat),Hold cs w fp→∃fp',Hold (cs.eraseIdx i) w fp'∧∀x∈fp',x∈fp
 | [],_,_,_,h=>⟨[],rfl,by simp⟩
 |_::_,_,_,0,⟨f,g,h1,h2,h3,e⟩=>⟨g,h2,fun x hx=>by subst e;exact List.mem_append_right _ hx⟩
 |_::_,_,_,i+1,⟨f,g,h1,h2,h3,e⟩=>by
  subst e;obtain⟨g',k1,k2⟩:=Hold.erase i h2;exact⟨f++g',⟨f,g',h1,k1,fun x hx hxg=>h3 x hx (k2 x hxg),rfl⟩,fun x hx=>by
   rcases List.mem_append.1 hx with hx|hx
   ·exact List.mem_append_left _ hx
   ·exact List.mem_append_right _ (k2 x hx)⟩
def Scene (F:List Nat) (W:World) (cs:List Comp) (w:World):Prop:=
 Mod F W w∧∃fp,Hold cs w fp∧∀x∈fp,x∈F∨W.heap.size≤x
section
variable {F:List Nat} {W w w':World} {cs:List Comp}
theorem Scene.mod (h:Scene F W cs w):Mod F W w:=h.1
theorem Scene.start {fp:List Nat} (h:Hold cs w fp):Scene fp w cs w:=⟨Mod.refl _ _,fp,h,fun _ hx=>.inl hx⟩
theorem Scene.empty (W:World):Scene [] W [] W:=⟨Mod.refl _ _,[],rfl,by simp⟩
theorem Scene.done (h:Scene F W cs w):∃f',Hold cs w f'∧Mod F W w∧∀x∈f',x∈F∨W.heap.size≤x:=let ⟨h1,f,h2,h3⟩:=h;⟨f,h2,h1,h3⟩
theorem Scene.part (i:Nat) {c:Comp} (h:Scene F W cs w) (hi:cs[i]? =some c):
  ∃f,c.on w f∧∀w' f' c',Comp.on c' w' f'→Mod f w w'→(∀x∈f',x∈f∨w.heap.size≤x)→Scene F W (cs.set i c') w':=by
 obtain⟨hm,fp,hh,hf⟩:=h;obtain⟨f,h1,h2,h3⟩:=Hold.part i hh hi;refine⟨f,h1,fun w' f' c' k1 k2 k3=> ?_⟩;obtain⟨fp',n1,n2⟩:=h3 w' f' c' k1 k2 k3;refine⟨hm.then k2 fun x hx=>hf x (h2 x hx),fp',n1,fun x hx=> ?_⟩;rcases n2 x hx with h|h
 ·exact hf x h
 ·exact .inr (Nat.le_trans hm.size h)
theorem Scene.then (h:Scene F W cs w) (hm:Mod [] w w'):Scene F W cs w':=
 let ⟨h1,fp,h2,h3⟩:=h;⟨h1.nil_then hm,fp,h2.keep hm (by simp),h3⟩
theorem Scene.add {c:Comp} {f:List Nat} (h:Scene F W cs w) (hm:Mod [] w w') (hc:c.on w' f) (hf:∀x∈f,w.heap.size≤x):Scene F W (c::cs) w':=by
 obtain⟨h1,fp,h2,h3⟩:=h;refine⟨h1.nil_then hm,f++fp,⟨f,fp,hc,h2.keep hm (by simp),fun x hx hxp=> ?_,rfl⟩,fun x hx=> ?_⟩
 ·have:=hf x hx;have:=h2.lt x hxp;omega
 ·rcases List.mem_append.1 hx with hx|hx
  ·exact .inr (Nat.le_trans h1.size (hf x hx))
  ·exact h3 x hx
theorem Scene.erase (i:Nat) (h:Scene F W cs w):Scene F W (cs.eraseIdx i) w:=by
 obtain⟨h1,fp,h2,h3⟩:=h;obtain⟨fp',k1,k2⟩:=h2.erase i;exact⟨h1,fp',k1,fun x hx=>h3 x (k2 x hx)⟩
theorem Scene.swap {a b:Comp} (h:Scene F W (a::b::cs) w):Scene F W (b::a::cs) w:=by
 obtain⟨h1,fp,⟨f,_,ha,⟨g,k,hb,hc,hgk,rfl⟩,hfg,rfl⟩,h3⟩:=h;refine⟨h1,g++(f++k),⟨g,f++k,hb,⟨f,k,ha,hc,fun x hx hxk=>hfg x hx (List.mem_append_right _ hxk),rfl⟩,fun x hx hxf=> ?_,rfl⟩,fun x hx=>h3 x ?_⟩
 ·rcases List.mem_append.1 hxf with h|h
  ·exact hfg x h (List.mem_append_left _ hx)
  ·exact hgk x hx h
 ·simp only[List.mem_append]at hx⊢;rcases hx with h|h|h
  ·exact .inr (.inl h)
  ·exact .inl h
  ·exact .inr (.inr h)
end
def Takes (c':Comp) (v:Value) (w:World) (f:List Nat) (e:Ending) (w':World):Prop:=
 ∃f',e=.returned v∧c'.on w' f'∧Mod f w w'∧∀x∈f',x∈f∨w.heap.size≤x
section
variable {P:Program} {fn:FuncId} {args:Array Value} {F:List Nat} {W w:World} {cs:List Comp}
theorem Scene.call (i:Nat) {c c':Comp} {v:Value} (h:Scene F W cs w) (hi:cs[i]? =some c) (hc:∀f,c.on w f→Calls P fn args w (Takes c' v w f)):
  Calls P fn args w fun e w'=>e=.returned v∧Scene F W (cs.set i c') w':=by
 obtain⟨f,h1,h2⟩:=h.part i hi;refine(hc f h1).mono ?_;rintro e w' ⟨f',he,k1,k2,k3⟩;exact⟨he,h2 w' f' c' k1 k2 k3⟩
theorem Scene.look (i:Nat) {c:Comp} {Q:Ending→World→Prop} (h:Scene F W cs w) (hi:cs[i]? =some c) (hc:∀f,c.on w f→Calls P fn args w fun e w'=>Q e w'∧Mod [] w w'):
  Calls P fn args w fun e w'=>Q e w'∧Scene F W cs w':=by
 obtain⟨f,h1,h2⟩:=h.part i hi;exact(hc f h1).mono fun e w' ⟨k1,k2⟩=>⟨k1,h.then k2⟩
end
def blockC (b:Nat) (o:Obj):Comp:=
 ⟨fun w f=>w.heap[b]? =some o∧f=[b],fun h hm hT=>⟨hm.at h.1 (hT b (by rw[h.2];simp)),h.2⟩,fun h x hx=>by rw[h.2,List.mem_singleton]at hx;subst hx;exact lt_of h.1⟩
theorem Scene.alloc {F:List Nat} {W w:World} {cs:List Comp} (h:Scene F W cs w) (o:Obj):Scene F W (blockC w.heap.size o::cs) (w.alloc o):=
 h.add (c:=blockC w.heap.size o) ((Mod.refl [] w).alloc o) ⟨at_alloc w o,rfl⟩ (by simp)
theorem Scene.block {F:List Nat} {W w:World} {cs:List Comp} (i:Nat) {b:Nat} {o:Obj} (h:Scene F W cs w) (hi:cs[i]? =some (blockC b o)):w.heap[b]? =some o:=
 let ⟨_,h1,_⟩:=h.part i hi;h1.1
def BW (b:Nat) (o:Obj):Type:={w:World//w.heap[b]? =some o}
instance BW.inst (b:Nat) (o:Obj):Nonempty (BW b o):=⟨⟨{(default:World)with heap:=Array.replicate (b+1) o},by simp⟩⟩
theorem BW.of {b:Nat} {o:Obj} {w:World} (h:w.heap[b]? =some o):∃x:BW b o,w=x.1:=⟨⟨w,h⟩,rfl⟩
theorem BW.cells {b:Nat} {cs:Array Value} {T:TypeId} {fr:Nat×Nat}:∀(x:BW b (.cells cs T fr)) o,x.1.cell? ⟨b,o,none⟩=cs[o]? :=fun x=>cells_of x.2
theorem Scene.drew {F:List Nat} {W w:World} {cs:List Comp} (h:Scene F W cs w):Scene F W cs w.drew:=h.then (Mod.refl [] w).drew
theorem wp_region_scene {P:Program} {id:Nat} {Q:Exit→Act→World→Prop} {a:Act} {F:List Nat} {W w:World} {cs:List Comp} {l:List Oper} (b:Nat) (o:Obj) (h:Scene F W cs w) (hb:∀w',Scene F W cs w'→w'.heap[b]? =some o) (hm:P.follows .mixedOrders=true) (hB:stageB .any l.toArray=true)
  (h':wpStage P l.toArray (fun w'=>∃x:BW b o,w'=x.1) (LetsOut Q) (fun a' w'=>Q .normal a' w') l (fun w'=>Scene F W cs w') a):(Code.region id l.toArray true).wp P Q a w:=
 wp_region_stage (fun w'=>∃x:BW b o,w'=x.1) (fun w'=>Scene F W cs w') hm hB (fun w' h=>BW.of (hb w' h)) h.drew h'
end Stg
end Go
namespace Go.Proofs.YteidpgdfocjdbaaGreat.Tb
open Go Go.RowKit Go.Stg
def genC (b pb:Nat) (sl:Value) (first:Int) (x:GS):Comp:=
 ⟨fun w f=>∃psv,GenAt w b first x.S x.F x.ret sl psv pb∧f=gfoot b pb sl psv,fun⟨psv,h,e⟩ hm hT=>⟨psv,h.mod hm (e▸hT),e⟩,fun⟨_,h,e⟩ x hx=>h.foot_lt x (e▸hx)⟩
theorem GenPost.takes {w:World} {b pb:Nat} {sl psv v:Value} {first:Int} {x:GS} {e:Ending} {w':World} (h:GenPost v b first x.S x.F x.ret sl psv pb w e w'):Takes (genC b pb sl first x) v w (gfoot b pb sl psv) e w':=
 let ⟨psv',he,hm,hg,hs⟩:=h;⟨_,he,⟨psv',hg,rfl⟩,hm,gfoot_grow hs⟩
section
variable {F:List Nat} {W w:World} {cs:List Comp} {n:Nat} {first:Int} {x:GS} (hI:GInv n first x) (i:Nat)
section
variable {b pb:Nat} {sl:Value} (h:Scene F W cs w) (hi:cs[i]? =some (genC b pb sl first x))
include hI h hi
theorem sc_issue (hf1:1≤first) (hf2:first≤4294967295) (d:Int) (hd:0≤d) (hd2:d≤18446744073709551615):Calls Tryz.prog 87 #[.pointer (some ⟨b,0,none⟩),.int .u64 d] w fun e w'=>e=.returned (issV first x d)∧Scene F W (cs.set i (genC b pb sl first (issG first x d))) w':=
 h.call i hi fun f ⟨psv,hg,e⟩=>by subst e;exact(iss_post hg hI hf1 hf2 d hd hd2).mono fun _ _ hp=>GenPost.takes hp
end
end
theorem sc_gen {F:List Nat} {W w:World} {cs:List Comp} (i:Nat) {b pb:Nat} {sl:Value} {first:Int} {x:GS} (h:Scene F W cs w) (hi:cs[i]? =some (genC b pb sl first x)):∃psv,GenAt w b first x.S x.F x.ret sl psv pb:=
 let ⟨_,⟨psv,h1,_⟩,_⟩:=h.part i hi;⟨psv,h1⟩
end Go.Proofs.YteidpgdfocjdbaaGreat.Tb
namespace Go.Proofs.YteidpgdfocjdbaaGreat.Tb
open Go Go.RowKit Go.Stg
def hSlot (h:Int):Int:=h%16777216
def hGen (h:Int):Int:=h/16777216%4294967296
def hTag (h:Int):Int:=h/72057594037927936
def packI (s g t:Int):Int:=t*72057594037927936+g*16777216+s
theorem wraps_u64 (n:Int) (h₀:0≤n) (h₁:n<2^64):IntKind.u64.wrap n=n:=by rw[IntKind.wrap_u64];omega
theorem and_mask (i:Nat) (hi:i≤64) (x:Int) (h0:0≤x) (h1:x≤18446744073709551615):bits .and .u64 x (2^i-1)=x%2^i:=bits_mask .u64 64 (by decide) wraps_u64 i hi x h0 (by omega)
theorem or_low (i:Nat) (x y:Int) (hx0:0≤x) (hx:x%2^i=0) (hx1:x≤18446744073709551615) (hy0:0≤y) (hy:y<2^i) (hy1:y≤18446744073709551615):bits .or .u64 y x=y+x:=by
 have h:=bits_join .u64 64 (by decide) wraps_u64 i x y hx0 hx (by omega) hy0 hy (by omega);obtain⟨a,rfl⟩:=Int.eq_ofNat_of_zero_le hx0;obtain⟨b,rfl⟩:=Int.eq_ofNat_of_zero_le hy0;rw[(bits_nat .u64 64 (by decide) wraps_u64 b a (by omega) (by omega)).2,Nat.or_comm, ←(bits_nat .u64 64 (by decide) wraps_u64 a b (by omega) (by omega)).2,h];omega
section
variable (h:Int) (h0:0≤h) (h1:h≤18446744073709551615) (w:World)
include h0 h1
theorem slot_ok:Calls Tryz.prog 54 #[.int .u64 h] w fun e w'=>e=.returned (.int .i64 (hSlot h))∧Mod [] w w':=by
 have e:=and_mask 24 (by omega) h h0 h1;simp only[Int.reducePow,Int.reduceSub]at e;unfold hSlot;go_enter Tryz.func54,Tryz.ntmps54;go_wp2_with fail;go_ret;exact⟨rfl,Mod.refl _ _⟩
theorem gen_ok:Calls Tryz.prog 101 #[.int .u64 h] w fun e w'=>e=.returned (.int .i64 (hGen h))∧Mod [] w w':=by
 have e:=and_mask 32 (by omega) (h/16777216) (by omega) (by omega);simp only[Int.reducePow,Int.reduceSub]at e;unfold hGen;go_enter Tryz.func101,Tryz.ntmps101;go_wp2_with fail;go_ret;exact⟨rfl,Mod.refl _ _⟩
theorem tag_ok:Calls Tryz.prog 102 #[.int .u64 h] w fun e w'=>e=.returned (.int .i64 (hTag h))∧Mod [] w w':=by
 go_enter Tryz.func102,Tryz.ntmps102;go_wp2_with fail;go_ret;exact⟨rfl,Mod.refl _ _⟩
end
section
variable (s g t:Int) (hs:0≤s∧s≤16777215) (hg:1≤g∧g≤4294967295) (ht:1≤t∧t≤255) (w:World)
include hs hg ht
theorem packl_ok:Calls Tryz.prog 122 #[.int .i64 s,.int .i64 g,.int .i64 t] w fun e w'=>e=.returned (.int .u64 (packI s g t))∧Mod [] w w':=by
 obtain⟨s0,s1⟩:=hs;obtain⟨g0,g1⟩:=hg;obtain⟨t0,t1⟩:=ht;have e1:=or_low 24 (g*16777216) s (by omega) (by omega) (by omega) (by omega) (by omega) (by omega);have e2:=or_low 56 (t*72057594037927936) (s+g*16777216) (by omega) (by omega) (by omega) (by omega) (by omega) (by omega);have e3:packI s g t=s+g*16777216+t*72057594037927936:=by unfold packI;omega
 rw[e3];clear e3;go_enter Tryz.func122,Tryz.ntmps122;go_wp2_with fail;go_ret;exact⟨rfl,Mod.refl _ _⟩
theorem pack_ok:Calls Tryz.prog 88 #[.int .i64 s,.int .i64 g,.int .i64 t] w fun e w'=>e=.returned (.tuple #[.int .u64 (packI s g t),.int .i64 0])∧Mod [] w w':=by
 have hP:=Lib.hid (packl_ok s g t hs hg ht w);obtain⟨s0,s1⟩:=hs;obtain⟨g0,g1⟩:=hg;obtain⟨t0,t1⟩:=ht;go_enter Tryz.func88,Tryz.ntmps88;go_wp2_with fail;refine hP.out.mono ?_;rintro e w1 ⟨rfl,hm⟩;go_wp2_with fail;go_ret2;exact⟨rfl,hm⟩
end
end Go.Proofs.YteidpgdfocjdbaaGreat.Tb
