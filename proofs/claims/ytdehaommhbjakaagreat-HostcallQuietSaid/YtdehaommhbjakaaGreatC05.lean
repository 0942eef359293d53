/- Joined contracts. No conditions. -/
import Derived.Test.YtdehaommhbjakaaGreatC04
namespace Go.Proofs.YtdehaommhbjakaaGreat.Tb
open RowKit Stg
def Sl (W:World) (b pb:Nat) (sl:Value) (first:Int) (S:List Slot) (F:List Int) (ret:Int) (w:World):Prop:=
 ∃psv,Mod [] W w∧ej w b first S F ret sl psv pb∧∀x∈bQ b pb sl psv,W.heap.size≤x
section
variable {W w:World} {b pb:Nat} {sl:Value} {first ret:Int} {S:List Slot} {F:List Int} (h:Sl W b pb sl first S F ret w)
include h
theorem Sl.mod:Mod [] W w:=let ⟨_,h,_⟩:=h;h
theorem Sl.then {w':World} (hm:Mod [] w w'):Sl W b pb sl first S F ret w':=by
 obtain⟨psv,h1,h2,h3⟩:=h;exact⟨psv,h1.ag hm,h2.mod hm (by simp),h3⟩
end
theorem Sl.post {W w w':World} {b pb:Nat} {sl psv v:Value} {first ret':Int} {S':List Slot} {F':List Int} {e:Ending} (h1:Mod [] W w) (h3:∀x∈bQ b pb sl psv,W.heap.size≤x) (h:iH v b first S' F' ret' sl psv pb w e w'):e=.returned v∧Sl W b pb sl first S' F' ret' w':=by
 obtain⟨psv',rfl,hm,hG,hf⟩:=h;refine⟨rfl,psv',h1.then hm (fun x hx=>.inr (h3 x hx)),hG,fun x hx=> ?_⟩;simp only[bQ,List.mem_cons,List.mem_append,Option.mem_toList]at hx;rcases hx with rfl|rfl|hx|hx
 ·exact h3 x (by simp[bQ])
 ·exact h3 x (by simp[bQ])
 ·exact h3 x (by simp[bQ,hx])
 ·rcases hf x hx with h|h
  ·exact h3 x (by simp[bQ,h])
  ·exact Nat.le_trans h1.size h
end Go.Proofs.YtdehaommhbjakaaGreat.Tb
namespace Go.Proofs.YtdehaommhbjakaaGreat.Tb
open RowKit Stg
theorem set_perm {α:Type} (D:List α) (z:α) (i:Nat) (hi:i<D.length):(D++[z]).Perm (D[i]::D.set i z):=by
 have h1:D=D.take i++D[i]::D.drop (i+1):=by rw[←List.drop_eq_getElem_cons hi,List.take_append_drop]
 have h2:D.set i z=D.take i++z::D.drop (i+1):=List.set_eq_take_append_cons_drop▸(by rw[if_pos hi]);rw[h2];refine List.Perm.trans (l₂:=D[i]::(D.take i++D.drop (i+1))++[z]) ?_ ?_
 ·refine List.Perm.append_right _ ?_;conv=>lhs;rw[h1]
  exact List.perm_middle
 ·refine List.Perm.cons _ ?_;refine List.Perm.trans ?_ List.perm_middle.symm;exact List.perm_append_comm
theorem AL {α:Type} (l:List α) (i:Nat) (h:0<l.length) (hi:i<l.length):l.Perm (l[i]::iY l i h):=by
 have hne:l≠ []:=by intro e;simp[e]at h
 have hl:l=l.dropLast++[l[l.length-1]]:=by rw[←List.getLast_eq_getElem hne];exact(List.dropLast_concat_getLast hne).symm
 have hll:l.dropLast.length=l.length-1:=List.length_dropLast;unfold iY;generalize l.dropLast=D at*;generalize l[l.length-1]=z at*;subst hl;by_cases hlast:i=D.length
 ·subst hlast;simp
 ·have hd:i<D.length:=by simp at hi;omega
  rw[List.set_append_left _ _ hd,List.dropLast_concat,List.getElem_append_left hd];exact set_perm D z i hd
def oH (w:World) (v:Value) (ds:List Int):Prop:=
 (v=.slice none 0 0∧ds=[])∨∃sb so cap,v=.slice (some ⟨sb,so,none⟩) ds.length cap∧sb<w.heap.size∧ds.length≤maxLen∧
  ∀i (h:i<ds.length),w.cell? ⟨sb,so+i,none⟩=some (.int .u64 ds[i])∧0≤ds[i]∧ds[i]≤18446744073709551615
theorem oH.len {w0:World} {v:Value} {ds:List Int} (h:oH w0 v ds) (ty:TypeId) (w:World):(Builtin.len_ #[24] ty #[v]).run Tryz.prog w=.ok (.int .i64 ds.length) w:=by
 rcases h with⟨rfl,rfl⟩|⟨sb,so,cap,rfl,_⟩<;>simp[Builtin.len_,run_underlying Tryz.underlying24,goInt]
theorem oH.mod {w w':World} {v:Value} {ds:List Int} (h:oH w v ds) (hm:Mod [] w w'):oH w' v ds:=by
 rcases h with h|⟨sb,so,cap,h1,h2,h3,h4⟩
 ·exact .inl h
 ·refine .inr ⟨sb,so,cap,h1,hm.lt h2,h3,fun i hi=> ?_⟩;obtain⟨a,b⟩:=h4 i hi;exact⟨(bg hm h2 (by simp)).trans a,b⟩
def fP (first g:Int):Int:=if g=0 then first else g+1
def oS (S:List Slot) (x:Int):Slot:=S.getD x.toNat (0,false)
def qQ (first:Int) (S:List Slot) (x:Int):Int:=4294967295-fP first (oS S x).1+1
def lR:List Int→Int
 | []=>0
 |x::l=>x+lR l
theorem AB (l:List Int) (x:Int):lR (l++[x])=lR l+x:=by
 induction l with
 |nil=>simp[lR]
 |cons y l ih=>simp only[List.cons_append,lR,ih];omega
theorem vG (S:List Slot) (m:Nat) (h:m<S.length):oS S m=S[m]:=by simp[oS,List.getD_eq_getElem?_getD,List.getElem?_eq_getElem h]
structure tX (n:Nat) (first:Int) (S:List Slot) (F:List Int) (ret t:Int):Prop where
 len:S.length=n
 nd:F.Nodup
 free:∀x∈F,∃m:Nat,x=m∧m<n
 dead:∀m (h:m<S.length),S[m].2=false
 mK:∀m (h:m<S.length),0≤S[m].1∧S[m].1≤4294967295
 low:∀x∈F,(oS S x).1<4294967295
 lj:(F.length:Int)+ret=n
 Hp:lR (F.map (qQ first S))=t
 qO:0≤ret
theorem tX.start (n:Nat) (first:Int):tX n first (fresh n) (cV n) 0 (n*(4294967295-first+1)):=by
 refine⟨iC n,?_,fun x hx=> ?_,fun m h=>by simp[fresh],fun m h=>by simp[fresh],fun x hx=> ?_,by simp[lp],?_,Int.le_refl 0⟩
 ·unfold cV List.Nodup;rw[List.pairwise_map];exact List.Pairwise.imp (fun h e=>h (Int.ofNat.inj e)) List.nodup_range
 ·simp only[cV,List.mem_map,List.mem_range]at hx;obtain⟨m,h,rfl⟩:=hx;exact⟨m,rfl,h⟩
 ·simp only[cV,List.mem_map,List.mem_range]at hx;obtain⟨m,h,rfl⟩:=hx;show(oS (fresh n) (m:Int)).1<_;rw[vG _ m (by rw[iC];exact h)];simp[fresh]
 ·have hr:∀k,k≤n→lR ((cV k).map (qQ first (fresh n)))=k*(4294967295-first+1):=by
   intro k;induction k with
   |zero=>intro _;simp[cV,lR]
   |succ k ih=>
    intro hk;rw[n5,List.map_append,List.map_singleton,AB,ih (by omega)];have:qQ first (fresh n) k=4294967295-first+1:=by
     unfold qQ;rw[vG _ k (by rw[iC];omega)];simp[fresh,fP]
    rw[this];push_cast;rw[Int.add_mul,Int.one_mul]
  exact hr n (Nat.le_refl _)
end Go.Proofs.YtdehaommhbjakaaGreat.Tb
namespace Go.Proofs.YtdehaommhbjakaaGreat.Tb
open RowKit Stg
structure GS where
 S:List Slot
 F:List Int
 ret:Int
def aC (S:List Slot) (m:Nat):Slot:=S.getD m (0,false)
theorem j1 {S:List Slot} {m:Nat} (h:m<S.length):aC S m=S[m]:=by simp[aC,List.getD_eq_getElem?_getD,List.getElem?_eq_getElem h]
theorem sG {S:List Slot} {m:Nat} (h:S.length≤m):aC S m=(0,false):=by simp[aC,List.getD_eq_getElem?_getD,List.getElem?_eq_none h]
theorem ib {S:List Slot} {j:Nat} (h:j<S.length) (z:Slot) (m:Nat):aC (S.set j z) m=if m=j then z else aC S m:=by
 unfold aC;simp only[List.getD_eq_getElem?_getD];by_cases e:m=j
 ·subst e;simp[h]
 ·rw[if_neg e,List.getElem?_set_ne (Ne.symm e)]
def jP (F:List Int) (d:Int):Nat:=(d%(F.length:Int)).toNat
def bT (F:List Int) (d:Int):Nat:=(F.getD (jP F d) 0).toNat
def jV (first:Int) (x:GS) (d:Int):GS:=
 if h:0<x.F.length then⟨x.S.set (bT x.F d) (fP first (aC x.S (bT x.F d)).1,true),iY x.F (jP x.F d) h,x.ret⟩else x
def o6 (first:Int) (x:GS) (d:Int):Value:=
 if 0<x.F.length then .tuple #[.int .i64 (bT x.F d),.int .i64 (fP first (aC x.S (bT x.F d)).1),.int .i64 0]else .tuple #[.int .i64 0,.int .i64 0,.int .i64 17]
def iL (S:List Slot) (k:Int):Bool:=decide (0≤k)&&(aC S k.toNat).2
def jd (x:GS) (k:Int):GS:=
 if iL x.S k then
  if(aC x.S k.toNat).1=4294967295 then⟨x.S.set k.toNat ((aC x.S k.toNat).1,false),x.F,x.ret+1⟩
  else⟨x.S.set k.toNat ((aC x.S k.toNat).1,false),x.F++[k],x.ret⟩
 else x
def pc (x:GS) (k:Int):Int:=if iL x.S k then 0 else 6
def kl (S:List Slot):Nat:=S.countP (·.2)
structure jw (n:Nat) (first:Int) (x:GS):Prop where
 len:x.S.length=n
 nd:x.F.Nodup
 free:∀y∈x.F,∃m:Nat,y=m∧m<n∧(aC x.S m).2=false∧(aC x.S m).1<4294967295
 mK:∀m,m<n→(aC x.S m=(0,false))∨(first≤(aC x.S m).1∧(aC x.S m).1≤4294967295)
 lj:(kl x.S:Int)+x.F.length+x.ret=n
 qO:0≤x.ret
theorem wD {S:List Slot} {j:Nat} (h:j<S.length) (z:Slot):kl (S.set j z)+(if(aC S j).2 then 1 else 0)=kl S+(if z.2 then 1 else 0):=by
 unfold kl;rw[List.countP_set h,j1 h];have:S[j].2=true→0<S.countP (·.2):=fun e=>List.countP_pos_iff.2 ⟨S[j],List.getElem_mem h,e⟩
 generalize S.countP (·.2)=c at*;cases hs:S[j].2<;>cases z.2<;>simp[hs]at* <;>omega
theorem jw.start (n:Nat) (first:Int):jw n first ⟨fresh n,cV n,0⟩:=by
 have hr:=tX.start n first
 have hsl:∀m,m<n→aC (fresh n) m=(0,false):=fun m h=>by rw[j1 (by rw[iC];exact h)];simp[fresh]
 refine⟨iC n,hr.nd,fun y hy=> ?_,fun m h=>.inl (hsl m h),?_,Int.le_refl 0⟩
 ·obtain⟨m,e,h⟩:=hr.free y hy;exact⟨m,e,h,by rw[hsl m h],by show(aC (fresh n) m).1<4294967295;rw[hsl m h];show(0:Int)<4294967295;omega⟩
 ·have:kl (fresh n)=0:=by
   unfold kl;rw[List.countP_eq_zero];intro a ha;simp[fresh]at ha;simp[ha]
  simp[this,lp]
theorem wT (S:List Slot) (k:Int):jn S k=.tuple #[.int .i64 (if iL S k then(aC S k.toNat).1 else 0),.bool (iL S k)]:=by
 unfold jn iL;by_cases h0:0≤k
 ·simp only[h0,decide_true,Bool.true_and,if_true];rcases Nat.lt_or_ge k.toNat S.length with h|h
  ·rw[j1 h,List.getElem?_eq_getElem h];rcases hs:S[k.toNat]with⟨g,l⟩
   cases l<;>simp
  ·rw[sG h,List.getElem?_eq_none h];simp
 ·simp[h0]
theorem wi {S:List Slot} {k:Int} (h:iL S k=true):∃j:Nat,k=j∧j<S.length∧(aC S j).2=true:=by
 unfold iL at h;simp only[Bool.and_eq_true,decide_eq_true_eq]at h;refine⟨k.toNat,by omega,?_,h.2⟩;rcases Nat.lt_or_ge k.toNat S.length with h'|h'
 ·exact h'
 ·rw[sG h']at h;simp at h
section
variable {n:Nat} {first:Int} {x:GS} (h:jw n first x) (hf1:1≤first) (hf2:first≤4294967295)
include h hf1 hf2
theorem jw.pick (hn:0<x.F.length) (d:Int):∃(hi:jP x.F d<x.F.length) (hj:bT x.F d<x.S.length),d%(x.F.length:Int)=jP x.F d∧x.F[jP x.F d]=(bT x.F d:Int)∧bT x.F d<n∧x.S[bT x.F d].2=false∧0≤x.S[bT x.F d].1∧x.S[bT x.F d].1<4294967295∧(aC x.S (bT x.F d))=x.S[bT x.F d]:=by
 have e1:=Int.emod_nonneg d (show(x.F.length:Int)≠0 by omega);have e2:=Int.emod_lt_of_pos d (show(0:Int)<x.F.length by omega);have hp:d%(x.F.length:Int)=jP x.F d:=by unfold jP;omega
 have hi:jP x.F d<x.F.length:=by omega
 obtain⟨m,hm,hmn,hd,hl⟩:=h.free x.F[jP x.F d] (List.getElem_mem hi);have hs:bT x.F d=m:=by
  unfold bT;rw[List.getD_eq_getElem?_getD,List.getElem?_eq_getElem hi];simp[hm]
 have hml:m<x.S.length:=by rw[h.len];exact hmn
 have hg:=h.mK m hmn;rw[j1 hml]at hd hl hg;subst hs;refine⟨hi,hml,hp,hm,hmn,hd,?_,hl,by rw[j1 hml]⟩;rcases hg with e|e
 ·rw[e];exact Int.le_refl 0
 ·omega
theorem jw.oZ (d:Int):jw n first (jV first x d):=by
 unfold jV;by_cases hn:0<x.F.length
 ·rw[dif_pos hn];obtain⟨hi,hj,hp,hF,hjn,hd,hg0,hg1,hsl⟩:=h.pick hf1 hf2 hn d;generalize jP x.F d=i at*;generalize bT x.F d=j at*;have hpm:=AL x.F i hn hi;rw[hF]at hpm;have hnd:=List.nodup_cons.1 (hpm.nodup_iff.1 h.nd);have hmem:∀y∈iY x.F i hn,y∈x.F:=fun y hy=>hpm.mem_iff.2 (List.mem_cons_of_mem _ hy)
  have hlc:=wD hj (fP first (aC x.S j).1,true);rw[hsl,hd]at hlc;rw[hsl];have hlen:=rj x.F i hn;have hcnt:=h.lj;refine⟨by rw[List.length_set];exact h.len,hnd.2,fun y hy=> ?_,fun m hm=> ?_,?_,h.qO⟩
  ·obtain⟨m,e,h1,h2,h3⟩:=h.free y (hmem y hy);have:m≠j:=fun e'=>hnd.1 (by rw[←e', ←e];exact hy)
   exact⟨m,e,h1,by rw[ib hj,if_neg this];exact h2,by show(aC (x.S.set j _) m).1<_;rw[ib hj,if_neg this];exact h3⟩
  ·show aC (x.S.set j _) m=_∨_;rw[ib hj];by_cases e:m=j
   ·rw[if_pos e];right;show first≤fP _ _∧fP _ _≤_
    have:=h.mK j hjn;rw[hsl]at this;rcases this with e|e
    ·rw[e];simp[fP];omega
    ·unfold fP;split<;>omega
   ·rw[if_neg e];exact h.mK m hm
  ·show(kl (x.S.set j _):Int)+((iY x.F i hn).length:Int)+x.ret=n;simp at hlc;omega
 ·rw[dif_neg hn];exact h
omit hf1 hf2 in
theorem jw.Hf (k:Int):jw n first (jd x k):=by
 unfold jd;by_cases hl:iL x.S k=true
 ·rw[if_pos hl];obtain⟨j,rfl,hj,hd⟩:=wi hl;rw[Int.toNat_natCast];have hjn:j<n:=by rw[←h.len];exact hj
  have hg:=h.mK j hjn;have hg1:first≤(aC x.S j).1∧(aC x.S j).1≤4294967295:=by
   rcases hg with e|e
   ·rw[e]at hd;cases hd
   ·exact e
  have hlc:=wD hj ((aC x.S j).1,false);rw[hd]at hlc;simp at hlc;have hcnt:=h.lj;have hret:=h.qO;generalize(aC x.S j).1=g at*;have hfr:∀y∈x.F,∃m:Nat,y=m∧m≠j∧m<n∧(aC (x.S.set j (g,false)) m).2=false∧(aC (x.S.set j (g,false)) m).1<4294967295:=fun y hy=>by
   obtain⟨m,e,h1,h2,h3⟩:=h.free y hy;have:m≠j:=fun e'=>by rw[e',hd]at h2;cases h2
   refine⟨m,e,this,h1,?_⟩;rw[ib hj,if_neg this];exact⟨h2,h3⟩
  have hgens:∀m,m<n→(aC (x.S.set j (g,false)) m=(0,false))∨(first≤(aC (x.S.set j (g,false)) m).1∧(aC (x.S.set j (g,false)) m).1≤4294967295):=fun m hm=>by
   rw[ib hj];by_cases e:m=j
   ·rw[if_pos e];exact .inr hg1
   ·rw[if_neg e];exact h.mK m hm
  have hsl:(x.S.set j (g,false)).length=n:=by rw[List.length_set];exact h.len
  by_cases hm:g=4294967295
  ·rw[if_pos hm];exact⟨hsl,h.nd,fun y hy=>let ⟨m,e,_,h1,h2,h3⟩:=hfr y hy;⟨m,e,h1,h2,h3⟩,hgens,by show(kl (x.S.set j (g,false)):Int)+(x.F.length:Int)+(x.ret+1)=n;omega,by show 0≤x.ret+1;omega⟩
  ·rw[if_neg hm];refine⟨hsl,?_,fun y hy=> ?_,hgens,by show(kl (x.S.set j (g,false)):Int)+((x.F++[(j:Int)]).length:Int)+x.ret=n;simp;omega,hret⟩
   ·show(x.F++[(j:Int)]).Nodup;rw[List.nodup_append];refine⟨h.nd,by simp,fun y hy z hz e=> ?_⟩;rw[List.mem_singleton.1 hz]at e;obtain⟨m,e1,e2,_⟩:=hfr y hy;omega
   ·rcases List.mem_append.1 hy with hy|hy
    ·obtain⟨m,e,_,h1,h2,h3⟩:=hfr y hy;exact⟨m,e,h1,h2,h3⟩
    ·refine⟨j,List.mem_singleton.1 hy,hjn,?_⟩;show(aC (x.S.set j (g,false)) j).2=false∧(aC (x.S.set j (g,false)) j).1<4294967295;rw[ib hj,if_pos rfl];exact⟨rfl,by show g<_;omega⟩
 ·rw[if_neg hl];exact h
end
end Go.Proofs.YtdehaommhbjakaaGreat.Tb
namespace Go.Proofs.YtdehaommhbjakaaGreat.Tb
open RowKit Stg
section
variable {w:World} {b pb n:Nat} {sl psv:Value} {first:Int} {x:GS} (hS:ej w b first x.S x.F x.ret sl psv pb) (h:jw n first x)
include hS
theorem iH.same {v:Value} {w':World} (hm:Mod [] w w'):iH v b first x.S x.F x.ret sl psv pb w (.returned v) w':=
 ⟨psv,rfl,hm.mono (by simp),hS.mod hm (by simp),fun y hy=>.inl hy⟩
theorem Du (k:Int):Calls Tryz.prog 138 #[.pointer (some ⟨b,0,none⟩),.int .i64 k] w fun e w'=>e=.returned (.tuple #[.int .i64 (if iL x.S k then(aC x.S k.toNat).1 else 0),.bool (iL x.S k)])∧Mod [] w w':=by
 rw[←wT];exact tu hS k
include h
theorem EY (hf1:1≤first) (hf2:first≤4294967295) (d:Int) (hd:0≤d) (hd2:d≤18446744073709551615):Calls Tryz.prog 156 #[.pointer (some ⟨b,0,none⟩),.int .u64 d] w (iH (o6 first x d) b first (jV first x d).S (jV first x d).F (jV first x d).ret sl psv pb w):=by
 unfold jV o6;by_cases hn:0<x.F.length
 ·rw[dif_pos hn,if_pos hn];obtain⟨hi,hj,hp,hF,hjn,hd',hg0,hg1,hsl⟩:=h.pick hf1 hf2 hn d;rw[hsl];refine BG hS d hd hd2 hn _ hp hi _ hF hj hg0 hg1 _ ?_;unfold fP;by_cases h:x.S[bT x.F d].1=0
  ·exact .inl ⟨h,by rw[if_pos h]⟩
  ·exact .inr ⟨h,by rw[if_neg h]⟩
 ·rw[dif_neg hn,if_neg hn];refine(Bp hS (List.length_eq_zero_iff.1 (by omega)) d).mono ?_;rintro e w' ⟨rfl,hm⟩;exact iH.same hS hm
theorem DK (hn:n≤4096) (k:Int):Calls Tryz.prog 182 #[.pointer (some ⟨b,0,none⟩),.int .i64 k] w (iH (.int .i64 (pc x k)) b first (jd x k).S (jd x k).F (jd x k).ret sl psv pb w):=by
 unfold jd pc;by_cases hl:iL x.S k=true
 ·rw[if_pos hl,if_pos hl];obtain⟨j,rfl,hj,hd⟩:=wi hl;have hpos:0<kl x.S:=by
   rw[j1 hj]at hd;exact List.countP_pos_iff.2 ⟨x.S[j],List.getElem_mem hj,hd⟩
  have hcnt:=h.lj;have hret:=h.qO;have he:x.S[j]=((aC x.S j).1,true):=by rw[←j1 hj, ←hd]
  rw[Int.toNat_natCast];by_cases hm:(aC x.S j).1=4294967295
  ·rw[if_pos hm];exact xA hS j hj _ he _ _ hret (by omega) (by omega) (.inl ⟨hm,rfl,rfl⟩)
  ·rw[if_neg hm];exact xA hS j hj _ he _ _ hret (by omega) (by omega) (.inr ⟨hm,rfl,rfl⟩)
 ·rw[if_neg hl,if_neg hl];refine(EX hS k ?_).mono ?_
  ·rw[wT];simp[hl]
  ·rintro e w' ⟨rfl,hm⟩;exact iH.same hS hm
end
theorem Cc {w:World} {b pb:Nat} {sl psv psv':Value} (hf:∀y,psv'.ownBlock=some y→psv.ownBlock=some y∨w.heap.size≤y):∀y∈bQ b pb sl psv',y∈bQ b pb sl psv∨w.heap.size≤y:=fun y hy=>by
 simp only[bQ,List.mem_cons,List.mem_append,Option.mem_toList]at hy⊢;rcases hy with rfl|rfl|hy|hy
 ·simp
 ·simp
 ·simp[hy]
 ·rcases hf y hy with h|h
  ·exact .inl (.inr (.inr (.inr h)))
  ·exact .inr h
theorem kO {w:World} {base sz n:Nat} {e:TypeId} {v:Value} {xs:List Value} (h:w.ownsRow base e sz v n xs):∀g,v.ownBlock=some g→base≤g∧g<w.heap.size:=fun g hg=>by
 rcases dr h with⟨rfl,_⟩|⟨k,cap,rfl,h1,h2,_⟩
 ·simp[Value.ownBlock]at hg
 ·simp[Value.ownBlock]at hg;subst hg;exact⟨h1,h2⟩
theorem ej.tp {w:World} {b pb:Nat} {first ret:Int} {S:List Slot} {F:List Int} {sl psv:Value} (h:ej w b first S F ret sl psv pb):∀y∈bQ b pb sl psv,y<w.heap.size:=fun y hy=>by
 simp only[bQ,List.mem_cons,List.mem_append,Option.mem_toList]at hy;rcases hy with rfl|rfl|hy|hy
 ·exact aL h.aQ
 ·exact aL h.lg.aQ
 ·exact(kO h.row y hy).2
 ·exact(kO h.lg.row y hy).2
end Go.Proofs.YtdehaommhbjakaaGreat.Tb
namespace Go.Proofs.YtdehaommhbjakaaGreat.Tb
open RowKit Stg
section
variable {P:Program}
theorem re (w:World) (t ty e:TypeId) (i:TypeInfo) (z:Value) (bytes:Nat) (ht:P.underlying t=some (.slice e)) (hi:P.info? e=some i) (hz:i.zero=some z)
  (hsize:i.size=1) (hby:i.bytes=bytes) (hzs:z.cells.size=1)
  (v:Value) (n:Nat) (xs:List Value) (hown:w.ownsRow 0 e 1 v n xs)
  (sv:Value) (news:List Value) (hin:j6 w sv news) (h1:∀u∈news,u.oneCell'=true)
  (h63:n+news.length≤maxLen) (hbytes:(n+news.length)*bytes≤140737488355328):
  ∃v' w',(Builtin.append_ #[t,t] ty #[v,sv]).run P w=.ok v' w'∧w'.ownsRow 0 e 1 v' (n+news.length) (xs++news)∧w.grownBy w' v.ownBlock∧∀x,v'.ownBlock=some x→v.ownBlock=some x∨w.heap.size≤x:=by
 rcases hin with⟨rfl,rfl⟩|⟨sb,so,cap,rfl,_,hc⟩
 ·exact⟨v,w,run_append_owned_none w 0 t ty e i 1 ht hi v n xs hown,by simpa using hown,⟨rfl,rfl,rfl,Nat.le_refl _,fun _ _ _=>rfl⟩,fun x hx=>.inl hx⟩
 ·exact gG (P:=P) w t ty e i z 1 bytes ht hi hz hsize hby hzs (by decide) v n xs hown ⟨sb,so,none⟩ news.length cap news (by simp) (fun j u hj=>by rw[eT];exact hc j u hj) h1 h63 hbytes
theorem qW (w:World) {ops:Array Oper} {rest:List Oper} {o:Oper} {a:Act} {Q:Exit→Act→World→Prop} (hgd:o.guard=none) (s x:Operand) (t:TypeId)
  (ho:o.op=.call {callee:=.builtin .append,args:=#[s,x],argTypes:=#[t,t]})
  (e:TypeId) (i:TypeInfo) (z:Value) (bytes:Nat) (ht:P.underlying t=some (.slice e)) (hi:P.info? e=some i) (hz:i.zero=some z)
  (hsize:i.size=1) (hby:i.bytes=bytes) (hzs:z.cells.size=1)
  (v:Value) (n:Nat) (xs:List Value) (hs:a.eval s=v) (hown:w.ownsRow 0 e 1 v n xs)
  (sv:Value) (news:List Value) (hx:a.eval x=sv) (hin:j6 w sv news) (h1:∀u∈news,u.oneCell'=true)
  (h63:n+news.length≤maxLen) (hbytes:(n+news.length)*bytes≤140737488355328)
  (h:∀v' w',w'.ownsRow 0 e 1 v' (n+news.length) (xs++news)→w.grownBy w' v.ownBlock→(∀x,v'.ownBlock=some x→v.ownBlock=some x∨w.heap.size≤x)→wpList P ops Q rest (a.put o.dst v') w'):wpList P ops Q (o::rest) a w:=by
 refine wpList_plain hgd fun K hK=> ?_
 obtain⟨v',w',hr,h2,h3,h4⟩:=re (P:=P) w t o.type e i z bytes ht hi hz hsize hby hzs v n xs hown sv news hin h1 h63 hbytes;unfold Oper.wp execOp;simp only[ho,resolve,invoke,builtin,Sem.run_bind,Sem.run_pure,Result.andThen_ok,List.map_toArray,List.map_cons,List.map_nil,hs,hx,hr];exact hK _ _ (h v' w' h2 h3 h4)
end
theorem j6.mod {w w':World} {sv:Value} {cs:List Value} (h:j6 w sv cs) (hm:Mod [] w w'):j6 w' sv cs:=by
 rcases h with h|⟨sb,so,cap,rfl,h2,h3⟩
 ·exact .inl h
 ·exact .inr ⟨sb,so,cap,rfl,hm.lt h2,fun j u hj=>(bg hm h2 (by simp)).trans (h3 j u hj)⟩
theorem wZ {w:World} {e:TypeId} {v:Value} {xs:List Int} {base n:Nat} (h:w.ownsRow base e 1 v n (xs.map (.int .i64))) (hn:n=xs.length) (hl:xs.length≤1000000):ik w v xs:=by
 subst hn;rcases h.2 with⟨rfl,h2⟩|⟨g,cap,cur,rfl,h2,h3,h4,h5,h6,h7⟩
 ·exact .inl ⟨rfl,List.eq_nil_of_length_eq_zero h2⟩
 ·refine .inr ⟨g,0,cap,rfl,aL h3,hl,fun i hi=> ?_⟩;have hcc:=h.cellAt i (by omega);rw[List.getElem?_map,List.getElem?_eq_getElem hi]at hcc;rw[Nat.zero_add];exact hcc
end Go.Proofs.YtdehaommhbjakaaGreat.Tb
namespace Go.Proofs.YtdehaommhbjakaaGreat.Tb
open RowKit Stg
def oP (S:List Slot):List Value:=S.map fun s=>.int .i64 s.1
def nq (S:List Slot):List Value:=S.map fun s=>.bool s.2
structure fC (w:World) (b:Nat) (first:Int) (S:List Slot) (F:List Int) (ret:Int) (gv lv fv:Value):Prop where
 aQ:w.heap[b]? =some (.cells #[.int .i64 first,gv,lv,fv,.int .i64 ret] 283 (0,0))
 gen:w.ownsRow 0 3 1 gv S.length (oP S)
 live:w.ownsRow 0 4 1 lv S.length (nq S)
 free:ik w fv F
 n1:gv.ownBlock≠some b∧lv.ownBlock≠some b∧fv.ownBlock≠some b
 n2:∀x,gv.ownBlock=some x→lv.ownBlock≠some x∧fv.ownBlock≠some x
 n3:∀x,lv.ownBlock=some x→fv.ownBlock≠some x
def cU (b:Nat) (gv lv fv:Value):List Nat:=b::(gv.ownBlock.toList++(lv.ownBlock.toList++fv.ownBlock.toList))
theorem ik.lt {w:World} {v:Value} {xs:List Int} (h:ik w v xs):∀x,v.ownBlock=some x→x<w.heap.size:=fun x hx=>by
 rcases h with⟨rfl,_⟩|⟨sb,so,cap,rfl,h2,_⟩
 ·simp[Value.ownBlock]at hx
 ·simp[Value.ownBlock]at hx;omega
theorem fC.mod {w w':World} {b:Nat} {first ret:Int} {S:List Slot} {F:List Int} {gv lv fv:Value} {T:List Nat} (h:fC w b first S F ret gv lv fv) (hm:Mod T w w') (hT:∀x∈cU b gv lv fv,x∉T):fC w' b first S F ret gv lv fv:=
 ⟨hm.at h.aQ (hT b (by simp[cU])),aG h.gen hm (fun g hg=>hT g (by simp[cU,hg])),aG h.live hm (fun g hg=>hT g (by simp[cU,hg])),h.free.mod hm (fun g hg=>hT g (by simp[cU,hg])),h.n1,h.n2,h.n3⟩
theorem fC.tp {w:World} {b:Nat} {first ret:Int} {S:List Slot} {F:List Int} {gv lv fv:Value} (h:fC w b first S F ret gv lv fv):∀y∈cU b gv lv fv,y<w.heap.size:=fun y hy=>by
 simp only[cU,List.mem_cons,List.mem_append,Option.mem_toList]at hy;rcases hy with rfl|hy|hy|hy
 ·exact aL h.aQ
 ·exact(kO h.gen y hy).2
 ·exact(kO h.live y hy).2
 ·exact h.free.lt y hy
end Go.Proofs.YtdehaommhbjakaaGreat.Tb
namespace Go.Proofs.YtdehaommhbjakaaGreat.Tb
open RowKit Stg
def qL (v:Value) (b:Nat) (first:Int) (S':List Slot) (F':List Int) (ret':Int) (gv lv fv:Value) (w:World) (e:Ending) (w':World):Prop:=
 ∃fv',e=.returned v∧Mod (cU b gv lv fv) w w'∧fC w' b first S' F' ret' gv lv fv'∧∀x,fv'.ownBlock=some x→fv.ownBlock=some x∨w.heap.size≤x
section
variable {w:World} {b:Nat} {first ret:Int} {S:List Slot} {F:List Int} {gv lv fv:Value} (h:fC w b first S F ret gv lv fv)
include h
theorem fC.eS {g cap:Nat} (hlv:lv=.slice (some ⟨g,0,none⟩) S.length cap) {j:Nat} (hj:j<S.length):w.cell? ⟨g,j,none⟩=some (.bool (aC S j).2)∧w.frozen? ⟨g,j,none⟩=false∧g<w.heap.size:=by
 have:=h.live;rw[hlv]at this;exact⟨(this.cellAt j (by omega)).trans (by simp[nq,j1 hj,hj]),this.frozenAt j,(this.lt g rfl).2⟩
end
theorem CE {first d:Int} {x:GS} (h:0<x.F.length):o6 first x d=.tuple #[.int .i64 (bT x.F d),.int .i64 (fP first (aC x.S (bT x.F d)).1),.int .i64 0]:=if_pos h
theorem Cr {first d:Int} {x:GS} (h:x.F=[]):o6 first x d=.tuple #[.int .i64 0,.int .i64 0,.int .i64 17]:=if_neg (by simp[h])
theorem sD {first d:Int} {x:GS} (h:0<x.F.length):jV first x d=⟨x.S.set (bT x.F d) (fP first (aC x.S (bT x.F d)).1,true),iY x.F (jP x.F d) h,x.ret⟩:=dif_pos h
theorem C7 {first d:Int} {x:GS} (h:x.F=[]):jV first x d=x:=dif_neg (by simp[h])
theorem qL.same {w:World} {b:Nat} {first ret:Int} {S:List Slot} {F:List Int} {gv lv fv v:Value} (h:fC w b first S F ret gv lv fv) {w':World} (hm:Mod [] w w'):qL v b first S F ret gv lv fv w (.returned v) w':=
 ⟨fv,rfl,hm.mono (by simp),h.mod hm (by simp),fun x hx=>.inl hx⟩
end Go.Proofs.YtdehaommhbjakaaGreat.Tb
