/- Joined contracts. No conditions. -/
import Derived.Test.YteidpgdfocjdbaaGreatCS
import Derived.Test.YteidpgdfocjdbaaGreatC01
import Derived.Test.YteidpgdfocjdbaaGreatC06
import Derived.Test.YteidpgdfocjdbaaGreatC07
import Derived.Test.YteidpgdfocjdbaaGreatC13
import Derived.Test.YteidpgdfocjdbaaGreatC17
import Derived.Test.YteidpgdfocjdbaaGreatC18
namespace Go.Proofs.YteidpgdfocjdbaaGreat
open Go Go.RowKit Go.Stg
def overlay (l:List Int) (off:Nat) (b:List Int):List Int:=l.take off++b++l.drop (off+b.length)
theorem overlay_len {l b:List Int} {off:Nat} (h:off+b.length≤l.length):(overlay l off b).length=l.length:=by
 unfold overlay;simp;omega
theorem overlay_get {l b:List Int} {off:Nat} (h:off+b.length≤l.length) (x:Nat):(overlay l off b).getD x 0=if off≤x∧x<off+b.length then b.getD (x-off) 0 else l.getD x 0:=by
 unfold overlay;simp only[List.getD_eq_getElem?_getD];by_cases h1:x<off
 ·rw[if_neg (by omega),List.append_assoc,List.getElem?_append_left (by simp;omega),List.getElem?_take,if_pos h1]
 ·by_cases h2:x<off+b.length
  ·rw[if_pos ⟨by omega,h2⟩,List.getElem?_append_left (by simp;omega),List.getElem?_append_right (by simp;omega)];simp[show min off l.length=off by omega]
  ·rw[if_neg (by omega),List.getElem?_append_right (by simp;omega),List.getElem?_drop];congr 2;simp;omega
theorem overlay_mem {l b:List Int} {off:Nat} {P:Int→Prop} (hl:∀x∈l,P x) (hb:∀x∈b,P x):∀x∈overlay l off b,P x:=by
 intro x hx;unfold overlay at hx;rcases List.mem_append.1 hx with hx|hx
 ·rcases List.mem_append.1 hx with hx|hx
  ·exact hl x (List.mem_of_mem_take hx)
  ·exact hb x hx
 ·exact hl x (List.mem_of_mem_drop hx)
theorem ext_getD {l m:List Int} (hl:l.length=m.length) (h:∀i,i<l.length→l.getD i 0=m.getD i 0):l=m:=by
 apply List.ext_getElem hl;intro i h1 h2;have:=h i h1;simpa[List.getD_eq_getElem?_getD,List.getElem?_eq_getElem h1,List.getElem?_eq_getElem h2]using this
theorem cut_get (l:List Int) (p n i:Nat) (hi:i<n):((l.drop p).take n).getD i 0=l.getD (p+i) 0:=by
 simp only[List.getD_eq_getElem?_getD,List.getElem?_take,if_pos hi,List.getElem?_drop]
abbrev Ob:=Ext×List Int
structure ArIs (size:Int) (O:List Ob) (B:List Int):Prop where
 len:(B.length:Int)=size
 byte:∀b∈B,0≤b∧b≤255
 obj:∀o∈O,∀i:Nat,(i:Int)<o.1.2→B.getD (o.1.1.toNat+i) 0=o.2.getD i 0
 rest:∀x:Nat,¬inS x (O.map (·.1))→B.getD x 0=0
section
variable {size:Int} {A C O:List Ob} {B:List Int} {o:Ob}
theorem ArIs.at (hu:UsedOk size (O.map (·.1))) (ho:o∈O):0≤o.1.1∧0<o.1.2∧o.1.1+o.1.2≤size:=by
 obtain⟨⟨h1,h2,_⟩,h3⟩:=hu.ok o.1 (List.mem_map_of_mem ho);exact⟨h1,h2,h3⟩
theorem ArIs.read (h:ArIs size O B) (hu:UsedOk size (O.map (·.1))) (ho:o∈O) {p n:Nat} (hp:p+n≤o.2.length) (hl:(o.2.length:Int)≤o.1.2):(B.drop (o.1.1.toNat+p)).take n=(o.2.drop p).take n:=by
 have hb:=ArIs.at hu ho;have hlen:=h.len;refine ext_getD (by simp;omega) fun i hi=> ?_
 simp only[List.length_take,List.length_drop]at hi;rw[cut_get _ _ _ _ (by omega),cut_get _ _ _ _ (by omega),Nat.add_assoc,h.obj o ho (p+i) (by omega)]
theorem ArIs.perm {O':List Ob} (h:ArIs size O B) (p:O.Perm O'):ArIs size O' B:=
 ⟨h.len,h.byte,fun o ho=>h.obj o (p.mem_iff.2 ho),fun x hx=>h.rest x fun hi=>hx ((inS_perm (p.map _) _).1 hi)⟩
theorem perm_front (A C:List Ob) (o:Ob):(A++o::C).Perm (o::(A++C)):=List.perm_middle
theorem others (hu:UsedOk size ((o::O).map (·.1))) {q:Ob} (hq:q∈O) {i:Nat} (hi:(i:Int)<q.1.2):¬(o.1.1≤((q.1.1.toNat+i:Nat):Int)∧((q.1.1.toNat+i:Nat):Int)<o.1.1+o.1.2):=by
 intro hm;have h1:=ArIs.at hu (o:=o) (by simp);have h2:=ArIs.at hu (o:=q) (by simp[hq]);have hd:=(List.pairwise_cons.1 (show(o.1::O.map (·.1)).Pairwise (fun a b=>¬meets a b)from hu.dis)).1 q.1 (List.mem_map_of_mem hq);exact hd ((meets_iff h1.2.1 h2.2.1).2 ⟨((q.1.1.toNat+i:Nat):Int),by unfold inE;omega,by unfold inE;omega⟩)
theorem ArIs.write0 (h:ArIs size (o::O) B) (hu:UsedOk size ((o::O).map (·.1))) {p:Nat} {b:List Int} (hp:p+b.length≤o.2.length) (hl:(o.2.length:Int)≤o.1.2) (hb:∀x∈b,0≤x∧x≤255):
  ArIs size ((o.1,overlay o.2 p b)::O) (overlay B (o.1.1.toNat+p) b):=by
 have h1:=ArIs.at hu (o:=o) (by simp);have hlen:=h.len;have hfit:o.1.1.toNat+p+b.length≤B.length:=by omega
 refine⟨by rw[overlay_len hfit];exact hlen,overlay_mem h.byte hb,fun q hq i hi=> ?_,fun x hx=> ?_⟩
 ·rw[overlay_get hfit];rcases List.mem_cons.1 hq with rfl|hq
  ·simp only at hi⊢;rw[overlay_get hp];by_cases c:p≤i∧i<p+b.length
   ·rw[if_pos (by omega),if_pos c];congr 1;omega
   ·rw[if_neg (by omega),if_neg c,h.obj o (by simp) i hi]
  ·have:=others hu hq hi;rw[if_neg (by omega),h.obj q (by simp[hq]) i hi]
 ·have hx':¬inS x ((o::O).map (·.1)):=by simpa using hx
  rw[overlay_get hfit,if_neg,h.rest x hx'];intro hc;exact hx' ⟨o.1,by simp,by unfold inE;omega⟩
theorem ArIs.write (h:ArIs size (A++o::C) B) (hu:UsedOk size ((A++o::C).map (·.1))) {p:Nat} {b:List Int} (hp:p+b.length≤o.2.length) (hl:(o.2.length:Int)≤o.1.2) (hb:∀x∈b,0≤x∧x≤255):
  ArIs size (A++(o.1,overlay o.2 p b)::C) (overlay B (o.1.1.toNat+p) b):=
 ((h.perm (perm_front A C o)).write0 (hu.perm ((perm_front A C o).map _)) hp hl hb).perm (perm_front A C _).symm
theorem ArIs.alloc {x:Ext} {n:Nat} (h:ArIs size (A++C) B) (hu:UsedOk size ((A++(x,List.replicate n 0)::C).map (·.1))):ArIs size (A++(x,List.replicate n 0)::C) B:=by
 refine ArIs.perm (O:=(x,List.replicate n 0)::(A++C)) ⟨h.len,h.byte,fun q hq i hi=> ?_,fun y hy=>h.rest y fun hi=>hy ?_⟩ (perm_front A C _).symm
 ·rcases List.mem_cons.1 hq with rfl|hq
  ·have hu':=hu.perm ((perm_front A C _).map _);have h1:=ArIs.at hu' (o:=(x,List.replicate n 0)) (by simp);simp only at hi h1⊢;have e0:(List.replicate n (0:Int)).getD i 0=0:=by
    simp only[List.getD_eq_getElem?_getD,List.getElem?_replicate];split<;>rfl
   rw[e0];refine h.rest _ fun hin=> ?_
   obtain⟨e,he,hxe⟩:=hin;obtain⟨q,hq,rfl⟩:=List.mem_map.1 he;have h2:=ArIs.at hu' (o:=q) (List.mem_cons_of_mem _ hq);have hd:=(List.pairwise_cons.1 (show(x::(A++C).map (·.1)).Pairwise (fun a b=>¬meets a b)from hu'.dis)).1 q.1 (List.mem_map_of_mem hq);exact hd ((meets_iff h1.2.1 h2.2.1).2 ⟨_,by unfold inE;omega,hxe⟩)
  ·exact h.obj q hq i hi
 ·obtain⟨e,he,hxe⟩:=hi;exact⟨e,by rw[List.map_cons];exact List.mem_cons_of_mem _ he,hxe⟩
theorem ArIs.free (h:ArIs size (A++o::C) B) (hu:UsedOk size ((A++o::C).map (·.1))):ArIs size (A++C) (overlay B o.1.1.toNat (List.replicate o.1.2.toNat 0)):=by
 replace h:=h.perm (perm_front A C o);replace hu:=hu.perm ((perm_front A C o).map _);have h1:=ArIs.at hu (o:=o) (by simp);have hlen:=h.len;have hfit:o.1.1.toNat+(List.replicate o.1.2.toNat (0:Int)).length≤B.length:=by rw[List.length_replicate];omega
 refine⟨by rw[overlay_len hfit];exact hlen,overlay_mem h.byte fun x hx=>by rw[List.eq_of_mem_replicate hx];omega,fun q hq i hi=> ?_,fun x hx=> ?_⟩
 ·have:=others hu hq hi;rw[overlay_get hfit,List.length_replicate,if_neg (by omega),h.obj q (List.mem_cons_of_mem _ hq) i hi]
 ·rw[overlay_get hfit,List.length_replicate];by_cases c:o.1.1.toNat≤x∧x<o.1.1.toNat+o.1.2.toNat
  ·rw[if_pos c];simp only[List.getD_eq_getElem?_getD,List.getElem?_replicate];split<;>rfl
  ·rw[if_neg c];refine h.rest x fun hi=> ?_
   rw[List.map_cons,inS_cons]at hi;rcases hi with hi|hi
   ·unfold inE at hi;omega
   ·exact hx hi
end
def little:List Int→Int
 | []=>0
 |b::l=>b+256*little l
theorem little_snoc (b:Int):∀l:List Int,little (l++[b])=little l+b*256^l.length
 | []=>by simp[little]
 |a::l=>by
  rw[List.cons_append,little,little,little_snoc b l,List.length_cons,Int.pow_succ,Int.mul_add,Int.mul_comm 256 (b*_),Int.mul_assoc,Int.add_assoc]
theorem little_range:∀(l:List Int),(∀b∈l,0≤b∧b≤255)→0≤little l∧little l<256^l.length
 | [],_=>by simp[little]
 |a::l,h=>by
  have h1:=h a (by simp);have h2:=little_range l fun b hb=>h b (List.mem_cons_of_mem _ hb)
  rw[little,List.length_cons,Int.pow_succ];omega
def leB (v:Int):Nat→List Int
 |0=>[]
 |k+1=>v%256::leB (v/256) k
theorem leB_len (v:Int) (k:Nat):(leB v k).length=k:=by
 induction k generalizing v with
 |zero=>rfl
 |succ k ih=>simp[leB,ih]
theorem leB_bytes (v:Int) (k:Nat):∀b∈leB v k,0≤b∧b≤255:=by
 induction k generalizing v with
 |zero=>simp[leB]
 |succ k ih=>
  intro b hb;rcases List.mem_cons.1 hb with rfl|hb
  ·omega
  ·exact ih _ b hb
theorem leB_snoc (v:Int) (k:Nat):leB v (k+1)=leB v k++[v/256^k%256]:=by
 induction k generalizing v with
 |zero=>simp[leB]
 |succ k ih=>
  rw[leB,ih,leB,List.cons_append,Int.ediv_ediv_of_nonneg (by omega), ←Int.pow_succ']
end Go.Proofs.YteidpgdfocjdbaaGreat
namespace Go.Proofs.YteidpgdfocjdbaaGreat
open Go Go.RowKit Go.Stg
def sizeStep (s:Int):Int:=if s<128 then 16 else if s<2048 then s else 2048
def sizesFrom (s:Int):Nat→List Int
 |0=>[]
 |k+1=>s::sizesFrom (s+sizeStep s) k
def sizesL:List Int:=sizesFrom 16 43
theorem sizes_len:sizesL.length=43:=by decide
def sizeAt (k:Nat):Int:=sizesL.getD k 0
theorem sizes_facts:∀k:Fin 43,16≤sizeAt k∧sizeAt k≤65536∧sizeAt k%16=0∧(k.1+1<43→sizeAt (k.1+1)=sizeAt k+sizeStep (sizeAt k)):=by decide
theorem size_at {k:Nat} (hk:k<43):16≤sizeAt k∧sizeAt k≤65536∧sizeAt k%16=0:=let h:=sizes_facts ⟨k,hk⟩;⟨h.1,h.2.1,h.2.2.1⟩
theorem size_next {k:Nat} (hk:k+1<43):sizeAt (k+1)=sizeAt k+sizeStep (sizeAt k):=(sizes_facts ⟨k,by omega⟩).2.2.2 hk
theorem size_last:sizeAt 42=65536:=by decide
theorem sizeStep_pos {k:Nat} (hk:k<43):16≤sizeStep (sizeAt k)∧sizeStep (sizeAt k)≤2048:=by
 have:=size_at hk;unfold sizeStep;split
 ·omega
 ·split<;>omega
theorem size_asc:∀ {i j:Nat},i<j→j<43→sizeAt i<sizeAt j
 |i,0,h,_=>by omega
 |i,j+1,h,hj=>by
  have h1:=size_next hj;have h2:=sizeStep_pos (k:=j) (by omega);by_cases hij:i=j
  ·subst hij;omega
  ·have:=size_asc (i:=i) (j:=j) (by omega) (by omega);omega
def classN (n:Int):Nat:=(sizesL.filter fun s=>decide (s<n)).length
theorem class_spec {n:Int} (_h0:1≤n) (hn:n≤65536):classN n<43∧n≤sizeAt (classN n)∧∀k,k<classN n→sizeAt k<n:=by
 have key:∀(m s:Nat),m+s=43→∀l:List Int,(∀i,i<m→l[i]? =some (sizeAt (s+i)))→l.length=m→(∀k,k<s→sizeAt k<n)→
   s+(l.filter fun x=>decide (x<n)).length<43∧n≤sizeAt (s+(l.filter fun x=>decide (x<n)).length)∧∀k,k<s+(l.filter fun x=>decide (x<n)).length→sizeAt k<n:=by
  intro m;induction m with
  |zero=>
   intro s hs l _ _ hk;exfalso;have:=hk 42 (by omega);rw[size_last]at this;omega
  |succ m ih=>
   intro s hs l hl hlen hk;match l,hl,hlen with
   |x::l,hl,hlen=>
    have hx:x=sizeAt s:=by have:=hl 0 (by omega);simpa using this
    by_cases hlt:sizeAt s<n
    ·have:=ih (s+1) (by omega) l (fun i hi=>by have:=hl (i+1) (by omega);simp at this;rw[this];congr 2;omega) (by simpa using hlen) (fun k hk'=>by
      by_cases hks:k=s
      ·subst hks;exact hlt
      ·exact hk k (by omega))
     rw[List.filter_cons_of_pos (by rw[hx];simpa using hlt),List.length_cons];rw[show s+((l.filter fun x=>decide (x<n)).length+1)=s+1+(l.filter fun x=>decide (x<n)).length by omega];exact this
    ·have hnil:l.filter (fun x=>decide (x<n))=[]:=by
      rw[List.filter_eq_nil_iff];intro y hy;obtain⟨i,hi⟩:=List.mem_iff_getElem?.1 hy;have hi':i<m:=by have:=(List.getElem?_eq_some_iff.1 hi).1;simp at hlen;omega
      have:=hl (i+1) (by omega);simp[hi]at this;have hlt2:=size_asc (i:=s) (j:=s+(i+1)) (by omega) (by omega);simp;omega
     rw[List.filter_cons_of_neg (by rw[hx];simpa using hlt),hnil];simp;exact⟨by omega,by omega,hk⟩
 have:=key 43 0 rfl sizesL (fun i hi=>by
  unfold sizeAt;have:i<sizesL.length:=by rw[sizes_len];exact hi
  simp[List.getD_eq_getElem?_getD,List.getElem?_eq_getElem this]) sizes_len (by omega)
 simpa[classN]using this
def roundE (n:Int):Int:=if n<1 then 1 else if 65536<n then 4 else 0
def roundN (n:Int):Int:=if n<1 then 0 else if 65536<n then 0 else sizeAt (classN n)
theorem round_spec {n:Int} (h0:1≤n) (hn:n≤65536):roundE n=0∧n≤roundN n∧16≤roundN n∧roundN n≤65536:=by
 have h:=class_spec h0 hn;have h2:=size_at h.1;unfold roundE roundN;rw[if_neg (by omega),if_neg (by omega),if_neg (by omega),if_neg (by omega)];exact⟨rfl,h.2.1,h2.1,h2.2.1⟩
theorem round_at {n:Int} {k:Nat} (hk:k<43) (hn:n≤sizeAt k) (hlow:∀j,j<k→sizeAt j<n) (h0:1≤n):roundN n=sizeAt k∧roundE n=0∧classN n=k:=by
 have h2:=size_at hk;have h:=class_spec h0 (by omega);have:classN n=k:=by
  rcases Nat.lt_trichotomy (classN n) k with hlt|he|hgt
  ·have:=hlow _ hlt;omega
  ·exact he
  ·have:=h.2.2 k hgt;omega
 unfold roundE roundN;rw[if_neg (by omega),if_neg (by omega),if_neg (by omega),if_neg (by omega),this];exact⟨rfl,rfl,rfl⟩
end Go.Proofs.YteidpgdfocjdbaaGreat
namespace Go.Proofs.YteidpgdfocjdbaaGreat
open Go Go.RowKit Go.Stg
def encN (n:Nat):List Int:=if _h:n<128 then [(n:Int)]else((n%128+128:Nat):Int)::encN (n/128)
termination_by n
decreasing_by omega
theorem encN_last {n:Nat} (h:n<128):encN n=[(n:Int)]:=by rw[encN];simp[h]
theorem encN_more {n:Nat} (h:¬n<128):encN n=((n%128+128:Nat):Int)::encN (n/128):=by rw[encN];simp[h]
theorem encN_len:∀(k n:Nat),n<128^(k+1)→(encN n).length≤k+1
 |0,n,h=>by rw[encN_last (by simpa using h)];simp
 |k+1,n,h=>by
  by_cases hn:n<128
  ·rw[encN_last hn];simp
  ·rw[encN_more hn,List.length_cons];have:=encN_len k (n/128) (by rw[Nat.pow_succ]at h;omega);omega
theorem encN_len64 {n:Nat} (h:n<18446744073709551616):1≤(encN n).length∧(encN n).length≤10:=by
 refine⟨?_,Nat.le_trans (encN_len 9 n (by omega)) (Nat.le_refl _)⟩;rw[encN];split<;>simp
theorem encN_bytes:∀(k n:Nat),n<128^(k+1)→∀b∈encN n,0≤b∧b≤255
 |0,n,h=>by rw[encN_last (by simpa using h)];intro b hb;simp at hb h;omega
 |k+1,n,h=>by
  by_cases hn:n<128
  ·rw[encN_last hn];intro b hb;simp at hb;omega
  ·rw[encN_more hn];intro b hb;rcases List.mem_cons.1 hb with rfl|hb
   ·omega
   ·exact encN_bytes k (n/128) (by rw[Nat.pow_succ]at h;omega) b hb
theorem encN_bytes64 {n:Nat} (h:n<18446744073709551616):∀b∈encN n,0≤b∧b≤255:=encN_bytes 9 n (by omega)
structure Ev where
 p:Int
 op:Int
 h:Int
 arg:Int
 err:Int
def Ev.ok (e:Ev):Prop:=(1≤e.p∧e.p≤64)∧((1≤e.op∧e.op≤11)∨e.op=32∨e.op=33)∧(0≤e.h∧e.h≤18446744073709551615)∧(0≤e.arg∧e.arg≤18446744073709551615)∧(0≤e.err∧e.err≤29)
def Ev.counts (e:Ev):Bool:=decide (e.op≠32)&&decide (e.op≠33)
def encEv (e:Ev):List Int:=encN e.p.toNat++encN e.op.toNat++encN e.h.toNat++encN e.arg.toNat++encN e.err.toNat
theorem encEv_len {e:Ev} (h:e.ok):5≤(encEv e).length∧(encEv e).length≤50:=by
 obtain⟨h1,h2,h3,h4,h5⟩:=h;have k1:=encN_len64 (n:=e.p.toNat) (by omega);have k2:=encN_len64 (n:=e.op.toNat) (by omega);have k3:=encN_len64 (n:=e.h.toNat) (by omega);have k4:=encN_len64 (n:=e.arg.toNat) (by omega);have k5:=encN_len64 (n:=e.err.toNat) (by omega);simp only[encEv,List.length_append];omega
theorem encEv_bytes {e:Ev} (h:e.ok):∀b∈encEv e,0≤b∧b≤255:=by
 obtain⟨h1,h2,h3,h4,h5⟩:=h;intro b hb;simp only[encEv,List.mem_append]at hb;rcases hb with(((hb|hb)|hb)|hb)|hb
 ·exact encN_bytes64 (n:=e.p.toNat) (by omega) b hb
 ·exact encN_bytes64 (n:=e.op.toNat) (by omega) b hb
 ·exact encN_bytes64 (n:=e.h.toNat) (by omega) b hb
 ·exact encN_bytes64 (n:=e.arg.toNat) (by omega) b hb
 ·exact encN_bytes64 (n:=e.err.toNat) (by omega) b hb
def recs (evs:List Ev) (p:Int):Nat:=(evs.filter fun e=>decide (e.p=p)&&e.counts).length
def missN (ms:List Int) (p:Int):Nat:=(ms.filter fun q=>decide (q=p)).length
theorem recs_snoc (evs:List Ev) (e:Ev) (p:Int):recs (evs++[e]) p=recs evs p+(if e.p=p∧e.counts=true then 1 else 0):=by
 unfold recs;rw[List.filter_append,List.length_append];congr 1;by_cases h:e.p=p∧e.counts=true
 ·rw[if_pos h,List.filter_cons_of_pos (by simp[h.1,h.2])];rfl
 ·rw[if_neg h,List.filter_cons_of_neg (by simpa using h)];rfl
theorem missN_snoc (ms:List Int) (q p:Int):missN (ms++[q]) p=missN ms p+(if q=p then 1 else 0):=by
 unfold missN;rw[List.filter_append,List.length_append];congr 1;by_cases h:q=p
 ·rw[if_pos h,List.filter_cons_of_pos (by simp[h])];rfl
 ·rw[if_neg h,List.filter_cons_of_neg (by simpa using h)];rfl
end Go.Proofs.YteidpgdfocjdbaaGreat
namespace Go.Proofs.YteidpgdfocjdbaaGreat
open Go Go.RowKit Go.Stg
structure HC where
 n:Nat
 first:Int
 size:Int
 lim:Qt.Q
 cap:Int
structure HC.Ok (c:HC):Prop where
 n:c.n≤4096
 f1:1≤c.first
 f2:c.first≤4294967295
 s0:0≤c.size
 s1:c.size≤1048576
 lim:c.lim.pos
 c0:0≤c.cap
 c1:c.cap≤65536
structure HS where
 R:List Ty.Ty
 T:Tb.TS
 L:List Bw.Bor
 evs:List Ev
 miss:List Int
 mem:List (List Int)
 st:Int→Int
def extE (e:Tb.Ent):Ext:=(e.off,e.len)
def liveAt (x:Tb.TS) (j:Nat):Option Tb.Ent:=if(Tb.slotN x.g.S j).2 then some (Tb.entN x.E j)else none
theorem liveL_eq (x:Tb.TS) (k:Nat):Tb.liveL x k=(List.range k).filterMap (liveAt x):=rfl
theorem filterMap_same {α β:Type} {f g:α→Option β}:∀ {l:List α},(∀a∈l,f a=g a)→l.filterMap f=l.filterMap g
 | [],_=>rfl
 |a::l,h=>by rw[List.filterMap_cons,List.filterMap_cons,h a (by simp),filterMap_same fun x hx=>h x (List.mem_cons_of_mem _ hx)]
theorem range_split {n j:Nat} (hj:j<n):List.range n=List.range j++j::(List.range n).drop (j+1):=by
 have h:=List.take_append_drop j (List.range n);rw[List.take_range,Nat.min_eq_left (by omega),List.drop_eq_getElem_cons (by simpa using hj),List.getElem_range]at h;exact h.symm
theorem live_mem {x:Tb.TS} {n:Nat} {e:Tb.Ent}:e∈Tb.liveL x n↔∃j,j<n∧liveAt x j=some e:=by
 rw[liveL_eq,List.mem_filterMap];constructor
 ·rintro⟨j,h1,h2⟩;exact⟨j,List.mem_range.1 h1,h2⟩
 ·rintro⟨j,h1,h2⟩;exact⟨j,List.mem_range.2 h1,h2⟩
theorem liveAt_some {x:Tb.TS} {j:Nat} {e:Tb.Ent} (h:liveAt x j=some e):(Tb.slotN x.g.S j).2=true∧e=Tb.entN x.E j:=by
 unfold liveAt at h;split at h
 ·rename_i hl;exact⟨hl,(Option.some.inj h).symm⟩
 ·cases h
theorem liveAt_of {x:Tb.TS} {j:Nat} (h:(Tb.slotN x.g.S j).2=true):liveAt x j=some (Tb.entN x.E j):=by unfold liveAt;rw[if_pos h]
theorem liveAt_no {x:Tb.TS} {j:Nat} (h:(Tb.slotN x.g.S j).2=false):liveAt x j=none:=by unfold liveAt;rw[h];rfl
def sumLen (p:Int) (E:List Tb.Ent):Int:=((E.filter fun e=>decide (e.owner=p)).map (·.len)).sum
def cntOwn (p:Int) (E:List Tb.Ent):Int:=((E.filter fun e=>decide (e.owner=p)).length:Nat)
def hasOf (E:List Tb.Ent) (L:List Bw.Bor) (p:Int):Qt.Q:=⟨sumLen p E,cntOwn p E,((Bw.heldH L p).length:Nat)⟩
theorem sumLen_app (p:Int) (A C:List Tb.Ent):sumLen p (A++C)=sumLen p A+sumLen p C:=by simp[sumLen,List.filter_append]
theorem cntOwn_app (p:Int) (A C:List Tb.Ent):cntOwn p (A++C)=cntOwn p A+cntOwn p C:=by simp[cntOwn,List.filter_append]
theorem sumLen_one (p:Int) (e:Tb.Ent):sumLen p [e]=if e.owner=p then e.len else 0:=by
 unfold sumLen;by_cases h:e.owner=p<;>simp[h]
theorem cntOwn_one (p:Int) (e:Tb.Ent):cntOwn p [e]=if e.owner=p then 1 else 0:=by
 unfold cntOwn;by_cases h:e.owner=p<;>simp[h]
section
variable (c:HC) (s:HS)
def liveE:List Tb.Ent:=Tb.liveL s.T c.n
def usedH:List Ext:=(liveE c s).map extE
noncomputable def freeH:List Ext:=frOf c.size (usedH c s)
def hasH (p:Int):Qt.Q:=hasOf (liveE c s) s.L p
def setI (f:Int→Int) (p v:Int):Int→Int:=fun k=>if k=p then v else f k
def u64 (n:Int):Int:=n%18446744073709551616
def room (p:Int):Bool:=decide ((recs s.evs p:Int)<c.cap)
def logA (e:Ev):HS:=if(!e.counts||room c s e.p)=true then {s with evs:=s.evs++[e]}else {s with miss:=s.miss++[e.p]}
def act (p op h arg:Int) (r:Int×HS):Int×HS:=
 if s.st p≠1 then(15,s)else if room c s p=false then(19,{s with miss:=s.miss++[p]})else(r.1,logA c r.2 ⟨p,op,h,arg,r.1⟩)
def actQ (p op h arg:Int) (e:Int):Int×HS:=
 if s.st p≠1 then(15,s)else if e=0 then(0,s)else(e,logA c s ⟨p,op,h,arg,e⟩)
def entH (o:Int):Tb.Ent:=Tb.resN s.T o
def accD (p o a:Int):Int:=if Tb.resE s.T o=0 then Bw.accE s.L (Tb.hSlot o) p (decide ((entH s o).owner=p)) a else Tb.resE s.T o
def tyTag (tag:Int):Ty.Ty:=Ty.lookT s.R tag
def sizeTag (tag:Int):Int:=Ty.sizeT (tyTag s tag).1 (tyTag s tag).2
def tyH (o:Int):Ty.Ty:=tyTag s (entH s o).tag
def sizeH (o:Int):Int:=sizeTag s (entH s o).tag
def memH (j:Nat):List Int:=s.mem.getD j []
def bytesH (o:Int):List Int:=memH s (Tb.hSlot o).toNat
def otherE (p q:Int):Int:=if q=p∨s.st q≠1 then 15 else 0
def wq (len:Int):Qt.Q:=⟨len,1,0⟩
def bq:Qt.Q:=⟨0,0,1⟩
def startD (p:Int):Int×HS:=
 if p<1∨64<p then(15,s)else if s.st p≠0 then(28,s)else(0,{s with st:=setI s.st p 1,evs:=s.evs++[⟨p,32,0,0,0⟩]})
noncomputable def allocE (p tag:Int):Int:=
 if Ty.lookE s.R tag≠0 then 20 else if Qt.fitsE c.lim (hasH c s p) (wq (roundN (sizeTag s tag)))≠0 then 16 else if s.T.g.F.length=0 then 17 else if bestP (roundN (sizeTag s tag)) (freeH c s)=none then 18 else 0
noncomputable def allocX (tag:Int):Ext:=(((bestP (roundN (sizeTag s tag)) (freeH c s)).getD (0,0)).1,roundN (sizeTag s tag))
noncomputable def allocH (p tag d:Int):Int:=if allocE c s p tag=0 then Tb.issH c.first s.T p tag d else 0
noncomputable def allocS (p tag d:Int):HS:=
 if allocE c s p tag=0 then {s with T:=Tb.issT c.first s.T p tag (allocX c s tag).1 (allocX c s tag).2 d,mem:=s.mem.set (Tb.pickS s.T.g.F d) (List.replicate (sizeTag s tag).toNat 0)}
 else s
noncomputable def opAlloc (p tag d:Int):Int×HS:=act c s p 1 (allocH c s p tag d) (u64 tag) (allocE c s p tag,allocS c s p tag d)
noncomputable def opAllocH (p tag d:Int):Int:=if(opAlloc c s p tag d).1=0 then allocH c s p tag d else 0
def placeI (t:Ty.Ty) (i:Int):Int×Int×Int:=
 if 0<t.1 then(i*Ty.wid (Ty.hd t.2),Ty.wid (Ty.hd t.2),(Ty.hd t.2).1)
 else(Ty.upI (Ty.runL (t.2.take i.toNat)).1 (Ty.ali (t.2.getD i.toNat (0,0))),Ty.wid (t.2.getD i.toNat (0,0)),(t.2.getD i.toNat (0,0)).1)
def fieldE (p o a i:Int):Int:=if accD s p o a≠0 then accD s p o a else if Ty.placeE (tyH s o).1 (tyH s o).2 i≠0 then Ty.placeE (tyH s o).1 (tyH s o).2 i else if(placeI (tyH s o) i).2.2=6 then 8 else 0
def cutB (l:List Int) (off n:Int):List Int:=(l.drop off.toNat).take n.toNat
def getV (o i:Int):Int:=little (cutB (bytesH s o) (placeI (tyH s o) i).1 (placeI (tyH s o) i).2.1)
def opGet (p o i:Int):Int×HS:=actQ c s p 3 o (u64 i) (fieldE s p o 1 i)
def opGetV (p o i:Int):Int:=if(opGet c s p o i).1=0 then getV s o i else 0
def putD (o off:Int) (b:List Int):HS:={s with mem:=s.mem.set (Tb.hSlot o).toNat (overlay (bytesH s o) off.toNat b)}
def fitW (v w:Int):Bool:=decide (8≤w)||decide (v<256^w.toNat)
def setD (p o i v:Int):Int×HS:=
 if fieldE s p o 2 i≠0 then(fieldE s p o 2 i,s)else if fitW v (placeI (tyH s o) i).2.1=false then(9,s)else(0,putD s o (placeI (tyH s o) i).1 (leB v (placeI (tyH s o) i).2.1.toNat))
def opSet (p o i v:Int):Int×HS:=act c s p 4 o (u64 i) (setD s p o i v)
def lendD (p o q a m:Int):Int×HS:=
 if accD s p o a≠0 then(accD s p o a,s)else if otherE s p q≠0 then(15,s)
 else if(Bw.getB s.L (Tb.hSlot o,q)).isSome=false∧Qt.fitsE c.lim (hasH c s q) bq≠0 then(16,s)
 else(Bw.lendE s.L (Tb.hSlot o) m,{s with L:=Bw.lendL s.L (Tb.hSlot o) q m})
def opShare (p o q:Int):Int×HS:=act c s p 9 o (u64 q) (lendD c s p o q 4 1)
def releaseD (p o:Int):Int×HS:=
 if Tb.resE s.T o≠0 then(Tb.resE s.T o,s)else if Bw.relE s.L (Tb.hSlot o,p)≠0 then(13,s)
 else(0,{s with L:=Bw.relL s.L (Tb.hSlot o,p)})
def opRelease (p o:Int):Int×HS:=act c s p 11 o 0 (releaseD s p o)
def defS (t:Ty.Ty):HS:={s with R:=Ty.regN s.R t}
end
def newS (c:HC):HS:=⟨[],Tb.start c.n,[],[],[],List.replicate c.n [],fun _=>0⟩
structure HInv (c:HC) (k:Nat) (s:HS):Prop where
 tin:Tb.TInv c.n c.first s.T
 lin:Bw.LInv k s.L
 llen:s.L.length≤k
 rok:∀t∈s.R,Ty.TyOk t
 rlen:s.R.length≤255
 evk:s.evs.length≤k
 evok:∀e∈s.evs,e.ok
 missk:s.miss.length≤k
 uok:UsedOk c.size (usedH c s)
 ent:∀e∈liveE c s,s.st e.owner=1∧(1≤e.tag∧e.tag≤s.R.length)∧e.len=roundN (sizeTag s e.tag)
 mlen:s.mem.length=c.n
 mem:∀j,j<c.n→(Tb.slotN s.T.g.S j).2=true→(memH s j).length=sizeTag s (Tb.entN s.T.E j).tag
 memB:∀j,∀b∈memH s j,0≤b∧b≤255
 dead:∀j,(Tb.slotN s.T.g.S j).2=false→memH s j=[]
 bor:∀b∈s.L,s.st b.1.2=1∧∃j:Nat,b.1.1=j∧(Tb.slotN s.T.g.S j).2=true∧(Tb.entN s.T.E j).owner≠b.1.2
 lim:∀p,(hasH c s p).b≤c.lim.b∧(hasH c s p).o≤c.lim.o∧(hasH c s p).r≤c.lim.r
 st:∀p,s.st p=0∨((1≤p∧p≤64)∧(s.st p=1∨s.st p=2))
end Go.Proofs.YteidpgdfocjdbaaGreat
namespace Go.Proofs.YteidpgdfocjdbaaGreat
open Go Go.RowKit Go.Stg
theorem fm_split {α:Type} (f:Nat→Option α) {n j:Nat} (hj:j<n):∃A C,∀g:Nat→Option α,(∀m,m<n→m≠j→g m=f m)→(List.range n).filterMap g=A++((g j).toList++C):=by
 refine⟨(List.range j).filterMap f,((List.range n).drop (j+1)).filterMap f,fun g hg=> ?_⟩;have e:((List.range n).drop (j+1)).filterMap g=((List.range n).drop (j+1)).filterMap f:=filterMap_same fun m hm=>by
  have h1:=List.mem_of_mem_drop hm;rw[List.mem_range]at h1;refine hg m h1 fun e=> ?_
  subst e;obtain⟨i,hi,he⟩:=List.getElem_of_mem hm;rw[List.getElem_drop,List.getElem_range]at he;omega
 have e1:(List.range n).filterMap g=(List.range j++j::(List.range n).drop (j+1)).filterMap g:=congrArg _ (range_split hj);rw[e1,List.filterMap_append];congr 1
 ·exact filterMap_same fun m hm=>by rw[List.mem_range]at hm;exact hg m (by omega) (by omega)
 ·rw[List.filterMap_cons,e];cases g j<;>rfl
section
variable {n:Nat} {first:Int} {x:Tb.TS} (hI:Tb.TInv n first x)
include hI
theorem iss_slot (hf1:1≤first) (hf2:first≤4294967295) {owner tag:Int} (off len d:Int) (hk:Tb.issOk x owner tag):
  Tb.pickS x.g.F d<n∧(Tb.slotN x.g.S (Tb.pickS x.g.F d)).2=false∧(Tb.slotN (Tb.issT first x owner tag off len d).g.S (Tb.pickS x.g.F d)).2=true∧
  Tb.entN (Tb.issT first x owner tag off len d).E (Tb.pickS x.g.F d)=Tb.issEnt first x owner tag off len d∧
  ∀m,m≠Tb.pickS x.g.F d→Tb.slotN (Tb.issT first x owner tag off len d).g.S m=Tb.slotN x.g.S m∧Tb.entN (Tb.issT first x owner tag off len d).E m=Tb.entN x.E m:=by
 obtain⟨hb,hp⟩:=hk;obtain⟨hi,hj,hp',hF,hjn,hd,hg0,hg1,hsl⟩:=hI.g.pick hf1 hf2 hp d;have hjE:Tb.pickS x.g.F d<x.E.length:=by rw[hI.len];exact hjn
 unfold Tb.issT;rw[if_pos ⟨hb,hp⟩];simp only[Tb.issG_some hp];refine⟨hjn,by rw[Tb.slotN_at hj];exact hd,by rw[Tb.slotN_set hj,if_pos rfl],by rw[Tb.entN_set hjE,if_pos rfl],fun m hm=>⟨by rw[Tb.slotN_set hj,if_neg hm],by rw[Tb.entN_set hjE,if_neg hm]⟩⟩
theorem live_res {j:Nat} (hj:j<n) (hn:n≤4096) (hl:(Tb.slotN x.g.S j).2=true) (hf1:1≤first):Tb.hSlot (Tb.entN x.E j).h=j∧Tb.resE x (Tb.entN x.E j).h=0∧(0≤(Tb.entN x.E j).h∧(Tb.entN x.E j).h≤18446744073709551615):=by
 obtain⟨ht,he⟩:=hI.ok j hj hl;have hg:first≤(Tb.slotN x.g.S j).1∧(Tb.slotN x.g.S j).1≤4294967295:=by
  rcases hI.g.gens j hj with h|h
  ·rw[h]at hl;cases hl
  ·exact h
 have hs:0≤(j:Int)∧(j:Int)≤16777215:=by omega
 have hg':1≤(Tb.slotN x.g.S j).1∧(Tb.slotN x.g.S j).1≤4294967295:=by omega
 have e1:=Tb.hSlot_pack (g:=(Tb.slotN x.g.S j).1) (t:=(Tb.entN x.E j).tag) hs;have e2:=Tb.hGen_pack (t:=(Tb.entN x.E j).tag) hs hg';have e3:=Tb.hTag_pack (t:=(Tb.entN x.E j).tag) hs hg';rw[←he]at e1 e2 e3;refine⟨e1,?_,?_⟩
 ·have hlen:=hI.g.len;unfold Tb.resE;rw[e1,e2,e3,if_neg (by omega),Tb.liveN_nat,Int.toNat_natCast,if_neg (by simp[hl]),if_neg (by simp)]
 ·rw[he];unfold Tb.packI;omega
end
theorem has_ins {A C:List Tb.Ent} {e:Tb.Ent} {L:List Bw.Bor} (p:Int):hasOf (A++e::C) L p=if p=e.owner then(hasOf (A++C) L p).add ⟨e.len,1,0⟩else hasOf (A++C) L p:=by
 have e1:A++e::C=A++([e]++C):=rfl;unfold hasOf Qt.Q.add;rw[e1,sumLen_app,sumLen_app,sumLen_app,cntOwn_app,cntOwn_app,cntOwn_app,sumLen_one,cntOwn_one];by_cases h:p=e.owner
 ·rw[if_pos h,if_pos h.symm,if_pos h.symm];simp only[Qt.Q.mk.injEq];omega
 ·rw[if_neg h,if_neg (Ne.symm h),if_neg (Ne.symm h)];simp only[Qt.Q.mk.injEq];exact⟨by omega,by omega,trivial⟩
end Go.Proofs.YteidpgdfocjdbaaGreat
