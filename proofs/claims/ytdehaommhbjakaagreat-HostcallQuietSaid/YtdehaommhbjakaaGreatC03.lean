/- Joined contracts. No conditions. -/
import Derived.Test.YtdehaommhbjakaaGreatC02
namespace Go
namespace Stg
section
variable {P:Program} {ops:Array Oper} {md:Region.Mode} {I:World→Prop} {fin:Nat}
def lh (P:Program) (md:Region.Mode) (ops:Array Oper) (I:World→Prop) (fin:Nat) (Out:Prop) (Q:Act→World→Prop) (fuel:Nat) (listed:Array Bool) (C:World→Prop) (a:Act) (e:Nat) (oe:Oper):Prop:=
 ∃(V:Value→Prop) (R:Value→World→Prop),(∃v,V v)∧(∀w,C w→gives P oe a w Out R)∧(∀v w,R v w→V v∧(e=fin∨I w))∧
  ∀v,V v→dZ P md ops I fin Out Q fuel (listed.setIfInBounds e true) (R v) (a.put oe.dst v)
theorem lh.push {Out:Prop} {Q:Act→World→Prop} {fuel:Nat} {listed:Array Bool} {C:World→Prop} {a:Act} {e j:Nat} {oe oj:Oper} (H:lh P md ops I fin Out Q (fuel+1) listed C a e oe)
  (he:ops[e]? =some oe) (hj:ops[j]? =some oj) (hsel:∀(j:Nat) (o:Oper) cs b,ops[j]? =some o→o.op≠ .select cs b) (hjr:j∈Region.ready md ops listed) (hje:j≠e) (hq:aY oj=false) (hap:oe.apart ops oj=true) (w0:World) (hw0:I w0):
  (Region.wanted oj (yielded ops a.tmps)=true→∃u,(∀w,I w→dx P oj a w u)∧lh P md ops I fin Out Q fuel (listed.setIfInBounds j true) C (a.put oj.dst u) e oe)∧
  (Region.wanted oj (yielded ops a.tmps)=false→lh P md ops I fin Out Q fuel (listed.setIfInBounds j true) C (a.put oj.dst undef) e oe):=by
 obtain⟨V,R,hV,hg,hRI,hK⟩:=H;obtain⟨h1,h2,h3⟩:=Oper.apart_spec hap;have hsi:=fun cs b=>hsel e oe cs b he
 have hsj:=fun cs b=>hsel j oj cs b hj
 have each:∀v,V v→dT P ops I fin Out j (dZ P md ops I fin Out Q fuel ((listed.setIfInBounds e true).setIfInBounds j true)) (R v) (a.put oe.dst v):=fun v hv=>(hK v hv).2 j (ready_mono hjr hje)
 unfold dT at each;simp only[hj,hq,if_false,Bool.false_eq_true]at each;have fine:∀u,(∀v,V v→dZ P md ops I fin Out Q fuel ((listed.setIfInBounds e true).setIfInBounds j true) (R v) ((a.put oe.dst v).put oj.dst u))→
   lh P md ops I fin Out Q fuel (listed.setIfInBounds j true) C (a.put oj.dst u) e oe:=fun u hu=>by
  refine⟨V,R,hV,fun w hC=> ?_,hRI,fun v hv=> ?_⟩
  ·have:=hg w hC;unfold gives at*
   rwa [execOp_put oe hsi a oj.dst u h3]
  ·rw[Array.setIfInBounds_comm _ _ hje, ←Act.put_comm a v u h2];exact hu v hv
 constructor
 ·intro hwj;have e2:∀v,V v→∃u,(∀w,I w→dx P oj a w u)∧dZ P md ops I fin Out Q fuel ((listed.setIfInBounds e true).setIfInBounds j true) (R v) ((a.put oe.dst v).put oj.dst u):=fun v hv=>by
   have:=each v hv;rw[wanted_put oj a oe.dst v h1,hwj]at this;simp only[if_true]at this;obtain⟨u,k1,k2⟩:=this;refine⟨u,fun w hw'=> ?_,k2⟩;have:=k1 w (.inr hw');unfold dx at*
   rwa [execOp_put oj hsj a oe.dst v h1]at this
  obtain⟨u,k1,_⟩:=e2 _ hV.choose_spec;refine⟨u,k1,fine u fun v hv=> ?_⟩;obtain⟨u',k1',k2'⟩:=e2 v hv;have:u'=u:=rp (k1' w0 hw0) (k1 w0 hw0);subst this;exact k2'
 ·intro hwj;refine fine undef fun v hv=> ?_
  have:=each v hv;rw[wanted_put oj a oe.dst v h1,hwj]at this;simpa using this
theorem rG {Out:Prop} {Q:Act→World→Prop} (E:List Nat) (hE:E≠ []) (hsel:∀(j:Nat) (o:Oper) cs b,ops[j]? =some o→o.op≠ .select cs b) (w0:World) (hw0:I w0) (C:World→Prop):
  ∀(fuel:Nat) (listed:Array Bool) (a:Act),closed md ops listed→
   (∀j oj,ops[j]? =some oj→j∉E→aY oj=true→listed.getD j true=false→∃e∈E,forced md ops j e)→
   (∀e∈E,e∈Region.ready md ops listed∧∃oe,ops[e]? =some oe∧aY oe=true∧Region.wanted oe (yielded ops a.tmps)=true∧
    (∀j oj,ops[j]? =some oj→j≠e→listed.getD j true=false→(∀x∈oj.after,Region.binds md x=true→x.on≠e)→oe.apart ops oj=true)∧
    lh P md ops I fin Out Q fuel listed C a e oe)→dZ P md ops I fin Out Q (fuel+1) listed C a:=by
 intro fuel;induction fuel with
 |zero=>
  intro listed a hcl hsolo H;obtain⟨e0,he0⟩:=List.exists_mem_of_ne_nil E hE;refine⟨fun h=>(by have:=(H e0 he0).1;rw[h]at this;cases this),fun j hj=> ?_⟩;by_cases hjE:j∈E
  ·obtain⟨_,oe,h0,he,hw,_,V,R,hV,hg,hRI,hK⟩:=H j hjE;unfold dT;simp only[h0,hw,he,if_true];exact⟨V,R,hV,hg,hRI,hK⟩
  ·obtain⟨_,oe,h0,he,hw,_,V,R,hV,hg,hRI,hK⟩:=H e0 he0;have hne:j≠e0:=fun h=>hjE (h▸he0)
   have:=ready_mono hj hne;rw[(hK _ hV.choose_spec).1]at this;cases this
 |succ fuel ih=>
  intro listed a hcl hsolo H;obtain⟨e0,he0⟩:=List.exists_mem_of_ne_nil E hE;refine⟨fun h=>(by have:=(H e0 he0).1;rw[h]at this;cases this),fun j hj=> ?_⟩;by_cases hjE:j∈E
  ·obtain⟨_,oe,h0,he,hw,_,V,R,hV,hg,hRI,hK⟩:=H j hjE;unfold dT;simp only[h0,hw,he,if_true];exact⟨V,R,hV,hg,hRI,hK⟩
  ·obtain⟨hjun,oj,hoj,hall⟩:=mem_ready.1 hj;have hun:∀e∈E,listed.getD e false=false:=fun e he=>by
    have hiun:=(mem_ready.1 (H e he).1).1;rcases Nat.lt_or_ge e listed.size with h'|h'
    ·simp[h']at hiun⊢;exact hiun
    ·simp[Array.getElem?_eq_none h']
   have hje:aY oj=false:=by
    cases h:aY oj with
    |false=>rfl
    |true=>
     obtain⟨e,he,hf⟩:=hsolo j oj hoj hjE h hjun;have:=hf listed hcl (fun o ho x hx hb=>by
      have:o=oj:=Option.some.inj (ho.symm.trans hoj);subst this;exact hall x hx hb)
     rw[hun e he]at this;cases this
   have hnot:∀e∈E,∀x∈oj.after,Region.binds md x=true→x.on≠e:=fun e he x hx hb heq=>by
    have h1:=hall x hx hb;rw[heq,hun e he]at h1;cases h1
   have hsolo':∀k ok,ops[k]? =some ok→k∉E→aY ok=true→(listed.setIfInBounds j true).getD k true=false→∃e∈E,forced md ops k e:=fun k ok hk hkE hek hku=>by
    refine hsolo k ok hk hkE hek ?_;by_cases hjk:j=k
    ·subst hjk;exact hjun
    ·rwa [getD_set_ne true hjk]at hku
   have next:∀u,(∀e∈E,∀oe,ops[e]? =some oe→lh P md ops I fin Out Q fuel (listed.setIfInBounds j true) C (a.put oj.dst u) e oe)→dZ P md ops I fin Out Q (fuel+1) (listed.setIfInBounds j true) C (a.put oj.dst u):=fun u hu=>by
    refine ih (listed.setIfInBounds j true) (a.put oj.dst u) (hcl.set hj) hsolo' fun e he=> ?_
    obtain⟨hr,oe,h0,hee,hw,hfree,_⟩:=H e he;have hne:j≠e:=fun h=>hjE (h▸he)
    have hap:=hfree j oj hoj hne hjun (hnot e he);obtain⟨h1,h2,h3⟩:=Oper.apart_spec hap;refine⟨ready_mono hr (Ne.symm hne),oe,h0,hee,by rw[wanted_put oe a oj.dst u h3];exact hw,fun k ok hk hke hku hno=> ?_,hu e he oe h0⟩;refine hfree k ok hk hke ?_ hno;by_cases hjk:j=k
    ·subst hjk;exact hjun
    ·rwa [getD_set_ne true hjk]at hku
   have push:∀e∈E,∀oe,ops[e]? =some oe→
     (Region.wanted oj (yielded ops a.tmps)=true→∃u,(∀w,I w→dx P oj a w u)∧lh P md ops I fin Out Q fuel (listed.setIfInBounds j true) C (a.put oj.dst u) e oe)∧
     (Region.wanted oj (yielded ops a.tmps)=false→lh P md ops I fin Out Q fuel (listed.setIfInBounds j true) C (a.put oj.dst undef) e oe):=fun e he oe h0=>by
    obtain⟨hr,oe',h0',hee,hw,hfree,hH⟩:=H e he;have:oe'=oe:=Option.some.inj (h0'.symm.trans h0);subst this;have hne:j≠e:=fun h=>hjE (h▸he)
    exact hH.push h0 hoj hsel hj hne hje (hfree j oj hoj hne hjun (hnot e he)) w0 hw0
   unfold dT;simp only[hoj,hje,if_false,Bool.false_eq_true];cases hwj:Region.wanted oj (yielded ops a.tmps)with
   |true=>
    simp only[if_true];obtain⟨_,oe0,h00,_⟩:=H e0 he0;obtain⟨u,k1,_⟩:=(push e0 he0 oe0 h00).1 hwj;refine⟨u,qg hw0 k1,next u fun e he oe h0=> ?_⟩;obtain⟨u',k1',k2'⟩:=(push e he oe h0).1 hwj;have:u'=u:=rp (k1' w0 hw0) (k1 w0 hw0);subst this;exact k2'
   |false=>
    simp only[Bool.false_eq_true,if_false];exact next undef fun e he oe h0=>(push e he oe h0).2 hwj
def nA (ms:List Nat) (ops:Array Oper) (listed:Array Bool) (E:List Nat):Bool:=
 ops.toList.zipIdx.all fun x=>E.contains x.2|| !(aY x.1)||listed.getD x.2 true||E.any fun e=>(ms.getD x.2 0).testBit e
theorem rO {listed:Array Bool} {E:List Nat} (h:nA (iZ md ops.toList []) ops listed E=true) (j:Nat) (oj:Oper) (hj:ops[j]? =some oj) (hE:j∉E) (he:aY oj=true) (hl:listed.getD j true=false):∃e∈E,forced md ops j e:=by
 unfold nA at h;rw[List.all_eq_true]at h;have h1:=h (oj,j) (by rw[List.mem_zipIdx_iff_getElem?];simpa using hj);simp only[he,hl,Bool.not_true,Bool.or_false,Bool.or_eq_true,List.contains_iff_mem,hE,false_or,List.any_eq_true]at h1;obtain⟨e,hm,hb⟩:=h1;exact⟨e,hm,pH ops.toList [] (fun j=>by simp) (fun j i hj=>by simp at hj) j e hb⟩
def lP (md:Region.Mode) (ops:Array Oper) (ms:List Nat):List Nat→Array Bool→Bool
 | [],listed=>(Region.ready md ops listed).isEmpty
 |k::ks,listed=>(Region.ready md ops listed).contains k&&Region.free md ops listed k&&((match ops[k]? with|some o=> !(aY o)|none=>false)||nA ms ops listed [k])&&(!ks.isEmpty||k==ops.size-1)&&lP md ops ms ks (listed.setIfInBounds k true)
def Names (ops:Array Oper):List Nat→List Oper→Prop
 | [],[]=>True
 |k::ks,o::l=>ops[k]? =some o∧Names ops ks l
 |_,_=>False
theorem Names.erase:∀ {ks:List Nat} {l:List Oper} (d:Nat),Names ops ks l→Names ops (ks.eraseIdx d) (l.eraseIdx d)
 | [],[],_,_=>trivial
 | [],_::_,_,h=>h.elim
 |_::_,[],_,h=>h.elim
 |_::_,_::_,0,h=>h.2
 |_::_,_::_,d+1,h=>⟨h.1,Names.erase d h.2⟩
theorem Names.range:∀(l:List Oper) (k:Nat),(∀j,l[j]? =ops[k+j]? ∨l.length≤j)→Names ops (List.range' k l.length) l
 | [],_,_=>trivial
 |o::l,k,h=>⟨by simpa using((h 0).resolve_right (by simp)).symm,Names.range l (k+1) fun j=>by
   rcases h (j+1)with h|h
   ·left;simpa[Nat.add_assoc,Nat.add_comm 1 j]using h
   ·right;simpa using h⟩
theorem Names.length:∀ {ks:List Nat} {l:List Oper},Names ops ks l→l.length=ks.length
 | [],[],_=>rfl
 | [],_::_,h=>h.elim
 |_::_,[],h=>h.elim
 |_::ks,_::l,h=>by simp[Names.length h.2]
theorem lZ {Out:Prop} {Q:Act→World→Prop} (hfin:fin<ops.size→∀i oi,ops[i]? =some oi→i≠fin→eU oi=false→forced md ops fin i) (hfl:gH ops=true→fin=ops.size-1) (hs:Region.noSelect ops=true) (w0:World) (hw0:I w0):
  ∀(ks:List Nat) (l:List Oper) (listed:Array Bool) (C:World→Prop) (a:Act),Names ops ks l→(l=[]∨∀w,C w→I w)→closed md ops listed→lP md ops (iZ md ops.toList []) ks listed=true→
   aH P ops I Out Q l C a→dZ P md ops I fin Out Q l.length listed C a
 | [],[],_,_,_,_,_,_,hB,h=>⟨by simpa[lP]using hB,h⟩
 | [],_::_,_,_,_,h,_,_,_,_=>h.elim
 |_::_,[],_,_,_,h,_,_,_,_=>h.elim
 |k::ks,o::l,listed,C,a,hN,hCI0,hcl,hB,h=>by
  obtain⟨h0,hN'⟩:=hN;have hCI:=hCI0.resolve_left (by simp);simp only[lP,Bool.and_eq_true,h0]at hB;obtain⟨⟨⟨⟨hr,hf⟩,hsolo⟩,hlast⟩,hB'⟩:=hB;have hr':k∈Region.ready md ops listed:=by simpa using hr
  have hkl:l=[]→k=ops.size-1:=fun he=>by
   subst he;have:ks=[]:=List.eq_nil_of_length_eq_zero (Names.length hN').symm;subst this;simpa using hlast
  unfold aH at h;by_cases hw:Region.wanted o (yielded ops a.tmps)=true
  ·simp only[hw,if_true]at h;by_cases he:aY o=true
   ·simp only[he,if_true]at h;obtain⟨V,R,g0,g1,g2,g3⟩:=h;have hsolo':nA (iZ md ops.toList []) ops listed [k]=true:=by simpa[he]using hsolo
    refine rG [k] (by simp) (Region.noSelect_spec hs) w0 hw0 C l.length listed a hcl (rO hsolo') (fun e hek=> ?_);have:e=k:=by simpa using hek
    subst this;exact⟨hr',o,h0,he,hw,Region.free_spec h0 hf,V,R,g0,g1,fun v w hrw=>⟨(g2 v w hrw).1,(g2 v w hrw).2.imp (fun h=>(hkl h.1).trans (hfl h.2).symm) id⟩,
     fun v hv=>lZ hfin hfl hs w0 hw0 ks l _ _ _ hN' (by by_cases hn:l=[];exact .inl hn;exact .inr fun w hrw=>(g2 v w hrw).2.resolve_left (fun h=>hn h.1)) (hcl.set hr') hB' (g3 v hv)⟩
   ·simp only[he,if_false,Bool.false_eq_true]at h;obtain⟨v,g1,g2⟩:=h;exact mO h0 (Region.noSelect_spec hs) l.length listed C a hcl hCI (Region.free_spec h0 hf) hr' (.inl ⟨hw,by simpa using he,qg hw0 g1⟩)
     (lZ hfin hfl hs w0 hw0 ks l _ _ _ hN' (.inr hCI) (hcl.set hr') hB' g2)
  ·simp only[hw,if_false,Bool.false_eq_true]at h;exact mO h0 (Region.noSelect_spec hs) l.length listed C a hcl hCI (Region.free_spec h0 hf) hr' (.inr ⟨by simpa using hw,rfl⟩)
    (lZ hfin hfl hs w0 hw0 ks l _ _ _ hN' (.inr hCI) (hcl.set hr') hB' h)
def fu (P:Program) (ops:Array Oper) (I:World→Prop) (Out:Prop) (Q:Act→World→Prop) (f:Nat) (fo:Oper):List Oper→Nat→(World→Prop)→Act→Prop
 | [],_,C,a=>∀w,C w→Q a w
 |o::rest,k,C,a=>
  if k=f then aH P ops I Out Q (o::rest) C a
  else if Region.wanted o (yielded ops a.tmps)then
   (if aY o then(∃(V:Value→Prop) (R:Value→World→Prop),(∃v,V v)∧(∀w,C w→gives P o a w Out R)∧(∀v w,R v w→V v∧I w)∧∀v,V v→fu P ops I Out Q f fo rest (k+1) (R v) (a.put o.dst v))∧
     (Region.wanted fo (yielded ops a.tmps)=true∧(o::rest).eraseIdx (f-k)≠ []∧aH P ops I Out Q (fo::(o::rest).eraseIdx (f-k)) C a)
    else∃v,(∀w,I w→dx P o a w v)∧fu P ops I Out Q f fo rest (k+1) C (a.put o.dst v))
  else fu P ops I Out Q f fo rest (k+1) C (a.put o.dst undef)
def oT (md:Region.Mode) (ops:Array Oper) (ms:List Nat) (f:Nat):Nat→Nat→Array Bool→Bool
 |0,_,_=>false
 |n+1,k,listed=>
  if k==f then lP md ops ms (List.range' k (n+1)) listed
  else(Region.ready md ops listed).contains k&&Region.free md ops listed k&&
   ((match ops[k]? with|some o=> !(aY o)|none=>false)||((Region.ready md ops listed).contains f&&Region.free md ops listed f&&nA ms ops listed [k,f]&&lP md ops ms ((List.range' k (n+1)).eraseIdx (f-k)) (listed.setIfInBounds f true)))&&
   oT md ops ms f n (k+1) (listed.setIfInBounds k true)
theorem pt {Out:Prop} {Q:Act→World→Prop} (hfin:fin<ops.size→∀i oi,ops[i]? =some oi→i≠fin→eU oi=false→forced md ops fin i) (hfl:gH ops=true→fin=ops.size-1) (hs:Region.noSelect ops=true) (w0:World) (hw0:I w0) (f:Nat) (fo:Oper) (hfo:ops[f]? =some fo) (hef:aY fo=true):
  ∀(l:List Oper) (k:Nat) (listed:Array Bool) (C:World→Prop) (a:Act),(∀j,l[j]? =ops[k+j]?)→k≤f→(∀w,C w→I w)→closed md ops listed→oT md ops (iZ md ops.toList []) f l.length k listed=true→
   fu P ops I Out Q f fo l k C a→dZ P md ops I fin Out Q l.length listed C a
 | [],_,_,_,_,_,_,_,_,hB,_=>by simp[oT]at hB
 |o::l,k,listed,C,a,hl,hkf,hCI,hcl,hB,h=>by
  have h0:ops[k]? =some o:=by simpa using(hl 0).symm
  have hl':∀j,l[j]? =ops[k+1+j]? :=fun j=>by have:=hl (j+1);simpa[Nat.add_assoc,Nat.add_comm 1 j]using this
  have hNm:Names ops (List.range' k (o::l).length) (o::l):=Names.range (o::l) k fun j=>.inl (hl j)
  simp only[List.length_cons,oT]at hB;unfold fu at h;by_cases hk:k=f
  ·have hkb:(k==f)=true:=by simpa using hk
   rw[if_pos hkb]at hB;rw[if_pos hk]at h;exact lZ hfin hfl hs w0 hw0 _ (o::l) listed C a hNm (.inr hCI) hcl hB h
  ·have hkb:(k==f)=false:=by simpa using hk
   rw[hkb]at hB;rw[if_neg hk]at h;simp only[Bool.false_eq_true,if_false,Bool.and_eq_true,h0]at hB;obtain⟨⟨⟨hr,hf⟩,hx⟩,hB'⟩:=hB;have hr':k∈Region.ready md ops listed:=by simpa using hr
   by_cases hw:Region.wanted o (yielded ops a.tmps)=true
   ·simp only[hw,if_true]at h;by_cases he:aY o=true
    ·simp only[he,if_true]at h;obtain⟨⟨V,R,g0,g1,g2,g3⟩,hwf,hnil,hst⟩:=h;simp only[he,Bool.not_true,Bool.false_or,Bool.and_eq_true]at hx;obtain⟨⟨⟨hrf,hff⟩,hsolo⟩,hG⟩:=hx;have hrf':f∈Region.ready md ops listed:=by simpa using hrf
     unfold aH at hst;simp only[hwf,hef,if_true]at hst;obtain⟨V2,R2,p0,p1,p2,p3⟩:=hst;have hNe:=Names.erase (f-k) hNm;have hlen:((o::l).eraseIdx (f-k)).length=l.length:=by
      have hfl2:f<ops.size:=(Array.getElem?_eq_some_iff.1 hfo).1;have h2:f-k<(o::l).length:=by
       have:=hl (f-k);rw[show k+(f-k)=f by omega,hfo]at this;exact(List.getElem?_eq_some_iff.1 this).1
      rw[List.length_eraseIdx,if_pos h2];simp
     refine rG [k,f] (by simp) (Region.noSelect_spec hs) w0 hw0 C l.length listed a hcl (rO hsolo) (fun e hek=> ?_);have hcase:e=k∨e=f:=by simpa using hek
     rcases hcase with rfl|rfl
     ·exact⟨hr',o,h0,he,hw,Region.free_spec h0 hf,V,R,g0,g1,fun v w hrw=>⟨(g2 v w hrw).1,.inr (g2 v w hrw).2⟩,
       fun v hv=>pt hfin hfl hs w0 hw0 f fo hfo hef l (e+1) _ _ _ hl' (by omega) (fun w hrw=>(g2 v w hrw).2) (hcl.set hr') hB' (g3 v hv)⟩
     ·refine⟨hrf',fo,hfo,hef,hwf,Region.free_spec hfo hff,V2,R2,p0,p1,fun v w hrw=>⟨(p2 v w hrw).1,.inr ((p2 v w hrw).2.resolve_left fun h=>hnil h.1)⟩,fun v hv=> ?_⟩;have:=lZ hfin hfl hs w0 hw0 _ _ (listed.setIfInBounds e true) (R2 v) (a.put fo.dst v) hNe (.inr fun w hrw=>(p2 v w hrw).2.resolve_left fun h=>hnil h.1) (hcl.set hrf') hG (p3 v hv)
      rwa [hlen]at this
    ·simp only[he,if_false,Bool.false_eq_true]at h;obtain⟨v,g1,g2⟩:=h;exact mO h0 (Region.noSelect_spec hs) l.length listed C a hcl hCI (Region.free_spec h0 hf) hr' (.inl ⟨hw,by simpa using he,qg hw0 g1⟩)
      (pt hfin hfl hs w0 hw0 f fo hfo hef l (k+1) _ _ _ hl' (by omega) hCI (hcl.set hr') hB' g2)
   ·simp only[hw,if_false,Bool.false_eq_true]at h;exact mO h0 (Region.noSelect_spec hs) l.length listed C a hcl hCI (Region.free_spec h0 hf) hr' (.inr ⟨by simpa using hw,rfl⟩)
     (pt hfin hfl hs w0 hw0 f fo hfo hef l (k+1) _ _ _ hl' (by omega) hCI (hcl.set hr') hB' h)
theorem iQ (f:Nat) (fo:Oper) {id:Nat} {Q:Exit→Act→World→Prop} {a:Act} {w:World} {l:List Oper} (I C:World→Prop) (hm:P.follows .mixedOrders=true) (hfo:l.toArray[f]? =some fo) (hef:aY fo=true) (hs:Region.noSelect l.toArray=true)
  (hB:oT .any l.toArray (iZ .any l []) f l.length 0 (Array.replicate l.length false)=true)
  (hCI:∀w,C w→I w) (hC:C w.drew) (h:fu P l.toArray I (LetsOut Q) (fun a' w'=>Q .normal a' w') f fo l 0 C a):(Code.region id l.toArray true).wp P Q a w:=by
 have hrep:∀ {m j:Nat},(Array.replicate m false).getD j false=false:=fun {m j}=>by
  rcases Nat.lt_or_ge j m with h|h
  ·simp[h]
  ·simp[h]
 have hc0:closed .any l.toArray (Array.replicate l.length false):=fun j oj _ hl=>by rw[hrep]at hl;cases hl
 obtain⟨fin,hfin,hfl⟩:∃fin,(fin<l.toArray.size→∀i oi,l.toArray[i]? =some oi→i≠fin→eU oi=false→forced .any l.toArray fin i)∧(gH l.toArray=true→fin=l.toArray.size-1):=by
  by_cases h:gH l.toArray=true
  ·exact⟨_,fun _=>qZ h,fun _=>rfl⟩
  ·exact⟨l.toArray.size,fun h'=>absurd h' (Nat.lt_irrefl _),fun h'=>absurd h' h⟩
 refine wp_region_any hm (l0 (I:=I) (fin:=fin) (Q:=fun a' w'=>Q .normal a' w') (fun _ _ h=>h) hfin _ _ C _ _ (by simpa using hc0) (.inr hCI) hC ?_);have:=pt (P:=P) (I:=I) (md:=.any) hfin hfl hs _ (hCI _ hC) f fo hfo hef l 0 (Array.replicate l.length false) C a (by simp) (Nat.zero_le _) hCI hc0 (by simpa using hB) h;simpa using this
def oN (md:Region.Mode) (ops:Array Oper) (ms:List Nat) (f fi:Nat):List Nat→Nat→Array Bool→Bool
 | [],_,_=>false
 |i::ks,k,listed=>
  if k==f then lP md ops ms (i::ks) listed
  else(Region.ready md ops listed).contains i&&Region.free md ops listed i&&
   ((match ops[i]? with|some o=> !(aY o)|none=>false)||((Region.ready md ops listed).contains fi&&Region.free md ops listed fi&&nA ms ops listed [i,fi]&&lP md ops ms ((i::ks).eraseIdx (f-k)) (listed.setIfInBounds fi true)))&&
   oN md ops ms f fi ks (k+1) (listed.setIfInBounds i true)
theorem pB {Out:Prop} {Q:Act→World→Prop} (hfin:fin<ops.size→∀i oi,ops[i]? =some oi→i≠fin→eU oi=false→forced md ops fin i) (hfl:gH ops=true→fin=ops.size-1) (hs:Region.noSelect ops=true) (w0:World) (hw0:I w0) (f fi:Nat) (fo:Oper) (hfo:ops[fi]? =some fo) (hef:aY fo=true):
  ∀(ks:List Nat) (l:List Oper) (k:Nat) (listed:Array Bool) (C:World→Prop) (a:Act),Names ops ks l→k≤f→f-k<ks.length→(∀w,C w→I w)→closed md ops listed→oN md ops (iZ md ops.toList []) f fi ks k listed=true→
   fu P ops I Out Q f fo l k C a→dZ P md ops I fin Out Q l.length listed C a
 | [],_,_,_,_,_,_,_,_,_,_,hB,_=>by simp[oN]at hB
 |_::_,[],_,_,_,_,h,_,_,_,_,_,_=>h.elim
 |i::ks,o::l,k,listed,C,a,hN,hkf,hfk,hCI,hcl,hB,h=>by
  have h0:ops[i]? =some o:=hN.1;simp only[oN]at hB;unfold fu at h;by_cases hk:k=f
  ·have hkb:(k==f)=true:=by simpa using hk
   rw[if_pos hkb]at hB;rw[if_pos hk]at h;exact lZ hfin hfl hs w0 hw0 _ (o::l) listed C a hN (.inr hCI) hcl hB h
  ·have hkb:(k==f)=false:=by simpa using hk
   rw[hkb]at hB;rw[if_neg hk]at h;simp only[Bool.false_eq_true,if_false,Bool.and_eq_true,h0]at hB;obtain⟨⟨⟨hr,hf⟩,hx⟩,hB'⟩:=hB;have hr':i∈Region.ready md ops listed:=by simpa using hr
   have hfk':f-(k+1)<ks.length:=by simp at hfk;omega
   by_cases hw:Region.wanted o (yielded ops a.tmps)=true
   ·simp only[hw,if_true]at h;by_cases he:aY o=true
    ·simp only[he,if_true]at h;obtain⟨⟨V,R,g0,g1,g2,g3⟩,hwf,hnil,hst⟩:=h;simp only[he,Bool.not_true,Bool.false_or,Bool.and_eq_true]at hx;obtain⟨⟨⟨hrf,hff⟩,hsolo⟩,hG⟩:=hx;have hrf':fi∈Region.ready md ops listed:=by simpa using hrf
     unfold aH at hst;simp only[hwf,hef,if_true]at hst;obtain⟨V2,R2,p0,p1,p2,p3⟩:=hst;have hNe:=Names.erase (f-k) hN;have hlen:((o::l).eraseIdx (f-k)).length=l.length:=by
      have h2:f-k<(o::l).length:=by rw[Names.length hN];exact hfk
      rw[List.length_eraseIdx,if_pos h2];simp
     refine rG [i,fi] (by simp) (Region.noSelect_spec hs) w0 hw0 C l.length listed a hcl (rO hsolo) (fun e hek=> ?_);have hcase:e=i∨e=fi:=by simpa using hek
     rcases hcase with rfl|rfl
     ·exact⟨hr',o,h0,he,hw,Region.free_spec h0 hf,V,R,g0,g1,fun v w hrw=>⟨(g2 v w hrw).1,.inr (g2 v w hrw).2⟩,
       fun v hv=>pB hfin hfl hs w0 hw0 f fi fo hfo hef ks l (k+1) _ _ _ hN.2 (by omega) hfk' (fun w hrw=>(g2 v w hrw).2) (hcl.set hr') hB' (g3 v hv)⟩
     ·refine⟨hrf',fo,hfo,hef,hwf,Region.free_spec hfo hff,V2,R2,p0,p1,fun v w hrw=>⟨(p2 v w hrw).1,.inr ((p2 v w hrw).2.resolve_left fun h=>hnil h.1)⟩,fun v hv=> ?_⟩;have:=lZ hfin hfl hs w0 hw0 _ _ (listed.setIfInBounds e true) (R2 v) (a.put fo.dst v) hNe (.inr fun w hrw=>(p2 v w hrw).2.resolve_left fun h=>hnil h.1) (hcl.set hrf') hG (p3 v hv)
      rwa [hlen]at this
    ·simp only[he,if_false,Bool.false_eq_true]at h;obtain⟨v,g1,g2⟩:=h;exact mO h0 (Region.noSelect_spec hs) l.length listed C a hcl hCI (Region.free_spec h0 hf) hr' (.inl ⟨hw,by simpa using he,qg hw0 g1⟩)
      (pB hfin hfl hs w0 hw0 f fi fo hfo hef ks l (k+1) _ _ _ hN.2 (by omega) hfk' hCI (hcl.set hr') hB' g2)
   ·simp only[hw,if_false,Bool.false_eq_true]at h;exact mO h0 (Region.noSelect_spec hs) l.length listed C a hcl hCI (Region.free_spec h0 hf) hr' (.inr ⟨by simpa using hw,rfl⟩)
     (pB hfin hfl hs w0 hw0 f fi fo hfo hef ks l (k+1) _ _ _ hN.2 (by omega) hfk' hCI (hcl.set hr') hB' h)
def nx (l:List Oper) (ks:List Nat):List Oper:=ks.filterMap fun k=>l[k]?
theorem uF (l:List Oper):∀(ks:List Nat),ks.all (· <l.length)=true→Names l.toArray ks (nx l ks)
 | [],_=>trivial
 |k::ks,h=>by
  simp only[List.all_cons,Bool.and_eq_true,decide_eq_true_eq]at h;have h1:l[k]? =some l[k]:=List.getElem?_eq_getElem h.1;unfold nx;rw[List.filterMap_cons,h1];exact⟨by simp[h1],uF l ks h.2⟩
theorem uh (f fi:Nat) (ks:List Nat) (fo:Oper) {id:Nat} {Q:Exit→Act→World→Prop} {a:Act} {w:World} {l:List Oper} (I C:World→Prop) (hm:P.follows .mixedOrders=true) (hfo:l.toArray[fi]? =some fo) (hef:aY fo=true) (hs:Region.noSelect l.toArray=true)
  (hks:ks.all (· <l.length)=true) (hlen:ks.length=l.length) (hfl0:f<ks.length) (hB:oN .any l.toArray (iZ .any l []) f fi ks 0 (Array.replicate l.length false)=true)
  (hCI:∀w,C w→I w) (hC:C w.drew) (h:fu P l.toArray I (LetsOut Q) (fun a' w'=>Q .normal a' w') f fo (nx l ks) 0 C a):(Code.region id l.toArray true).wp P Q a w:=by
 have hrep:∀ {m j:Nat},(Array.replicate m false).getD j false=false:=fun {m j}=>by
  rcases Nat.lt_or_ge j m with h|h
  ·simp[h]
  ·simp[h]
 have hc0:closed .any l.toArray (Array.replicate l.length false):=fun j oj _ hl=>by rw[hrep]at hl;cases hl
 obtain⟨fin,hfin,hfl⟩:∃fin,(fin<l.toArray.size→∀i oi,l.toArray[i]? =some oi→i≠fin→eU oi=false→forced .any l.toArray fin i)∧(gH l.toArray=true→fin=l.toArray.size-1):=by
  by_cases h:gH l.toArray=true
  ·exact⟨_,fun _=>qZ h,fun _=>rfl⟩
  ·exact⟨l.toArray.size,fun h'=>absurd h' (Nat.lt_irrefl _),fun h'=>absurd h' h⟩
 refine wp_region_any hm (l0 (I:=I) (fin:=fin) (Q:=fun a' w'=>Q .normal a' w') (fun _ _ h=>h) hfin _ _ C _ _ (by simpa using hc0) (.inr hCI) hC ?_);have hN:=uF l ks hks;have:=pB (P:=P) (I:=I) (md:=.any) hfin hfl hs _ (hCI _ hC) f fi fo hfo hef ks (nx l ks) 0 (Array.replicate l.length false) C a hN (Nat.zero_le _) hfl0 hCI hc0 (by simpa using hB) h;rw[Names.length hN,hlen]at this;simpa using this
theorem dd {Out:Prop} {Q:Act→World→Prop} {f:Nat} {fo:Oper} (n:Nat) {l:List Oper} {k:Nat} {C:World→Prop} {a:Act} (hno:(l.take n).all (fun o=> !(aY o))=true) (hk:k+n≤f)
  (h:wpQuiet P ops I (fun a'=>fu P ops I Out Q f fo (l.drop n) (k+n) C a') (l.take n) a):fu P ops I Out Q f fo l k C a:=by
 induction n generalizing l a k with
 |zero=>simpa[wpQuiet]using h
 |succ n ih=>
  cases l with
  |nil=>
   simp only[List.take_nil,List.drop_nil,wpQuiet]at h;unfold fu at h⊢;exact h
  |cons o l=>
   simp only[List.take_succ_cons,List.all_cons,Bool.and_eq_true,Bool.not_eq_true']at hno;simp only[List.take_succ_cons,List.drop_succ_cons,wpQuiet]at h;have hkn:k+(n+1)=k+1+n:=by omega
   rw[hkn]at h hk;unfold fu;rw[if_neg (show k≠f by omega)];split
   ·rename_i hw;simp only[hw,if_true,hno.1,if_false,Bool.false_eq_true]at h⊢;obtain⟨v,h1,h2⟩:=h;refine⟨v,fun w hI=> ?_,ih hno.2 hk h2⟩;have:=h1 w hI;unfold Oper.quietAt at this;unfold dx
    cases hr:(execOp a.eval o).run P w with
    |ok x w'=>
     rw[hr]at this;cases x<;>simp only[Oper.quietUpon]at this⊢
     case value u=>exact this
     case skip=>exact this
     case enter f args=>exact yG hno.1 hr
    |halt x w'=>rw[hr]at this;simp only[Oper.quietUpon]at this
   ·rename_i hw;simp only[hw,if_false,Bool.false_eq_true]at h;exact ih hno.2 hk h
theorem ia {Out:Prop} {Q:Act→World→Prop} {f:Nat} {fo:Oper} {l:List Oper} {C:World→Prop} {a:Act} (h:aH P ops I Out Q l C a):fu P ops I Out Q f fo l f C a:=by
 cases l with
 |nil=>unfold fu;exact h
 |cons o l=>unfold fu;rw[if_pos rfl];exact h
theorem fh {Out:Prop} {Q:Act→World→Prop} {f:Nat} {fo o:Oper} {rest:List Oper} {k:Nat} {C:World→Prop} {a:Act} (hk:k<f) (hw:Region.wanted o (yielded ops a.tmps)=true) (he:aY o=true)
  (hA:∃(V:Value→Prop) (R:Value→World→Prop),(∃v,V v)∧(∀w,C w→gives P o a w Out R)∧(∀v w,R v w→V v∧I w)∧∀v,V v→fu P ops I Out Q f fo rest (k+1) (R v) (a.put o.dst v))
  (hwf:Region.wanted fo (yielded ops a.tmps)=true) (hnil:(o::rest).eraseIdx (f-k)≠ []) (hB:aH P ops I Out Q (fo::(o::rest).eraseIdx (f-k)) C a):fu P ops I Out Q f fo (o::rest) k C a:=by
 unfold fu;rw[if_neg (show k≠f by omega)];simp only[hw,he,if_true];exact⟨hA,hwf,hnil,hB⟩
theorem sj {Out:Prop} (v:Nat→Value) (ob:Obj) (C':Nat→World→Prop) {o:Oper} {C:World→Prop} {a:Act} {K:(World→Prop)→Act→Prop}
  (hv:∀s s',v s=v s'→s=s') (hrun:∀w,C w→(execOp a.eval o).run P w=.ok (.value (v w.heap.size)) (w.alloc ob)) (hC:∀w,C w→C' w.heap.size (w.alloc ob)) (hI:∀s w,C' s w→I w)
  (h:∀s,K (C' s) (a.put o.dst (v s))):∃(V:Value→Prop) (R:Value→World→Prop),(∃v,V v)∧(∀w,C w→gives P o a w Out R)∧(∀v w,R v w→V v∧I w)∧∀v,V v→K (R v) (a.put o.dst v):=by
 refine⟨fun u=>∃s,u=v s,fun u w=>∃s,u=v s∧C' s w,⟨v 0,0,rfl⟩,fun w hc=> ?_,fun u w ⟨s,h1,h2⟩=>⟨⟨s,h1⟩,hI s w h2⟩,fun u ⟨s,hu⟩=> ?_⟩
 ·unfold gives;rw[hrun w hc];exact⟨_,rfl,hC w hc⟩
 ·subst hu;have e:(fun w=>∃s',v s=v s'∧C' s' w)=C' s:=by
   funext w;apply propext;constructor
   ·rintro⟨s',h1,h2⟩;rw[hv _ _ h1];exact h2
   ·intro h;exact⟨s,rfl,h⟩
  have h':=h s;rw[←e]at h';exact h'
theorem oI {Out:Prop} (V:Value→Prop) (C':Value→World→Prop) {o:Oper} {C:World→Prop} {a:Act} {K:(World→Prop)→Act→Prop} (hV:∃v,V v)
  (hrun:∀w,C w→∃v w',(execOp a.eval o).run P w=.ok (.value v) w'∧V v∧C' v w') (hI:∀v w,C' v w→I w)
  (h:∀v,V v→K (C' v) (a.put o.dst v)):∃(V:Value→Prop) (R:Value→World→Prop),(∃v,V v)∧(∀w,C w→gives P o a w Out R)∧(∀v w,R v w→V v∧I w)∧∀v,V v→K (R v) (a.put o.dst v):=by
 refine⟨V,fun u w=>V u∧C' u w,hV,fun w hc=> ?_,fun u w h1=>⟨h1.1,hI u w h1.2⟩,fun u hu=> ?_⟩
 ·obtain⟨v,w',hr,h1,h2⟩:=hrun w hc;unfold gives;rw[hr];exact⟨h1,h2⟩
 ·have e:(fun w=>V u∧C' u w)=C' u:=by
   funext w;simp[hu]
  have h':=h u hu;rw[←e]at h';exact h'
end
end Stg
end Go
namespace Go.Proofs.YtdehaommhbjakaaGreat.Tb
open RowKit Stg
abbrev Slot:=Int×Bool
def eG (S:List Slot):List Value:=S.flatMap fun s=>[.int .i64 s.1,.bool s.2]
theorem ur:∀S:List Slot,(eG S).length=S.length*2
 | []=>rfl
 |f::r=>by
  have:=ur r;simp[eG]at this⊢;omega
theorem jZ:∀(S:List Slot) (i:Nat) (h:i<S.length),(eG S)[i*2]? =some (.int .i64 S[i].1)∧(eG S)[i*2+1]? =some (.bool S[i].2)
 | [],i,h=>by simp at h
 |f::r,0,_=>⟨rfl,rfl⟩
 |f::r,i+1,h=>by
  have e:eG (f::r)=.int .i64 f.1:: .bool f.2::eG r:=rfl;have h1:(i+1)*2=i*2+2:=by omega
  have h2:i*2+2+1=i*2+1+2:=by omega
  rw[e,h1,h2];exact jZ r i (by simpa using h)
theorem pG:∀(S:List Slot) (i:Nat) (a:Int) (l:Bool),i<S.length→((eG S).set (i*2) (.int .i64 a)).set (i*2+1) (.bool l)=eG (S.set i (a,l))
 | [],i,_,_,h=>by simp at h
 |f::r,0,a,b,_=>rfl
 |f::r,i+1,a,b,h=>by
  have e:eG (f::r)=.int .i64 f.1:: .bool f.2::eG r:=rfl;have e2:eG (f::r.set i (a,b))=.int .i64 f.1:: .bool f.2::eG (r.set i (a,b)):=rfl;have h1:(i+1)*2=i*2+2:=by omega
  have h2:i*2+2+1=i*2+1+2:=by omega
  rw[List.set_cons_succ,e,e2,h1,h2, ←pG r i a b (by simpa using h)];rfl
theorem AU (S:List Slot) (i:Nat) (l:Bool) (h:i<S.length):(eG S).set (i*2+1) (.bool l)=eG (S.set i (S[i].1,l)):=by
 rw[←pG S i S[i].1 l h];congr 1;have h1:=(jZ S i h).1;obtain⟨hl,e⟩:=List.getElem?_eq_some_iff.1 h1;rw[←e,List.set_getElem_self]
structure ej (w:World) (b:Nat) (first:Int) (S:List Slot) (F:List Int) (ret:Int) (sl psv:Value) (pb:Nat):Prop where
 aQ:w.heap[b]? =some (.cells #[.int .i64 first,sl,.pointer (some ⟨pb,0,none⟩),.int .i64 ret] 233 (0,0))
 row:w.ownsRow 0 279 2 sl S.length (eG S)
 lg:gk 275 3 w pb psv (F.map (.int .i64))
 n1:b≠pb
 n2:sl.ownBlock≠some b∧sl.ownBlock≠some pb
 n3:psv.ownBlock≠some b∧∀x,sl.ownBlock=some x→psv.ownBlock≠some x
def bQ (b pb:Nat) (sl psv:Value):List Nat:=b::pb::(sl.ownBlock.toList++psv.ownBlock.toList)
theorem ej.mod {w w':World} {b pb:Nat} {first ret:Int} {S:List Slot} {F:List Int} {sl psv:Value} {T:List Nat} (h:ej w b first S F ret sl psv pb) (hm:Mod T w w') (hT:∀x∈bQ b pb sl psv,x∉T):ej w' b first S F ret sl psv pb:=
 ⟨hm.at h.aQ (hT b (by simp[bQ])),aG h.row hm (fun g hg=>hT g (by simp[bQ,hg])),h.lg.mod hm (fun x hx=>hT x (by
  rcases List.mem_cons.1 hx with rfl|hx
  ·simp[bQ]
  ·simp only[bQ,List.mem_cons,List.mem_append];exact .inr (.inr (.inr hx)))),h.n1,h.n2,h.n3⟩
section
variable {w:World} {b pb:Nat} {first ret:Int} {S:List Slot} {F:List Int} {sl psv:Value} (h:ej w b first S F ret sl psv pb)
include h
theorem ni:Calls Tryz.prog 137 #[.pointer (some ⟨b,0,none⟩)] w fun e w'=>e=.returned (.int .i64 S.length)∧Mod [] w w':=by
 have hcb:=ae h.aQ;have hln:=fun ty w=>fY (ty:=ty) Tryz.underlying229 h.row w
 clear h;go_enter Tryz.func137,Tryz.ntmps137;go_wp2;go_ret;exact⟨rfl,Mod.refl _ _⟩
def jn (S:List Slot) (k:Int):Value:=.tuple #[.int .i64 (if 0≤k then(match S[k.toNat]? with|some (g,true)=>g|_=>0)else 0),.bool (if 0≤k then(match S[k.toNat]? with|some (_,true)=>true|_=>false)else false)]
theorem tu (k:Int):Calls Tryz.prog 138 #[.pointer (some ⟨b,0,none⟩),.int .i64 k] w fun e w'=>e=.returned (jn S k)∧Mod [] w w':=by
 have hS:=zh (ni h);by_cases hk:k<0
 ·have hV:jn S k=.tuple #[.int .i64 0,.bool false]:=by unfold jn;rw[if_neg (by omega),if_neg (by omega)]
  rw[hV];clear h hV;go_enter Tryz.func138,Tryz.ntmps138;go_wp2_with fail;go_ret2;exact⟨rfl,Mod.refl _ _⟩
 ·by_cases hn:k<S.length
  ·obtain⟨j,rfl⟩:=Int.eq_ofNat_of_zero_le (show 0≤k by omega);have hj:j<S.length:=by omega
   have hrow:=h.row;obtain⟨g,cap,rfl,_,hg⟩:=cW hrow (by omega);have e1:=(hrow.cellAt (j*2) (by omega)).trans (jZ S j hj).1;have e2:=(hrow.cellAt (j*2+1) (by omega)).trans (jZ S j hj).2;have hblk:=h.aQ;have hV:jn S j=.tuple #[.int .i64 (if S[j].2 then S[j].1 else 0),.bool S[j].2]:=by
    unfold jn;simp only[if_pos (show(0:Int)≤j by omega),Int.toNat_natCast,List.getElem?_eq_getElem hj];obtain⟨x,y⟩:=S[j];cases y<;>rfl
   rw[hV];clear h hV;generalize S[j]=s at*;obtain⟨ge,lv⟩:=s;simp only at e1 e2;go_enter Tryz.func138,Tryz.ntmps138;go_wp2_with fail;refine hS.out.mono ?_;rintro e w1 ⟨rfl,hm1⟩;have hcb:=ae (hm1.at hblk (by simp));have c1:=(bg hm1 hg (by simp)).trans e1;have c2:=(bg hm1 hg (by simp)).trans e2;clear e1 e2 hrow hS
   cases lv with
   |true=>
    go_wp2_with fail;go_ret2;exact⟨rfl,hm1⟩
   |false=>
    go_wp2_with fail;go_ret2;exact⟨rfl,hm1⟩
  ·have hV:jn S k=.tuple #[.int .i64 0,.bool false]:=by
    unfold jn;rw[List.getElem?_eq_none (by omega)];split<;>rfl
   rw[hV];clear h hV;go_enter Tryz.func138,Tryz.ntmps138;go_wp2_with fail;refine hS.out.mono ?_;rintro e w1 ⟨rfl,hm1⟩;go_wp2_with fail;go_ret2;exact⟨rfl,hm1⟩
end
end Go.Proofs.YtdehaommhbjakaaGreat.Tb
