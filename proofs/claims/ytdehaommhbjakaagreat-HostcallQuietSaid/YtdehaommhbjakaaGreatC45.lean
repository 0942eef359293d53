/- Joined contracts. No conditions. -/
import Derived.Test.YtdehaommhbjakaaGreatC40
import Derived.Test.YtdehaommhbjakaaGreatC41
import Derived.Test.YtdehaommhbjakaaGreatC42
import Derived.Test.YtdehaommhbjakaaGreatC43
import Derived.Test.YtdehaommhbjakaaGreatC44
set_option maxHeartbeats 8000000
set_option maxRecDepth 20000
namespace Go.Proofs.YtdehaommhbjakaaGreat
open RowKit Stg
section
variable {c:HC} {k:Nat} {s:HS}
theorem yW {p op h arg:Int} {r:Int×HS} (hI:az c k s) (hr:s.st p=1→az c (k+1) r.2) (ho:1≤op∧op≤11) (hh:s.st p=1→0≤h∧h≤18446744073709551615) (ha:0≤arg∧arg≤18446744073709551615) (he:s.st p=1→0≤r.1∧r.1≤29):az c (k+2) (act c s p op h arg r).2:=by
 unfold act;split
 ·exact hI.up (by omega)
 ·rename_i h1;have hst:s.st p=1:=Classical.byContradiction h1;split
  ·exact(xV hI p).up (by omega)
  ·exact Fu (hr hst) ⟨hI.alive hst,.inl ho,hh hst,ha,he hst⟩
theorem vU (n:Int):0≤u64 n∧u64 n≤18446744073709551615:=by unfold u64;omega
theorem BF (hI:az c k s) (p o off:Int) {b:List Int} (hb:∀x∈b,0≤x∧x≤255):az c k (dX s p o off b).2:=by
 unfold dX;split
 ·exact hI
 ·rename_i h;have hE:aV s p o 2=0:=Classical.byContradiction h;split
  ·exact hI
  ·rename_i hw;obtain⟨x,y,rfl,e,hf⟩:=rC (off:=off) (n:=b.length) (size:=fQ s o) (by omega) (by simpa using hw);obtain⟨j,xo,xl,hj,hjn,hlv,hent,hxo,hxl,hby,hmx,hms,hus,hob⟩:=mE hI (gi hE);exact(s4 hI (gi hE) hj (off:=x) (by omega) (b:=b) (by omega) hb).1
theorem Ae (hI:az c k s) (p o off:Int) (b:List Int):0≤(dX s p o off b).1∧(dX s p o off b).1≤29:=by
 have:=kC hI p o 2;unfold dX;split
 ·exact this
 ·split<;>simp only<;>omega
theorem Cg (hc:c.Ok) (hI:az c k s) {p:Int} (hp:s.st p=1) (tag d:Int):az c k (df c s p tag d):=by
 by_cases h:cS c s p tag=0
 ·exact(pQ hc hI hp h).2.inv
 ·rw[(lx h d).1];exact hI
theorem BN (hc:c.Ok) (hI:az c k s) {p:Int} (hp:s.st p=1) {tag:Int} (d:Int) (h:cS c s p tag=0):0≤Tb.ju c.first s.T p tag d∧Tb.ju c.first s.T p tag d≤18446744073709551615:=by
 obtain⟨hok,hcm⟩:=pQ hc hI (d:=d) hp h;obtain⟨hjn,hd,hl,he,hoth⟩:=x7 hI.ew hc.f1 hc.f2 (bJ c s tag).1 (bJ c s tag).2 d hok;have hT:(df c s p tag d).T=Tb.dp c.first s.T p tag (bJ c s tag).1 (bJ c s tag).2 d:=by unfold df;rw[if_pos h]
 obtain⟨_,_,r⟩:=D7 hcm.inv.ew hjn hc.n (by rw[hT];exact hl) hc.f1;rw[hT,he]at r;unfold Tb.ju;rw[if_pos hok];exact r
theorem uy (hc:c.Ok) (hI:az c k s) {p:Int} (hp:s.st p=1) (tag d:Int):0≤fM c s p tag d∧fM c s p tag d≤18446744073709551615:=by
 unfold fM;split
 ·rename_i h;exact BN hc hI hp d h
 ·omega
theorem wj (hI:az c k s) (p:Int):az c (k+1) (fw s p).2:=by
 unfold fw;split
 ·exact hI.up (by omega)
 ·rename_i hr;split
  ·exact hI.up (by omega)
  ·rename_i h0;have hst:s.st p=0:=Classical.byContradiction h0;have hu:=ze hI (e:=⟨p,32,0,0,0⟩) ⟨by simp only;omega,.inr (.inl rfl),by simp only;omega,by simp only;omega,by simp only;omega⟩;have hne:∀q,s.st q=1→eJ s.st p 1 q=1:=fun q hq=>by unfold eJ;split<;>first|rfl|exact hq
   refine⟨hu.ew,hu.e9,hu.jS,hu.kA,hu.lQ,hu.kz,hu.nJ,hu.lM,hu.eA,fun e he=> ?_,hu.k9,hu.mem,hu.ko,hu.dead,fun b hb=> ?_,hu.lim,fun q=> ?_⟩
   ·obtain⟨k1,k2,k3⟩:=hI.cG e he;exact⟨hne _ k1,k2,k3⟩
   ·obtain⟨k1,k2⟩:=hI.jE b hb;exact⟨hne _ k1,k2⟩
   ·show eJ s.st p 1 q=0∨(_∧(eJ s.st p 1 q=1∨eJ s.st p 1 q=2));unfold eJ;by_cases e:q=p
    ·rw[if_pos e,e];exact .inr ⟨by omega,.inl rfl⟩
    ·rw[if_neg e];exact hI.st q
theorem inv_def (hI:az c k s) (t:Ty.Ty):az c k (iO s t):=by
 have hR:s.R<+:Ty.da s.R t:=by
  unfold Ty.da
  repeat' split
  all_goals first|exact List.prefix_refl _|exact List.prefix_append _ _
 have hlk:∀tag:Int,1≤tag∧tag≤s.R.length→Ty.aN (Ty.da s.R t) tag=Ty.aN s.R tag:=fun tag h=>by
  obtain⟨z,hz⟩:=hR;rw[←hz];unfold Ty.aN;rw[if_pos (by simp only[List.length_append];omega),if_pos h,List.getD_eq_getElem?_getD,List.getD_eq_getElem?_getD,List.getElem?_append_left (by omega)]
 have hsz:∀tag:Int,1≤tag∧tag≤s.R.length→bI (iO s t) tag=bI s tag:=fun tag h=>by
  unfold bI ja;rw[show(iO s t).R=Ty.da s.R t from rfl,hlk tag h]
 have hlen:=hR.length_le;have g1:∀x∈Ty.da s.R t,Ty.du x:=by
  unfold Ty.da;split
  ·rename_i h;intro x hx;rcases List.mem_append.1 hx with hx|hx
   ·exact hI.kA x hx
   ·rw[List.mem_singleton.1 hx];exact h.1
  ·exact hI.kA
 have g2:(Ty.da s.R t).length≤255:=by
  have:=hI.lQ;unfold Ty.da;split
  ·simp only[List.length_append,List.length_cons,List.length_nil];omega
  ·exact this
 refine⟨hI.ew,hI.e9,hI.jS,g1,g2,hI.kz,hI.nJ,hI.lM,hI.eA,fun e he=> ?_,hI.k9,fun j hj hl=> ?_,hI.ko,hI.dead,hI.jE,hI.lim,hI.st⟩
 ·obtain⟨k1,k2,k3⟩:=hI.cG e he;refine⟨k1,⟨k2.1,?_⟩,?_⟩
  ·show e.tag≤(Ty.da s.R t).length;omega
  ·rw[hsz _ k2];exact k3
 ·show((bH s j).length:Int)=bI (iO s t) (Tb.aD s.T.E j).tag;rw[hsz _ (hI.cG _ (ic hj hl)).2.1];exact hI.mem j hj hl
theorem Au (hc:c.Ok) (hI:az c k s) (p tag d:Int):az c (k+2) (gd c s p tag d).2:=
 yW hI (fun h=>(Cg hc hI h tag d).up (by omega)) (by omega) (fun h=>uy hc hI h tag d) (vU _) fun _=>ux p tag
section
variable {o:Int} (o0:0≤o) (o1:o≤18446744073709551615)
include o0 o1
theorem As (hI:az c k s) (p off:Int) {b:List Int} (hb:∀x∈b,0≤x∧x≤255):az c (k+2) (fZ c s p o off b).2:=
 yW hI (fun _=>(BF hI p o off hb).up (by omega)) (by omega) (fun _=>⟨o0,o1⟩) (vU _) fun _=>Ae hI p o off b
end
end
end Go.Proofs.YtdehaommhbjakaaGreat
namespace Go.Proofs.YtdehaommhbjakaaGreat
open RowKit Stg
structure pf (c:HC) (s:HS) (d:RD):Prop where
 R:d.R=s.R
 T:d.T=s.T
 L:d.L=s.L
 U:d.U.Perm (bA c s)
 has:∀p,Qt.zA p d.M=aF c s p
 keys:nB d.M
 evs:d.evs=s.evs
 miss:d.miss=s.miss
 B:d.B=s.mem
 st:d.st=s.st
def gV (a:RA) (c:HC) (s:HS):ai:=⟨fun w f=>∃d,pf c s d∧(fT a c d).on w f,fun⟨d,h,k⟩ hm hT=>⟨d,h,(fT a c d).bj k hm hT⟩,fun⟨d,_,k⟩=>(fT a c d).lt k⟩
section
variable {F:List Nat} {W w:World} {cs:List ai} {a:RA} {c:HC} {s:HS}
theorem yY (h:af F W (gV a c s::cs) w):∃d,pf c s d∧af F W (fT a c d::cs) w:=by
 obtain⟨h1,fp,⟨f,g,⟨d,hd,hf⟩,hg,he,rfl⟩,h2⟩:=h;exact⟨d,hd,h1,f++g,⟨f,g,hf,hg,he,rfl⟩,h2⟩
theorem s5 {d:RD} (hd:pf c s d) (h:af F W (fT a c d::cs) w):af F W (gV a c s::cs) w:=h.imp 0 (c':=gV a c s) rfl fun _ hg=>⟨d,hd,hg⟩
end
end Go.Proofs.YtdehaommhbjakaaGreat
namespace Go.Proofs.YtdehaommhbjakaaGreat.Ty
open RowKit Stg
theorem vH (fs:List aM) (h:∀f∈fs,Small f):∀k,k≤fs.length→0≤(bu (fs.take k)).1∧(bu (fs.take k)).1≤k*17∧1≤(bu (fs.take k)).2∧(bu (fs.take k)).2≤8
 |0,_=>by simp[bu]
 |k+1,hk=>by
  obtain⟨h1,h2,h3,h4⟩:=vH fs h k (by omega);rw[jJ fs (show k<fs.length by omega),mV];obtain⟨g1,g2,g3⟩:=rL (h fs[k] (List.getElem_mem _));obtain⟨_,_,_,_,g4⟩:=jh g1;generalize fs[k]=f at*;generalize bu (fs.take k)=s at*;have hu:=jI (n:=s.1) (k:=cu f) (by omega);unfold lL;simp only;omega
theorem Eo {len:Int} {fs:List aM} (h:Made len fs):bS len fs=0:=by
 obtain⟨hs,hl⟩:=h;have hg:Good fs:=fun f hf=>(rL (hs f hf)).1
 have hb:¬kY len fs:=by
  unfold kY;omega
 have hz:cC len fs≤65536:=by
  unfold cC;rcases hl with⟨h0,h1,h2⟩|⟨h0,h1,h2⟩
  ·rw[if_neg (by omega)];unfold jQ;have:=vH fs hs fs.length (Nat.le_refl _);rw[List.take_length]at this;have hu:=jI (n:=(bu fs).1) (k:=(bu fs).2) (by omega);omega
  ·rw[if_pos (by omega),oX h2];have:=rL (hs fs[0] (List.getElem_mem _));have h3:len*wid fs[0]≤5*9:=Int.mul_le_mul h1 this.2.2 (by omega) (by omega);omega
 unfold bS;rw[if_neg (by omega),if_neg (by omega),if_neg hb,if_neg (by omega),if_neg (by rw[nP hg];simp),if_neg (by omega)]
theorem uK {len:Int} {fs:List aM} (h:Made len fs):0≤len∧len≤5∧1≤fs.length∧fs.length≤4:=by
 rcases h.2 with h|h<;>omega
end Go.Proofs.YtdehaommhbjakaaGreat.Ty
namespace Go.Proofs.YtdehaommhbjakaaGreat.Ty
open RowKit Stg
def cO (b K A B:Nat):ai:=
 ⟨fun w f=>dM w b K A B∧f=List.range' A (B-A),
  fun h hm hT=>⟨h.1.jy hm fun x hx=>by
   by_cases hA:x<A
   ·exact .inl hA
   ·by_cases hB:B≤x
    ·exact .inr hB
    ·exact absurd hx (hT x (by rw[h.2,List.mem_range'_1];omega)),h.2⟩,
  fun h x hx=>by
  have:=h.1.lt;rw[h.2,List.mem_range'_1]at hx;omega⟩
theorem zj {F:List Nat} {W w:World} {cs:List ai} (h:af F W cs w) (v:Value) (xs:List Int) (most:Nat) (hmost:most≤1000) (hx:eQ w v xs):
  Calls Tryz.prog 15 #[v,.int .i64 most] w fun e w'=>∃b A B,e=.returned (.pointer (some ⟨b,0,none⟩))∧af F W (cO b 0 A B::cs) w':=
 (tN v xs most hmost w hx).mono fun _ w' ⟨b,h1,h2,h3,_⟩=>⟨b,w.heap.size,w'.heap.size,h1,h.add (c:=cO b 0 w.heap.size w'.heap.size) h2 ⟨h3,rfl⟩ fun x hx=>by rw[List.mem_range'_1]at hx;omega⟩
theorem tr {F:List Nat} {W w:World} {cs:List ai} {b K A B:Nat} (h:af F W (cO b K A B::cs) w) (hK:K≤1000):
  Calls Tryz.prog 46 #[.pointer (some ⟨b,0,none⟩)] w fun e w'=>∃(len:Int) (g cap:Nat) (fs:List aM),e=.returned (.agg #[.int .i64 len,.slice (some ⟨g,0,none⟩) fs.length cap])∧Made len fs∧
   af F W (aT (.slice (some ⟨g,0,none⟩) fs.length cap) fs.length 51 2 (ax fs)::cO b (K+12) A B::cs) w':=by
 obtain⟨f,⟨h1,h2⟩,hk⟩:=h.part 0 rfl;refine(DL b K A B w h1 hK).mono ?_;rintro e w' ⟨len,g,cap,fs,he,hF,hM,hcap,hm,hg,hT,hr⟩;refine⟨len,g,cap,fs,he,hM,?_⟩;have hl:=hT.lt;have h3:=hk w' ([g]++(f++[])) (ai.all [aT (.slice (some ⟨g,0,none⟩) fs.length cap) fs.length 51 2 (ax fs),cO b (K+12) A B]) ⟨[g],f++[],⟨hr,rfl⟩,⟨f,[],⟨hT,h2⟩,rfl,by simp,rfl⟩,fun x hx hx2=> ?_,rfl⟩ (hm.mono fun x hx=> ?_) (fun x hx=> ?_)
 ·exact h3.split
 ·rw[List.mem_singleton.1 hx,List.append_nil,h2,List.mem_range'_1]at hx2;have:=h1.lt;omega
 ·rw[List.mem_singleton.1 hx,h2,List.mem_range'_1];obtain⟨_,_,_,_,_,_,_,_,⟨q1,q2⟩,_⟩:=h1;omega
 ·rw[List.append_nil]at hx;rcases List.mem_append.1 hx with hx|hx
  ·right;rw[List.mem_singleton.1 hx];exact hg
  ·exact .inl hx
end Go.Proofs.YtdehaommhbjakaaGreat.Ty
namespace Go.Proofs.YtdehaommhbjakaaGreat
open RowKit Stg
abbrev qP:=Int×Nat×Nat×List Ty.aM
def mA (t:qP):ai:=aT (.slice (some ⟨t.2.1,0,none⟩) t.2.2.2.length t.2.2.1) t.2.2.2.length 51 2 (Ty.ax t.2.2.2)
end Go.Proofs.YtdehaommhbjakaaGreat
namespace Go.Proofs.YtdehaommhbjakaaGreat
open RowKit Stg
structure tP (F:List Nat) (W:World) (ds:List ai) (sb:Nat) (L:List Ty.Ty):Prop where
 aQ:∃(j:Nat) (xs:Array Value),ds[j]? =some (aj sb (.cells xs 54 (0,0)))∧∀k (h:k<L.length),∃a m c,xs[k*2]? =some (.int .i64 L[k].1)∧xs[k*2+1]? =some (.slice a m c)∧∀ps qs w,af F W (ps++(ds++qs)) w→Ty.aw w (.slice a m c) L[k].2
 made:∀t∈L,Ty.Made t.1 t.2
def nM (t:qP):Ty.Ty:=(t.1,t.2.2.2)
theorem CT {F:List Nat} {W:World} {ds:List ai} {sb:Nat} {t1 t2 t3:qP} (h0:ds[0]? =some (aj sb (.cells #[.int .i64 t1.1,.slice (some ⟨t1.2.1,0,none⟩) t1.2.2.2.length t1.2.2.1,.int .i64 t2.1,.slice (some ⟨t2.2.1,0,none⟩) t2.2.2.2.length t2.2.2.1,.int .i64 t3.1,.slice (some ⟨t3.2.1,0,none⟩) t3.2.2.2.length t3.2.2.1] 54 (0,0))))
  (i1:ds[4]? =some (mA t1)) (i2:ds[3]? =some (mA t2)) (i3:ds[2]? =some (mA t3)) (h1:Ty.Made t1.1 t1.2.2.2) (h2:Ty.Made t2.1 t2.2.2.2) (h3:Ty.Made t3.1 t3.2.2.2):tP F W ds sb [nM t1,nM t2,nM t3]:=by
 have row:∀(t:qP) (i:Nat),ds[i]? =some (mA t)→∀ps qs w,af F W (ps++(ds++qs)) w→Ty.aw w (.slice (some ⟨t.2.1,0,none⟩) t.2.2.2.length t.2.2.1) t.2.2.2:=fun t i hi ps qs w hS=>
  Ty.fW (hS.row (ps.length+i) (by rw[List.getElem?_append_right (by omega),Nat.add_sub_cancel_left,List.getElem?_append_left (List.getElem?_eq_some_iff.1 hi).1,hi];rfl)) rfl
 refine⟨⟨0,_,h0,fun k hk=> ?_⟩,?_⟩
 ·match k,hk with
  |0,_=>exact⟨_,_,_,rfl,rfl,row t1 4 i1⟩
  |1,_=>exact⟨_,_,_,rfl,rfl,row t2 3 i2⟩
  |2,_=>exact⟨_,_,_,rfl,rfl,row t3 2 i3⟩
 ·intro t ht;simp only[List.mem_cons,List.not_mem_nil,or_false]at ht;rcases ht with rfl|rfl|rfl
  ·exact h1
  ·exact h2
  ·exact h3
theorem af.ahead {F:List Nat} {W w:World} {c:ai} {ds cs:List ai} (h:af F W (ds++c::cs) w):af F W (c::(ds++cs)) w:=by
 obtain⟨hm,fp,hh,h4⟩:=h;obtain⟨f1,g1,k1,⟨f,g,q1,q2,q3,rfl⟩,k3,rfl⟩:=hh.qA;refine⟨hm,f++(f1++g),⟨f,f1++g,q1,aU.append k1 q2 (fun x hx hg=>k3 x hx (List.mem_append_right _ hg)),fun x hx hg=> ?_,rfl⟩,fun x hx=>h4 x ?_⟩
 ·rcases List.mem_append.1 hg with h|h
  ·exact k3 x h (List.mem_append_left _ hx)
  ·exact q3 x hx h
 ·simp only[List.mem_append]at hx⊢;rcases hx with h|h|h
  ·exact .inr (.inl h)
  ·exact .inl h
  ·exact .inr (.inr h)
theorem Ex {F:List Nat} {W w:World} {cs:List ai} {b A B:Nat} (hS:af F W (Ty.cO b 0 A B::cs) w):
  Calls Tryz.prog 16 #[.pointer (some ⟨b,0,none⟩)] w fun e w'=>∃(sb:Nat) (L:List Ty.Ty) (ds:List ai),e=.returned (.slice (some ⟨sb,0,none⟩) 3 3)∧L.length=3∧tP F W ds sb L∧af F W (ds++cs) w':=by
 have hSH:=zh hS;clear hS;go_enter Tryz.func16,Tryz.ntmps16;go_wp2_with fail;refine(Ty.tr hSH.out (by omega)).mono ?_;rintro e w1 ⟨l1,g1,c1,f1,rfl,h1,hS1⟩;have hS1:=zh hS1.swap;have h1:=zh h1;clear hSH;go_wp2_with fail;refine(Ty.tr hS1.out (by omega)).mono ?_;rintro e w2 ⟨l2,g2,c2,f2,rfl,h2,hS2⟩;have hS2:=zh hS2.swap;have h2:=zh h2;clear hS1;go_wp2_with fail;refine(Ty.tr hS2.out (by omega)).mono ?_;rintro e w3 ⟨l3,g3,c3,f3,rfl,h3,hS3⟩;have hS4:=zh (hS3.swap.alloc (.cells #[.int .i64 l1,.slice (some ⟨g1,0,none⟩) f1.length c1,.int .i64 l2,.slice (some ⟨g2,0,none⟩) f2.length c2,.int .i64 l3,.slice (some ⟨g3,0,none⟩) f3.length c3] 54));have h3:=zh h3;clear hS2 hS3;go_wp2_with fail;go_ret;exact⟨_,[nM (l1,g1,c1,f1),nM (l2,g2,c2,f2),nM (l3,g3,c3,f3)],[_,_,mA (l3,g3,c3,f3),mA (l2,g2,c2,f2),mA (l1,g1,c1,f1)],rfl,rfl,CT (t1:=(l1,g1,c1,f1)) (t2:=(l2,g2,c2,f2)) (t3:=(l3,g3,c3,f3)) rfl rfl rfl rfl h1.out h2.out h3.out,hS4.out⟩
def dQ (s:HS) (L:List Ty.Ty):HS:=L.foldl iO s
theorem uL (s:HS) {L:List Ty.Ty} {k:Nat} (h:k<L.length):dQ s (L.take (k+1))=iO (dQ s (L.take k)) L[k]:=by
 unfold dQ;rw[List.take_succ_eq_append_getElem h,List.foldl_append];rfl
end Go.Proofs.YtdehaommhbjakaaGreat
namespace Go.Proofs.YtdehaommhbjakaaGreat
open RowKit Stg
section
variable {F:List Nat} {W w:World} {cs:List ai} {a:RA} {c:HC}
theorem AQ {d:RD} (hS:af F W (fT a c d::cs) w) (hok:∀t∈d.R,Ty.du t) (hl:d.R.length≤255) (len:Int) (v:Value) (fs:List Ty.aM) (hF:Ty.aw w v fs) (hn: -9223372036854775808≤len) (hn2:len≤9223372036854775807):
  Calls Tryz.prog 48 #[.pointer (some ⟨a.rb,9,none⟩),.agg #[.int .i64 len,v]] w fun e w'=>e=.returned (Ty.iy d.R (len,fs))∧af F W (fT a c {d with R:=Ty.da d.R (len,fs)}::cs) w':=by
 obtain⟨v',TL,BL,e1,e2,hS0⟩:=s6 hS;have hS1:=af.join [aj a.rb (pg a c v'),aT v'.ty TL.length 54 2 (flat Ty.bZ TL),Ty.gh TL] hS0;have hS2:=hS1.imp 0 (c':=Ty.o5 a.rb (nL a c v') 135 d.R) rfl fun g ⟨f,g',h1,h2,h3,h4⟩=>⟨v'.ty,TL,e1,hok,hl,f,g',yM (show 9<23 by omega) rfl h1,h2,h3,h4⟩
 refine(hS2.call 0 (c':=Ty.o5 a.rb (nL a c v') 135 (Ty.da d.R (len,fs))) rfl fun f hf=>Ty.zR hf len v fs hF hn hn2).mono ?_;rintro e w' ⟨he,h1,fp,⟨f,g,⟨sv,L,k1,k2,k3,f1,g1,q1,q2,q3,q4⟩,hg,hd,rfl⟩,h2⟩;have h5:=af.split (ds:=[aj a.rb (pg a c {v' with ty:=sv}),aT sv L.length 54 2 (flat Ty.bZ L),Ty.gh L]) ⟨h1,_,⟨f,g,⟨f1,g1,yD q1,q2,q3,q4⟩,hg,hd,rfl⟩,h2⟩;exact⟨he,tz (v:={v' with ty:=sv}) (TL:=L) (BL:=BL) k1 e2 h5⟩
theorem AF {k:Nat} {s:HS} (hI:az c k s) (hS:af F W (gV a c s::cs) w) (t:Ty.Ty) (v:Value) (hF:Ty.aw w v t.2) (hn: -9223372036854775808≤t.1) (hn2:t.1≤9223372036854775807):
  Calls Tryz.prog 48 #[.pointer (some ⟨a.rb,9,none⟩),.agg #[.int .i64 t.1,v]] w fun e w'=>e=.returned (Ty.iy s.R t)∧af F W (gV a c (iO s t)::cs) w':=by
 obtain⟨d,hd,hS1⟩:=yY hS;refine(AQ hS1 (by rw[hd.R];exact hI.kA) (by rw[hd.R];exact hI.lQ) t.1 v t.2 hF hn hn2).mono ?_;rintro e w' ⟨he,h⟩;rw[hd.R]at he;exact⟨he,s5 (d:={d with R:=Ty.da d.R t}) ⟨by show Ty.da d.R _=Ty.da s.R _;rw[hd.R],hd.T,hd.L,hd.U,hd.has,hd.keys,hd.evs,hd.miss,hd.B,hd.st⟩ h⟩
theorem Ct {k:Nat} {s:HS} (hI:az c k s) (hk:k≤900) (hS:af F W (gV a c s::cs) w) (p:Int):
  Calls Tryz.prog 18 #[.pointer (some ⟨a.rb,0,none⟩),.int .i64 p] w fun e w'=>e=.returned (.int .i64 (fw s p).1)∧af F W (gV a c (fw s p).2::cs) w':=by
 obtain⟨d,hd,hS1⟩:=yY hS;have hev:=hI.kz;refine(BS hS1 (by rw[hd.evs];omega) p).mono ?_;rintro e w' ⟨he,h⟩;have:(np d p).1=(fw s p).1∧pf c (fw s p).2 (np d p).2:=by
  unfold np fw;rw[hd.st];split
  ·exact⟨rfl,hd⟩
  ·split
   ·exact⟨rfl,hd⟩
   ·exact⟨rfl,hd.R,hd.T,hd.L,hd.U,hd.has,hd.keys,by show d.evs++_=s.evs++_;rw[hd.evs],hd.miss,hd.B,by show eJ _ p 1=eJ s.st p 1;rfl⟩
 rw[this.1]at he;exact⟨he,s5 this.2 h⟩
theorem FW (c:HC):pf c (bL c) (lU c):=
 ⟨rfl,rfl,rfl,by rw[rW];exact List.Perm.refl _,fun p=>by rw[sM];rfl,⟨by simp[lU],by simp[lU]⟩,rfl,rfl,rfl,rfl⟩
end
theorem DW {F:List Nat} {W w:World} {cs:List ai} (hS:af F W cs w) (f:Cf) (hf:bE f) (h1:0≤f.first∧f.first≤4294967295) (h2:f.b≤9223372036854775807∧f.o≤9223372036854775807∧f.r≤9223372036854775807):
  Calls Tryz.prog 47 #[.agg (iA f)] w fun e w'=>∃a:RA,e=.returned (.tuple #[.pointer (some ⟨a.rb,0,none⟩),.int .i64 0])∧af F W (gV a (eZ f) (bL (eZ f))::cs) w':=
 (E8 hS f hf h1 h2).mono fun _ _ ⟨a,he,h⟩=>⟨a,he,s5 (FW _) h⟩
theorem uY {c:HC} {s:HS} (hI:az c 0 s) (L:List Ty.Ty):az c 0 (dQ s L):=by
 induction L generalizing s with
 |nil=>exact hI
 |cons t L ih=>exact ih (inv_def hI t)
theorem En {F:List Nat} {W w:World} {ds qs:List ai} (hS:af F W (ds++qs) w) (f:Cf) (hf:bE f) (h1:0≤f.first∧f.first≤4294967295) (h2:f.b≤9223372036854775807∧f.o≤9223372036854775807∧f.r≤9223372036854775807) {sb:Nat} {L:List Ty.Ty} (hL:L.length=3) (hT:tP F W ds sb L):
  Calls Tryz.prog 17 #[.agg (iA f),.slice (some ⟨sb,0,none⟩) 3 3] w fun e w'=>∃a:RA,e=.returned (.pointer (some ⟨a.rb,0,none⟩))∧af F W (gV a (eZ f) (dQ (bL (eZ f)) L)::(ds++qs)) w':=by
 have hcO:=oL hf h1 h2;have hI0:=sZ hcO;have hS1:=zh (hS.alloc (.cells (iA f) 47));have hnw:=zh fun w' cs (h:af F W cs w')=>DW h f hf h1 h2
 have hTH:=zh hT;clear hS hT hf h1 h2;generalize eZ f=c at*;obtain⟨n,size,first,cap,b,o,r,cA,stack⟩:=f;unfold iA at hS1 hnw⊢;simp only at hS1 hnw⊢;have c0:=ae (hS1.out.block 0 rfl);go_enter Tryz.func17,Tryz.ntmps17;go_wp2_with fail;refine(hnw.out _ _ hS1.out).mono ?_;rintro e w1 ⟨a,rfl,hS2⟩;have hS2:=zh (hS2.erase 1);clear hS1 c0 hnw;go_wp2_with fail;go_loopw [7] (fun i wr=>∃k:Nat,k≤3∧i=.int .i64 k∧af F W (gV a c (dQ (bL c) (L.take k))::(ds++qs)) wr) (fun i _=>3-(intOf i).toNat)
 case atStart=>exact⟨0,by omega,rfl,hS2.out⟩
 case round=>
  obtain⟨k,hk,rfl,hS⟩:=hrel;clear hS2;by_cases hk3:k<3
  ·have hkL:k<L.length:=by omega
   obtain⟨j,xs,hj,hx⟩:=hTH.out.aQ;obtain⟨ta,tm,tc,q0,q1,q2⟩:=hx k hkL;obtain⟨fa,hl,hput,hne⟩:=hS.dJ 0 rfl;have hj:=(List.getElem?_append_left (l₂:=qs) (List.getElem?_eq_some_iff.1 hj).1).trans hj;have hsb:sb∉fa:=hne j sb _ hj;have hb0:wr.heap[sb]? =some (.cells xs 54 (0,0)):=hS.block (j+1) hj;have k1:∀x:GW fa wr,x.1.cell? ⟨sb,k*2,none⟩=some (.int .i64 L[k].1):=fun x=>by rw[GW.cells (S:=fa) hb0 hsb x];exact q0
   have k2:∀x:GW fa wr,x.1.cell? ⟨sb,k*2+1,none⟩=some (.slice ta tm tc):=fun x=>by rw[GW.cells (S:=fa) hb0 hsb x];exact q1
   have hbd:=Ty.uK (hTH.out.made L[k] (List.getElem_mem hkL));have hop:=zh fun w' (hm:Mod [] wr w')=>AF (uY hI0 (L.take k)) (af.jT (hl w' hm)) L[k] (.slice ta tm tc) ((q2 [_] qs _ hS).mod hm) (by omega) (by omega)
   have hnx:=uL (bL c) hkL;have hputH:=zh hput;rw[←hnx]at hop;have hSk:=zh hS;clear hS hl hput hne hj hx q0 q1 q2 hb0 hnx hbd;generalize L[k]=t at*;generalize dQ (bL c) (L.take k)=s0 at*;generalize hs1:dQ (bL c) (L.take (k+1))=s1 at*;have hs1:=zh hs1;go_wp2_with fail;refine bV fa (by kernel_rfl) (by kernel_rfl) ?_;refine sq 7 ?_;refine cE 48 #[.pointer (some ⟨a.rb,9,none⟩),.agg #[.int .i64 t.1,.slice ta tm tc]] (Ty.iy s0.R t) rfl Tryz.call48 rfl rfl (fun w' hm=>(hop.out w' hm).mono fun e w'' ⟨he,h⟩=>by subst he;exact af.kd h) ?_;simp only[Act.put,sA,sB,sC];refine au fun w2 aP=> ?_
   have hS3:=zh (hputH.out w2 _ aP);clear k1 k2 hop hputH aP hSk;go_wp2_with fail;go_roundw
   case rel=>exact⟨k+1,by omega,by go_num,by rw[hs1.out];exact hS3.out⟩
   case measure=>simp[intOf];omega
  ·obtain rfl:k=3:=by omega
   rw[List.take_of_length_le (by omega)]at hS;have hS:=zh hS;go_wp2_with fail;go_ret;exact⟨a,rfl,hS.out⟩
end Go.Proofs.YtdehaommhbjakaaGreat
namespace Go.Proofs.YtdehaommhbjakaaGreat
open RowKit Stg
def tV (w:World) (q:Option Addr):Prop:=q=none∨∃b,q=some ⟨b,0,none⟩∧w.heap[b]? =some (.cells #[.pointer none,.pointer none,.pointer none,.pointer none,.pointer none,.pointer none,.map none] 76 (0,0))
theorem tV.mod {w w':World} {q:Option Addr} (h:tV w q) (hm:Mod [] w w'):tV w' q:=by
 rcases h with h|⟨b,h1,h2⟩
 ·exact .inl h
 ·exact .inr ⟨b,h1,hm.at h2 (by simp)⟩
end Go.Proofs.YtdehaommhbjakaaGreat
namespace Go.Proofs.YtdehaommhbjakaaGreat
open RowKit Stg
def aA (x:Int):Int:=if 1048576<x then -1 else x
theorem Fc (x:Int) (h0:0≤x) (w:World):Calls Tryz.prog 115 #[.int .u64 x] w fun e w'=>e=.returned (.int .i64 (aA x))∧Mod [] w w':=by
 unfold aA;by_cases h:1048576<x
 ·rw[if_pos h];go_enter Tryz.func115,Tryz.ntmps115;go_wp2_with fail;go_ret;exact⟨rfl,Mod.refl _ _⟩
 ·rw[if_neg h];have hw:wrap64 x=x:=by unfold wrap64;omega
  have hd:decide (1048576<x)=false:=by simp;omega
  clear h;go_enter Tryz.func115,Tryz.ntmps115;go_wp2_with fail;go_ret;exact⟨congrArg (fun z=>Ending.returned (.int .i64 z)) hw,Mod.refl _ _⟩
structure tL (w:World) (cb:Nat) (hv:Value) (p:Int) (tv:Value) (ab n cap:Nat) (d:Int) (cs:Array Value) (T:TypeId) (xs:Nat→Int):Prop where
 aQ:w.heap[cb]? =some (.cells #[hv,.int .i64 p,tv,.slice (some ⟨ab,0,none⟩) n cap,.int .u64 d] 82 (0,0))
 arr:w.heap[ab]? =some (.cells cs T (0,0))
 val:∀j,j<n→cs[j]? =some (.int .u64 (xs j))
 pos:∀j,j<n→0≤xs j∧xs j≤18446744073709551615
section
variable {w:World} {cb:Nat} {hv:Value} {p:Int} {tv:Value} {ab n cap:Nat} {d:Int} {cs:Array Value} {T:TypeId} {xs:Nat→Int}
theorem tL.mod {w':World} (h:tL w cb hv p tv ab n cap d cs T xs) (hm:Mod [] w w'):tL w' cb hv p tv ab n cap d cs T xs:=
 ⟨hm.at h.aQ (by simp),hm.at h.arr (by simp),h.val,h.pos⟩
end
end Go.Proofs.YtdehaommhbjakaaGreat
namespace Go.Proofs.YtdehaommhbjakaaGreat
open RowKit Stg
def lW (s:HS) (p o i:Int):Int:=if dt s p o 1 i=0 then tR s o i else 0
theorem G7 {F:List Nat} {W w:World} {cs:List ai} {a:HA} {c:HC} {k:Nat} {s:HS} (hc:c.Ok) (hI:az c k s) (hk:k≤1000) {p o i:Int} (o0:0≤o) (o1:o≤18446744073709551615) {e0:ai} {bo bp bh bi bv:Nat}
  (hS:af F W (aB a c s::e0::aj bv (.cells #[.int .u64 0] 31 (0,0))::aj bi (.cells #[.int .i64 i] 3 (0,0))::aj bo (.cells #[.int .u64 o] 59 (0,0))::aj bp (.cells #[.int .i64 p] 3 (0,0))::aj bh (.cells #[.pointer (some ⟨a.hb,0,none⟩)] 26 (0,0))::cs) w):
  Calls Tryz.prog 112 #[.pointer (some ⟨bh,0,none⟩),.pointer (some ⟨bp,0,none⟩),.pointer (some ⟨bo,0,none⟩),.pointer (some ⟨bi,0,none⟩),.pointer (some ⟨bv,0,none⟩)] w fun e w'=>e=.returned (.int .i64 (dt s p o 1 i))∧af F W (aB a c s::e0::aj bv (.cells #[.int .u64 (lW s p o i)] 31 (0,0))::aj bi (.cells #[.int .i64 i] 3 (0,0))::aj bo (.cells #[.int .u64 o] 59 (0,0))::aj bp (.cells #[.int .i64 p] 3 (0,0))::aj bh (.cells #[.pointer (some ⟨a.hb,0,none⟩)] 26 (0,0))::cs) w':=by
 obtain⟨B,hB,hS0⟩:=eE hS;have hfi:=zh (oB hc hI hk hS0 p o 1 i o0 o1);have c1:=ae (hS0.block 10 rfl);have c2:=ae (hS0.block 11 rfl);have c3:=ae (hS0.block 12 rfl);have c4:=ae (hS0.block 13 rfl);have hS1:=zh hS0;have hBH:=zh hB;by_cases hE:dt s p o 1 i=0
 ·obtain⟨hacc,hty,hpe,hk6⟩:=uH hc hI hE;obtain⟨off,n,hpo,hpn,hwo,hpfit⟩:=yd hty hpe hk6;obtain⟨j,xo,xl,hj,hjn,hlv,hent,hxo,hxl,hby,hmx,hms,hus,hob⟩:=mE hI (gi hacc);have hms':((bH s j).length:Int)=Ty.cC (bG s o).1 (bG s o).2:=hms;have hgw:lW s p o i=ch ((B.drop (xo+off)).take n):=by
   unfold lW tR;rw[if_pos hE,hpo,hpn,hby];unfold gR;rw[Int.toNat_natCast,Int.toNat_natCast];have hu:=hI.eA;rw[←ft]at hu;have:=hB.read hu hob (p:=off) (n:=n) (by simp only;omega) (by simp only;omega);simp only[Int.toNat_natCast]at this;rw[this]
  have hst:=zh fun w' f' (h':(b6 a.ar c.size (bA c s) B).on w' f')=>CH h' hus off n (by omega) hwo
  rw[←hgw]at hst;generalize lW s p o i=G at*;have hEH:=zh hE;have hxoH:=zh hxo;have hxlH:=zh hxl;have hpoH:=zh (And.intro hpo hpn);clear hS hS0 hB hE hacc hty hpe hk6 hpo hpn hpfit hj hlv hent hxo hxl hby hmx hms hms' hus hob hgw;go_enter Tryz.func112,Tryz.ntmps112;go_wp2_with fail;refine hfi.out.mono ?_;rintro e w1 ⟨xh,xw,xt,xf,xn,p1,p2,p3,rfl,hm1,hz⟩;obtain⟨hz1,hz2⟩:=hz hEH.out;have hxf:xf=xo:=by rw[←hxoH.out,hz1]
  have hxn:xn=xl:=by rw[←hxlH.out,hz1]
  have hp1:p1=off:=by rw[←hpoH.out.1,hz2]
  have hp2:p2=n:=by rw[←hpoH.out.2,hz2]
  subst hxf hxn hp1 hp2;rw[hEH.out];have hS2:=(((hS1.out.then hm1).alloc (.cells #[.int .u64 xh,.int .i64 xw,.int .i64 xt,.int .i64 xo,.int .i64 xl] 106)).behind.alloc (.cells #[.int .i64 off,.int .i64 n,.int .i64 p3] 211)).behind;rw[size_alloc]at hS2;have hS2:=zh hS2;clear hm1 hS1 hz hz1 hz2 hfi c1 c2 c3 c4 hxoH hxlH hpoH;go_wp2_with fail;generalize w1.heap.size=bx at*;generalize(w1.alloc (.cells #[.int .u64 xh,.int .i64 xw,.int .i64 xt,.int .i64 xo,.int .i64 xl] 106)).alloc (.cells #[.int .i64 off,.int .i64 n,.int .i64 p3] 211)=W1 at*;obtain⟨fv,⟨hbv,rfl⟩,hput,hne⟩:=hS2.out.mD 11 rfl;have k1:=GW.cells (S:=[bv]) (hS2.out.block 0 rfl) (hne 0 _ _ rfl);have k2:=GW.cells (S:=[bv]) (hS2.out.block 8 rfl) (hne 8 _ _ rfl);have k3:=GW.cells (S:=[bv]) (hS2.out.block 9 rfl) (hne 9 _ _ rfl);have k5:=GW.cells (S:=[bv]) (hS2.out.block 15 rfl) (hne 14 _ _ rfl);have hlH:=zh fun w' (hm:Mod [] W1 w')=>hst.out w' _ ((hS2.out.then hm).part 1 rfl).choose_spec.1
  have hbvH:=zh hbv;clear hput hne hst hbv;refine bV [bv] (by kernel_rfl) (by kernel_rfl) ?_;refine sq 10 ?_;refine cX 114 #[.pointer (some ⟨a.ar,0,none⟩),.agg #[.int .i64 xo,.int .i64 xl],.int .i64 off,.int .i64 n] (.tuple #[.int .u64 G,.int .i64 0]) rfl Tryz.call114 rfl rfl hlH.out ?_;refine sq 3 ?_;refine cQ (p:=⟨bv,0,none⟩) (u:=.int .u64 G) (fun w'=>w'.setCell ⟨bv,0,none⟩ (.int .u64 G)) (fun w'=>∃w0,Mod [] W1 w0∧w'=w0.setCell ⟨bv,0,none⟩ (.int .u64 G)) rfl rfl rfl rfl rfl (fun w' hw=> ?_) (fun w' hw=>⟨w',hw,rfl⟩) (fun w' ⟨w0,hw,e⟩=> ?_) ?_
  ·have d1:=ae (hw.at hbvH.out (by simp));have d2:=ay (hw.at hbvH.out (by simp));clear k1 k2 k3 k5 hw;go_simp
  ·subst e;exact ah.of ((hw.mono (by simp)).setCell (.inl (by simp)) _)
  refine sq 1 ?_;refine au fun w2 aP=> ?_
  obtain⟨w0,hm0,rfl⟩:=aP;have hS3:=zh ((((hS2.out.then hm0).bO 11 rfl 0 (.int .u64 G)).erase 8).erase 8);clear k1 k2 k3 k5 hlH hm0 hS2;go_wp2_with fail;go_ret;exact⟨by rw[hEH.out];rfl,cz hBH.out hS3.out⟩
 ·have hfd:lW s p o i=0:=by unfold lW;rw[if_neg hE]
  rw[hfd];generalize hEg:dt s p o 1 i=E at*;have hne:(E != 0)=true:=by simpa using hE
  have hEgH:=zh hEg;clear hS hS0 hB hfd hE hEg;go_enter Tryz.func112,Tryz.ntmps112;go_wp2_with fail;refine hfi.out.mono ?_;rintro e w1 ⟨xh,xw,xt,xf,xn,p1,p2,p3,rfl,hm1,_⟩;rw[hEgH.out];have hS2:=zh (hS1.out.then (((Mod.refl [] w1).alloc (.cells #[.int .u64 xh,.int .i64 xw,.int .i64 xt,.int .i64 xf,.int .i64 xn] 106)).alloc (.cells #[.int .i64 p1,.int .i64 p2,.int .i64 p3] 211) |> hm1.ag));clear hm1 hS1 hfi c1 c2 c3 c4;go_wp2_with fail;go_ret;exact⟨rfl,cz hBH.out hS2.out⟩
theorem GU {F:List Nat} {W w:World} {cs:List ai} {a:HA} {c:HC} {k:Nat} {s:HS} (hc:c.Ok) (hI:az c k s) (hk:k≤900) {p o i:Int} (o0:0≤o) (o1:o≤18446744073709551615) (hS:af F W (aB a c s::cs) w):
  Calls Tryz.prog 56 #[.pointer (some ⟨a.hb,0,none⟩),.int .i64 p,.int .u64 o,.int .i64 i] w fun e w'=>e=.returned (.tuple #[.int .u64 (kP c s p o i),.int .i64 (jR c s p o i).1])∧af F W (aB a c (jR c s p o i).2::cs) w':=by
 have hS1:=((((((((hS.alloc (.cells #[.pointer (some ⟨a.hb,0,none⟩)] 26)).swap.alloc (.cells #[.int .i64 p] 3)).swap.alloc (.cells #[.int .u64 o] 59)).swap.alloc (.cells #[.int .i64 i] 3)).swap.alloc (.cells #[.int .u64 0] 31)).swap.alloc (.cells #[.int .i64 p,.int .i64 3,.int .u64 o,.int .u64 (u64 i),.int .i64 0] 100)).swap));simp only[size_alloc]at hS1;have hr:=uB hc hI p o 1 i;have hu:0≤u64 i∧u64 i≤18446744073709551615:=by unfold u64;omega
 have hact:=zh (vZ (r:=dt s p o 1 i) (g:=112) hI (by omega) hS1 (by omega) hu Tryz.call112 hr ⟨o0,o1⟩ fun _ w' h'=>G7 hc hI (by omega) o0 o1 h');have hv1:s.st p≠1→kP c s p o i=0:=fun h=>by unfold kP jR gB;rw[if_pos h];simp
 have hv2:s.st p=1→kP c s p o i=lW s p o i:=fun h=>by
  unfold kP jR gB lW;by_cases e:dt s p o 1 i=0
  ·simp[h,e]
  ·simp[h,e]
 have hvH:=zh (And.intro hv1 hv2);have hog:gB c s p 3 o (u64 i) (dt s p o 1 i)=jR c s p o i:=rfl;rw[hog]at hact;generalize jR c s p o i=res at*;generalize kP c s p o i=V at*;clear hS hS1 hr hv1 hv2 hog;go_enter Tryz.func56,Tryz.ntmps56;go_wp2_with fail;refine hact.out.mono ?_;rintro e w1 ⟨rfl,er2,cs2,hS2,hcs⟩;rcases hcs with⟨hst,rfl⟩|⟨hst,rfl⟩
 ·have e1:=hvH.out.1 hst;subst e1;have hS2:=zh hS2;have d1:=ae (hS2.out.block 2 rfl);clear hact hst;go_wp2_with fail;go_ret2;exact⟨rfl,(((((hS2.out.erase 1).erase 1).erase 1).erase 1).erase 1).erase 1⟩
 ·have e1:=hvH.out.2 hst;subst e1;have hS2:=zh hS2;have d1:=ae (hS2.out.block 2 rfl);clear hact hst;go_wp2_with fail;go_ret2;exact⟨rfl,(((((hS2.out.erase 1).erase 1).erase 1).erase 1).erase 1).erase 1⟩
end Go.Proofs.YtdehaommhbjakaaGreat
