/- Joined contracts. No conditions. -/
import Derived.Deep.MidRow
import Derived.Test.YtdehaommhbjakaaGreatC06
set_option maxHeartbeats 1000000
namespace Go
namespace Stg
section
variable {α:Type}
def flat (f:α→List Value) (L:List α):List Value:=L.flatMap f
theorem wI (f:α→List Value) (a:α) (L:List α):flat f (a::L)=f a++flat f L:=rfl
theorem lY (f:α→List Value) (L M:List α):flat f (L++M)=flat f L++flat f M:=by simp[flat]
theorem mg (f:α→List Value) (a:α):flat f [a]=f a:=by simp[flat]
variable {f:α→List Value} {m:Nat} (hm:∀a,(f a).length=m)
include hm
theorem gZ (L:List α):(flat f L).length=L.length*m:=by
 induction L with
 |nil=>simp[flat]
 |cons a L ih=>rw[wI,List.length_append,hm,ih,List.length_cons,Nat.succ_mul];omega
theorem ml (L:List α):∀(j k:Nat) (hj:j<L.length),k<m→(flat f L)[j*m+k]? =(f L[j])[k]? :=by
 induction L with
 |nil=>intro j k hj;simp at hj
 |cons a L ih=>
  intro j k hj hk;rw[wI]
  cases j with
  |zero=>rw[Nat.zero_mul,Nat.zero_add,List.getElem?_append_left (by rw[hm];exact hk)];rfl
  |succ j=>
   rw[List.getElem?_append_right (by rw[hm,Nat.succ_mul];omega),hm,show(j+1)*m+k-m=j*m+k by rw[Nat.succ_mul];omega];exact ih j k (by simpa using hj) hk
omit hm in
end
def kf:List Value→Nat→List Value→List Value
 |xs,_,[]=>xs
 |xs,o,v::r=>kf (xs.set o v) (o+1) r
theorem pW:∀(vs xs:List Value) (o i:Nat),(kf xs o vs)[i]? =if o≤i∧i<o+vs.length∧i<xs.length then vs[i-o]? else xs[i]?
 | [],xs,o,i=>by rw[if_neg (by simp;omega)];rfl
 |v::r,xs,o,i=>by
  rw[kf,pW r];by_cases h1:o=i
  ·subst h1;rw[if_neg (by omega)];by_cases h2:o<xs.length
   ·rw[if_pos (by simp;omega)];simp[h2]
   ·rw[if_neg (by omega),List.getElem?_eq_none (by simp;omega),List.getElem?_eq_none (by omega)]
  ·rw[List.getElem?_set_ne h1,List.length_set,List.length_cons];by_cases h2:o+1≤i∧i<o+1+r.length∧i<xs.length
   ·rw[if_pos h2,if_pos (by omega),show i-o=(i-(o+1))+1 by omega];rfl
   ·rw[if_neg h2,if_neg (by omega)]
section
variable {α:Type} {f:α→List Value} {m:Nat} (hm:∀a,(f a).length=m)
include hm
theorem Ej (hm0:0<m) (L:List α) (j:Nat) (hj:j<L.length) (a:α):kf (flat f L) (j*m) (f a)=flat f (L.set j a):=by
 apply List.ext_getElem?;intro i;rw[pW,hm,gZ hm];by_cases hi:i<L.length*m
 ·have hq:i/m<L.length:=Nat.div_lt_of_lt_mul (by rw[Nat.mul_comm];exact hi);have hr:i%m<m:=Nat.mod_lt _ hm0;have e:i/m*m+i%m=i:=Nat.div_add_mod' i m;generalize i/m=q at*;generalize i%m=r at*;have e2:=ml hm (L.set j a) q r (by simpa using hq) hr;have e1:=ml hm L q r hq hr;rw[e]at e1 e2;rw[e1,e2];by_cases hqj:q=j
  ·subst hqj;rw[if_pos ⟨by omega,by omega,hi⟩,List.getElem_set_self,show i-q*m=r by omega]
  ·rw[List.getElem_set_ne (Ne.symm hqj),if_neg];rintro⟨h1,h2,_⟩;rcases Nat.lt_or_gt_of_ne hqj with h|h
   ·have:=Nat.mul_le_mul_right m (show q+1≤j by omega);rw[Nat.succ_mul]at this;omega
   ·have:=Nat.mul_le_mul_right m (show j+1≤q by omega);rw[Nat.succ_mul]at this;omega
 ·rw[if_neg (by omega),List.getElem?_eq_none (by rw[gZ hm];omega),List.getElem?_eq_none (by rw[gZ hm,List.length_set];omega)]
end
section
variable {α:Type} {f:α→List Value} {m:Nat} (hm:∀a,(f a).length=m)
include hm
theorem CI (L:List α) (j k:Nat) (hj:j<L.length) (hk:k<m) (a:α) (u:Value) (ha:f a=(f L[j]).set k u):(flat f L).set (j*m+k) u=flat f (L.set j a):=by
 have hm0:0<m:=by omega
 apply List.ext_getElem?;intro i;by_cases hi:i<L.length*m
 ·have hq:i/m<L.length:=Nat.div_lt_of_lt_mul (by rw[Nat.mul_comm];exact hi);have hr:i%m<m:=Nat.mod_lt _ hm0;have e:i/m*m+i%m=i:=Nat.div_add_mod' i m;generalize i/m=q at*;generalize i%m=r at*;have e2:=ml hm (L.set j a) q r (by simpa using hq) hr;have e1:=ml hm L q r hq hr;rw[e]at e1 e2;rw[e2];by_cases hqj:q=j
  ·subst hqj;rw[List.getElem_set_self,ha];by_cases hrk:r=k
   ·subst hrk;rw[←e,List.getElem?_set_self (by rw[gZ hm];rw[e];exact hi),List.getElem?_set_self (by rw[hm];exact hk)]
   ·rw[List.getElem?_set_ne (by omega),List.getElem?_set_ne (by omega),e1]
  ·rw[List.getElem_set_ne (Ne.symm hqj),List.getElem?_set_ne,e1];intro e3;rcases Nat.lt_or_gt_of_ne hqj with h|h
   ·have:=Nat.mul_le_mul_right m (show q+1≤j by omega);rw[Nat.succ_mul]at this;omega
   ·have:=Nat.mul_le_mul_right m (show j+1≤q by omega);rw[Nat.succ_mul]at this;omega
 ·rw[List.getElem?_eq_none (by rw[List.length_set,gZ hm];omega),List.getElem?_eq_none (by rw[gZ hm,List.length_set];omega)]
end
theorem rk {base e sz g n cap:Nat}:∀(vs xs:List Value) (o:Nat) (w:World),w.ownsRow base e sz (.slice (some ⟨g,0,none⟩) n cap) n xs→(w.setCells g o vs).ownsRow base e sz (.slice (some ⟨g,0,none⟩) n cap) n (kf xs o vs)
 | [],_,_,_,h=>h
 |v::r,xs,o,w,h=>by
  rw[World.setCells,kf];exact rk r _ _ _ (h.stored o v).1
theorem Mod.setCells {S:List Nat} {a:World} {b:Nat} (hb:b∈S∨a.heap.size≤b):∀(vs:List Value) (o:Nat) (w:World),Mod S a w→Mod S a (w.setCells b o vs)
 | [],_,_,h=>h
 |v::r,o,w,h=>by
  rw[World.setCells];exact Mod.setCells hb r _ _ (h.setCell (p:=⟨b,o,none⟩) hb v)
section
variable {α:Type} {f:α→List Value} {m:Nat} (hm:∀a,(f a).length=m) {w:World} {base g n cap:Nat} {e:TypeId} {L:List α} (h:w.ownsRow base e m (.slice (some ⟨g,0,none⟩) n cap) n (flat f L)) {j:Nat} (hj:j<L.length) (hn:L.length=n)
include hm h hj hn
theorem eO {k:Nat} (hk:k<m):w.cell? ⟨g,j*m+k,none⟩=(f L[j])[k]? :=by
 rw[h.cellAt (j*m+k) (by subst hn;have:=Nat.mul_le_mul_right m (show j+1≤L.length by omega);rw[Nat.succ_mul]at this;omega)];exact ml hm L j k hj hk
theorem Dg:w.there g (j*m) m:=fun k hk=>by
 refine⟨?_,h.frozenAt _⟩;rw[eO hm h hj hn hk,List.getElem?_eq_getElem (by rw[hm];exact hk)];rfl
omit hn in
theorem Ge (hm0:0<m) (a:α):(w.setCells g (j*m) (f a)).ownsRow base e m (.slice (some ⟨g,0,none⟩) n cap) n (flat f (L.set j a)):=by
 rw[←Ej hm hm0 L j hj a];exact rk _ _ _ _ h
end
def aT (v:Value) (n:Nat) (e:TypeId) (sz:Nat) (xs:List Value):ai:=
 ⟨fun w f=>w.ownsRow 0 e sz v n xs∧f=v.ownBlock.toList,fun h hm hT=>⟨aG h.1 hm fun g hg=>hT g (by rw[h.2,hg];simp),h.2⟩,fun h x hx=>by rw[h.2,Option.mem_toList]at hx;exact(h.1.lt x hx).2⟩
theorem af.grown {F:List Nat} {W w w':World} {cs:List ai} (i:Nat) {v v':Value} {n n' sz:Nat} {e:TypeId} {xs ys:List Value} (h:af F W cs w) (hi:cs[i]? =some (aT v n e sz xs)) (h2:w'.ownsRow 0 e sz v' n' ys) (hg:w.grownBy w' v.ownBlock) (ho:∀x,v'.ownBlock=some x→v.ownBlock=some x∨w.heap.size≤x):
  af F W (cs.set i (aT v' n' e sz ys)) w':=by
 obtain⟨f,⟨_,hf⟩,hk⟩:=h.part i hi;subst hf;exact hk _ _ _ ⟨h2,rfl⟩ ((Mod.refl _ w).grown hg (fun k hk=>.inl (by simp[hk]))) (fun x hx=>(ho x (by simpa using hx)).imp (fun h=>by simp[h]) id)
theorem af.row {F:List Nat} {W w:World} {cs:List ai} (i:Nat) {v:Value} {n sz:Nat} {e:TypeId} {xs:List Value} (h:af F W cs w) (hi:cs[i]? =some (aT v n e sz xs)):w.ownsRow 0 e sz v n xs:=
 let ⟨_,h1,_⟩:=h.part i hi;h1.1
theorem af.y7 {α:Type} {f:α→List Value} {m:Nat} (hm:∀a,(f a).length=m) (hm0:0<m) {F:List Nat} {W w:World} {cs:List ai} (i:Nat) {g cap n:Nat} {e:TypeId} {L:List α}
  (h:af F W cs w) (hi:cs[i]? =some (aT (.slice (some ⟨g,0,none⟩) n cap) n e m (flat f L))) {j:Nat} (hj:j<L.length) (a:α):
  af F W (cs.set i (aT (.slice (some ⟨g,0,none⟩) n cap) n e m (flat f (L.set j a)))) (w.setCells g (j*m) (f a)):=by
 obtain⟨fp,⟨h1,hf⟩,hk⟩:=h.part i hi;subst hf;exact hk _ _ _ ⟨Ge hm h1 hj hm0 a,rfl⟩ (Mod.setCells (.inl (by simp[Value.ownBlock])) _ _ _ (Mod.refl _ _)) (fun x hx=>.inl hx)
theorem af.GJ {α:Type} {f:α→List Value} {m:Nat} (hm:∀a,(f a).length=m) {F:List Nat} {W w:World} {cs:List ai} (i:Nat) {g cap n:Nat} {e:TypeId} {L:List α}
  (h:af F W cs w) (hi:cs[i]? =some (aT (.slice (some ⟨g,0,none⟩) n cap) n e m (flat f L))) {j k:Nat} (hj:j<L.length) (hk:k<m) (a:α) (u:Value) (ha:f a=(f L[j]).set k u):
  af F W (cs.set i (aT (.slice (some ⟨g,0,none⟩) n cap) n e m (flat f (L.set j a)))) (w.setCell ⟨g,j*m+k,none⟩ u):=by
 obtain⟨fp,⟨h1,hf⟩,hk'⟩:=h.part i hi;subst hf;refine hk' _ _ _ ⟨?_,rfl⟩ ((Mod.refl _ _).setCell (.inl (by simp[Value.ownBlock])) u) (fun x hx=>.inl hx);rw[←CI hm L j k hj hk a u ha];exact(h1.stored _ u).1
theorem vR {α:Type} {f:α→List Value} {m:Nat} (hm:∀a,(f a).length=m) (hm0:0<m) (a:α) (cs:Array Value) (hc:cs.toList=f a) (n:Nat):(madeCells cs (n*m)).toList=flat f (List.replicate n a):=by
 have hsz:cs.size=m:=by rw[←Array.length_toList,hc,hm]
 apply List.ext_getElem?;intro i;by_cases hi:i<n*m
 ·have hq:i/m<n:=Nat.div_lt_of_lt_mul (by rw[Nat.mul_comm];exact hi);have hr:i%m<m:=Nat.mod_lt _ hm0;have e:i/m*m+i%m=i:=Nat.div_add_mod' i m;have e1:=ml hm (List.replicate n a) (i/m) (i%m) (by simpa using hq) hr;rw[e]at e1;rw[e1,List.getElem_replicate, ←hc,Array.getElem?_toList];simp[madeCells,hi,hsz,hr]
 ·have hl:(madeCells cs (n*m)).toList.length=n*m:=by rw[Array.length_toList,size_madeCells]
  rw[List.getElem?_eq_none (by omega),List.getElem?_eq_none (by rw[gZ hm];simp;omega)]
theorem gX {P:Program} {fn:Func} {p u:Tmp} {ty t:TypeId} (h:fn.results=#[.cell p ty,.tmp u]) {tmps:Array Value} {w:World} {g:Nat} {cs:Array Value} {fr:Nat×Nat} {d:TypeDesc} {v:Value}
  (hp:tmps.getD p undef=.pointer (some ⟨g,0,none⟩)) (hv:tmps.getD u undef=v) (hg:w.heap[g]? =some (.cells cs t fr)) (hu:P.underlying ty=some d) (hd:(match d with| .struct _| .array _ _=>true|_=>false)=true) (hi:(P.info? ty).map (·.size)=some cs.size):
  (results fn tmps).run P w=.ok (.tuple #[.agg cs,v]) w:=by
 rw[results_cell_tmp h,hp,hv];simp[asAddr,Result.andThen,run_loadVar_row w g t ty cs fr d hg hu hd hi]
end Stg
end Go
namespace Go.Proofs.YtdehaommhbjakaaGreat.Tb
open RowKit Stg
theorem Bj {s g t:Int} (hs:0≤s∧s≤16777215):aJ (eI s g t)=s:=by unfold aJ eI;omega
theorem Cx {s g t:Int} (hs:0≤s∧s≤16777215) (hg:1≤g∧g≤4294967295):kr (eI s g t)=g:=by unfold kr eI;omega
theorem Dm {s g t:Int} (hs:0≤s∧s≤16777215) (hg:1≤g∧g≤4294967295):lf (eI s g t)=t:=by unfold lf eI;omega
theorem B5 (h:Int):eI (aJ h) (kr h) (lf h)=h:=by unfold eI aJ kr lf;omega
structure bP where
 h:Int
 owner:Int
 tag:Int
 off:Int
 len:Int
def cG (e:bP):List Value:=[.int .u64 e.h,.int .i64 e.owner,.int .i64 e.tag,.int .i64 e.off,.int .i64 e.len]
theorem eB (e:bP):(cG e).length=5:=rfl
def b8 (e:bP):Value:=.agg #[.int .u64 e.h,.int .i64 e.owner,.int .i64 e.tag,.int .i64 e.off,.int .i64 e.len]
def fB:bP:=⟨0,0,0,0,0⟩
def aD (E:List bP) (j:Nat):bP:=E.getD j fB
theorem yK {E:List bP} {j:Nat} (h:j<E.length):aD E j=E[j]:=by simp[aD,List.getD_eq_getElem?_getD,List.getElem?_eq_getElem h]
structure TS where
 g:GS
 E:List bP
structure eX (n:Nat) (first:Int) (x:TS):Prop where
 g:jw n first x.g
 len:x.E.length=n
 ok:∀j,j<n→(aC x.g.S j).2=true→(1≤(aD x.E j).tag∧(aD x.E j).tag≤255)∧(aD x.E j).h=eI j (aC x.g.S j).1 (aD x.E j).tag
def iK (x:TS) (E:List bP):Prop:=E.length=x.E.length∧∀j,(aC x.g.S j).2=true→aD E j=aD x.E j
def lV (tb:Nat) (ev:Value) (b pb:Nat) (sl:Value) (first:Int) (x:TS) (E:List bP):List ai:=
 [aj tb (.cells #[.pointer (some ⟨b,0,none⟩),ev] 170 (0,0)),aT ev E.length 106 5 (flat cG E),lT b pb sl first x.g]
def zt (tb:Nat) (ev:Value) (b:Nat) (gv lv:Value) (first:Int) (x:TS) (E:List bP):List ai:=
 [aj tb (.cells #[.pointer (some ⟨b,0,none⟩),ev] 249 (0,0)),aT ev E.length 106 5 (flat cG E),qH b gv lv first x.g]
def bF (x:TS) (h:Int):Int:=
 if x.g.S.length≤aJ h then 10
 else if iL x.g.S (aJ h)=false∨(aC x.g.S (aJ h).toNat).1≠kr h then 11
 else if(aD x.E (aJ h).toNat).tag≠lf h then 12 else 0
def mJ (x:TS) (h:Int):bP:=if bF x h=0 then aD x.E (aJ h).toNat else fB
def jz (x:TS) (h:Int):Value:=.tuple #[b8 (mJ x h),.int .i64 (bF x h)]
theorem qa {w:World} {tb b:Nat} {ev:Value} (h:w.heap[tb]? =some (.cells #[.pointer (some ⟨b,0,none⟩),ev] 170 (0,0))):Calls Tryz.prog 136 #[.pointer (some ⟨tb,0,none⟩)] w fun e w'=>e=.returned (.pointer (some ⟨b,0,none⟩))∧Mod [] w w':=by
 have hcb:=ae h;clear h;go_enter Tryz.func136,Tryz.ntmps136;go_wp2_with fail;go_ret;exact⟨rfl,Mod.refl _ _⟩
structure qD (w:World) (tb b pb q:Nat) (sl psv ev:Value) (first:Int) (x:TS) (E:List bP):Prop where
 aQ:w.heap[tb]? =some (.cells #[.pointer (some ⟨b,0,none⟩),ev] 170 (0,0))
 row:w.ownsRow 0 106 5 ev E.length (flat cG E)
 gen:ej w b first x.g.S x.g.F x.g.ret sl psv pb
 res:w.heap[q]? =some (.cells #[.int .u64 0,.int .i64 0,.int .i64 0,.int .i64 0,.int .i64 0] 106 (0,0))
theorem qD.mod {w w':World} {tb b pb q:Nat} {sl psv ev:Value} {first:Int} {x:TS} {E:List bP} (h:qD w tb b pb q sl psv ev first x E) (hm:Mod [] w w'):qD w' tb b pb q sl psv ev first x E:=
 ⟨hm.at h.aQ (by simp),aG h.row hm (by simp),h.gen.mod hm (by simp),hm.at h.res (by simp)⟩
theorem l9 (S:List Slot) (k:Nat):iL S (k:Int)=(aC S k).2:=by simp[iL]
section
variable {w:World} {n:Nat} {first:Int} {x:TS} {E:List bP} {ev:Value} (hI:eX n first x) (hA:iK x E) (h:Int) (h0:0≤h) (h1:h≤18446744073709551615) (hn:n≤4096)
include hI hA h0 h1 hn
theorem pM {F:List Nat} {W:World} {tb b pb:Nat} {sl:Value} (hS:af F W (lV tb ev b pb sl first x E) w):
  Calls Tryz.prog 83 #[.pointer (some ⟨tb,0,none⟩),.int .u64 h] w fun e w'=>e=.returned (jz x h)∧Mod [] w w':=by
 obtain⟨psv,hG⟩:=y9 2 hS rfl;have hlen:=hI.g.len;have hl2:=hI.len;have hl3:=hA.1;have hA2:=hA.2;have hm1:=(Mod.refl [] w).alloc (.cells #[.int .u64 0,.int .i64 0,.int .i64 0,.int .i64 0,.int .i64 0] 106 (0,0));have hV:qD (w.alloc (.cells #[.int .u64 0,.int .i64 0,.int .i64 0,.int .i64 0,.int .i64 0] 106 (0,0))) tb b pb w.heap.size sl psv ev first x E:=
  ⟨aI (hS.block 0 rfl),aG (hS.row 1 rfl) hm1 (by simp),hG.mod hm1 (by simp),an _ _⟩
 have hs0:0≤aJ h∧aJ h≤16777215:=by unfold aJ;omega
 have hH1:=zh hm1;have hVH:=zh hV;have hSl:=zh fun w=>nj h h0 h1 w
 have hGe:=zh fun w=>GY h h0 h1 w
 have hTa:=zh fun w=>GA h h0 h1 w
 have hE0:bF x h=bF x h:=rfl;unfold jz mJ;unfold bF at hE0⊢;generalize aJ h=s at*;generalize kr h=g at*;generalize lf h=t at*;obtain⟨j,rfl⟩:=Int.eq_ofNat_of_zero_le hs0.1;simp only[Int.toNat_natCast,l9,hlen];have hAj:=hA2 j;clear hA2;obtain⟨eh,eo,et,ef,el,hen⟩:∃eh eo et ef el,aD x.E j=⟨eh,eo,et,ef,el⟩:=⟨_,_,_,_,_,rfl⟩;rw[hen]at hAj;simp only[hen];have hAjH:=zh hAj;clear hAj hen;clear hE0 hG hS hV hI hA hm1;go_enter Tryz.func83,Tryz.ntmps83;go_wp2_with fail;refine(hSl.out _).mono ?_;rintro e w2 ⟨rfl,hm2⟩;have hV2:=zh (hVH.out.mod hm2);have hm2:=hH1.out.ag hm2;clear hVH hH1;go_wp2_with fail;refine(qa hV2.out.aQ).mono ?_;rintro e w3 ⟨rfl,hm3⟩;have hV3:=zh (hV2.out.mod hm3);have hm3:=hm2.ag hm3;clear hm2 hV2;go_wp2_with fail;refine(ni hV3.out.gen).mono ?_;rw[hlen];rintro e w4 ⟨rfl,hm4⟩;have hV4:=zh (hV3.out.mod hm4);have hm4:=hm3.ag hm4;clear hm3 hV3;have hcq:=ae hV4.out.res;have hfq:=ay hV4.out.res;have hcb:=ae hV4.out.aQ;by_cases c1:(n:Int)≤j
 ·go_wp2_with fail;have hq5:=(aq (o:=4) (v:=.int .i64 0) (aq (o:=3) (v:=.int .i64 0) (aq (o:=2) (v:=.int .i64 0) (aq (o:=1) (v:=.int .i64 0) (aq (o:=0) (v:=.int .u64 0) (hV4.out.res))))));have hm5:=((((((hm4).setCell (p:=⟨w.heap.size,0,none⟩) (.inr (Nat.le_refl _)) (.int .u64 0)).setCell (p:=⟨w.heap.size,1,none⟩) (.inr (Nat.le_refl _)) (.int .i64 0)).setCell (p:=⟨w.heap.size,2,none⟩) (.inr (Nat.le_refl _)) (.int .i64 0)).setCell (p:=⟨w.heap.size,3,none⟩) (.inr (Nat.le_refl _)) (.int .i64 0)).setCell (p:=⟨w.heap.size,4,none⟩) (.inr (Nat.le_refl _)) (.int .i64 0));refine bodyPost_ret (gX Tryz.results83 rfl rfl hq5 Tryz.underlying106 rfl (by kernel_rfl)) rfl ?_;exact⟨rfl,hm5⟩
 ·have hjn:j<E.length:=by omega
  obtain⟨gr,cap,rfl,_,_⟩:=cW hV4.out.row (by omega);go_wp2_with fail;have hlv:=Du hV4.out.gen j;rw[l9,Int.toNat_natCast]at hlv;have hAj:=hAjH.out;rw[yK hjn]at hAj;clear hAjH;generalize hsl:aC x.g.S j=sl0 at*;rcases sl0 with⟨ge,le⟩
  simp only at hlv hAj;refine hlv.mono ?_;rintro e w5 ⟨rfl,hm5⟩;have hV5:=zh (hV4.out.mod hm5);have hm5:=hm4.ag hm5;clear hlv hm4 hV4 hcq hfq hcb
  cases le with
  |false=>
   have hcq:=ae hV5.out.res;have hfq:=ay hV5.out.res;go_wp2_with fail;all_goals
    have hq5:=(aq (o:=4) (v:=.int .i64 0) (aq (o:=3) (v:=.int .i64 0) (aq (o:=2) (v:=.int .i64 0) (aq (o:=1) (v:=.int .i64 0) (aq (o:=0) (v:=.int .u64 0) (hV5.out.res))))));have hm5:=((((((hm5).setCell (p:=⟨w.heap.size,0,none⟩) (.inr (Nat.le_refl _)) (.int .u64 0)).setCell (p:=⟨w.heap.size,1,none⟩) (.inr (Nat.le_refl _)) (.int .i64 0)).setCell (p:=⟨w.heap.size,2,none⟩) (.inr (Nat.le_refl _)) (.int .i64 0)).setCell (p:=⟨w.heap.size,3,none⟩) (.inr (Nat.le_refl _)) (.int .i64 0)).setCell (p:=⟨w.heap.size,4,none⟩) (.inr (Nat.le_refl _)) (.int .i64 0));refine bodyPost_ret (gX Tryz.results83 rfl rfl hq5 Tryz.underlying106 rfl (by kernel_rfl)) rfl ?_;exact⟨rfl,hm5⟩
  |true=>
   have hcq:=ae hV5.out.res;have hfq:=ay hV5.out.res;go_wp2_with fail;refine(hGe.out _).mono ?_;rintro e w6 ⟨rfl,hm6⟩;have hV6:=zh (hV5.out.mod hm6);have hm6:=hm5.ag hm6;clear hm5 hV5 hcq hfq;have hcq:=ae hV6.out.res;have hfq:=ay hV6.out.res;by_cases c2:ge=g
   ·subst c2;have hAj:=hAj (by simp);have hrow:=hV6.out.row;have r0:=eO eB hrow hjn rfl (k:=0) (by omega);have r1:=eO eB hrow hjn rfl (k:=1) (by omega);have r2:=eO eB hrow hjn rfl (k:=2) (by omega);have r3:=eO eB hrow hjn rfl (k:=3) (by omega);have r4:=eO eB hrow hjn rfl (k:=4) (by omega);rw[hAj]at r0 r1 r2 r3 r4;simp only[cG,List.getElem?_cons_zero,List.getElem?_cons_succ,Nat.add_zero]at r0 r1 r2 r3 r4;have hgr:=(kO hrow gr rfl).2;clear hrow;go_wp2_with fail;have k1:=GW.cells (S:=[]) hV6.out.aQ (by simp);have k2:=GW.bR (S:=[]) r2 hgr (by simp);clear r0 r1 r2 r3 r4 hcq hfq;refine aS (by kernel_rfl) (by kernel_rfl) ?_;refine sq 9 ?_;refine b7 140 _ (.int .i64 t) rfl Tryz.call140 rfl rfl (fun w' _=>hTa.out w') ?_;refine sq 1 ?_;refine au fun w7 hm7=> ?_
    clear k1 k2;have hV7:=zh (hV6.out.mod hm7);have hm7:=hm6.ag hm7;clear hV6 hm6;have hcq:=ae hV7.out.res;have hfq:=ay hV7.out.res;have hcb:=ae hV7.out.aQ;by_cases c3:et=t
    ·subst c3;have hrow:=hV7.out.row;have r0:=eO eB hrow hjn rfl (k:=0) (by omega);have r1:=eO eB hrow hjn rfl (k:=1) (by omega);have r2:=eO eB hrow hjn rfl (k:=2) (by omega);have r3:=eO eB hrow hjn rfl (k:=3) (by omega);have r4:=eO eB hrow hjn rfl (k:=4) (by omega);rw[hAj]at r0 r1 r2 r3 r4;simp only[cG,List.getElem?_cons_zero,List.getElem?_cons_succ,Nat.add_zero]at r0 r1 r2 r3 r4;clear hrow;go_wp2_with fail;all_goals
      have hq5:=(aq (o:=4) (v:=.int .i64 el) (aq (o:=3) (v:=.int .i64 ef) (aq (o:=2) (v:=.int .i64 et) (aq (o:=1) (v:=.int .i64 eo) (aq (o:=0) (v:=.int .u64 eh) (hV7.out.res))))));have hm5:=((((((hm7).setCell (p:=⟨w.heap.size,0,none⟩) (.inr (Nat.le_refl _)) (.int .u64 eh)).setCell (p:=⟨w.heap.size,1,none⟩) (.inr (Nat.le_refl _)) (.int .i64 eo)).setCell (p:=⟨w.heap.size,2,none⟩) (.inr (Nat.le_refl _)) (.int .i64 et)).setCell (p:=⟨w.heap.size,3,none⟩) (.inr (Nat.le_refl _)) (.int .i64 ef)).setCell (p:=⟨w.heap.size,4,none⟩) (.inr (Nat.le_refl _)) (.int .i64 el));refine bodyPost_ret (gX Tryz.results83 rfl rfl hq5 Tryz.underlying106 rfl (by kernel_rfl)) rfl ?_;exact⟨rfl,hm5⟩
    ·go_wp2_with fail
     all_goals
      have hq5:=(aq (o:=4) (v:=.int .i64 0) (aq (o:=3) (v:=.int .i64 0) (aq (o:=2) (v:=.int .i64 0) (aq (o:=1) (v:=.int .i64 0) (aq (o:=0) (v:=.int .u64 0) (hV7.out.res))))));have hm5:=((((((hm7).setCell (p:=⟨w.heap.size,0,none⟩) (.inr (Nat.le_refl _)) (.int .u64 0)).setCell (p:=⟨w.heap.size,1,none⟩) (.inr (Nat.le_refl _)) (.int .i64 0)).setCell (p:=⟨w.heap.size,2,none⟩) (.inr (Nat.le_refl _)) (.int .i64 0)).setCell (p:=⟨w.heap.size,3,none⟩) (.inr (Nat.le_refl _)) (.int .i64 0)).setCell (p:=⟨w.heap.size,4,none⟩) (.inr (Nat.le_refl _)) (.int .i64 0));refine bodyPost_ret (gX Tryz.results83 rfl rfl hq5 Tryz.underlying106 rfl (by kernel_rfl)) rfl ?_;exact⟨rfl,hm5⟩
   ·go_wp2_with fail
    all_goals
     have hq5:=(aq (o:=4) (v:=.int .i64 0) (aq (o:=3) (v:=.int .i64 0) (aq (o:=2) (v:=.int .i64 0) (aq (o:=1) (v:=.int .i64 0) (aq (o:=0) (v:=.int .u64 0) (hV6.out.res))))));have hm5:=((((((hm6).setCell (p:=⟨w.heap.size,0,none⟩) (.inr (Nat.le_refl _)) (.int .u64 0)).setCell (p:=⟨w.heap.size,1,none⟩) (.inr (Nat.le_refl _)) (.int .i64 0)).setCell (p:=⟨w.heap.size,2,none⟩) (.inr (Nat.le_refl _)) (.int .i64 0)).setCell (p:=⟨w.heap.size,3,none⟩) (.inr (Nat.le_refl _)) (.int .i64 0)).setCell (p:=⟨w.heap.size,4,none⟩) (.inr (Nat.le_refl _)) (.int .i64 0));refine bodyPost_ret (gX Tryz.results83 rfl rfl hq5 Tryz.underlying106 rfl (by kernel_rfl)) rfl ?_;exact⟨rfl,hm5⟩
end
end Go.Proofs.YtdehaommhbjakaaGreat.Tb
namespace Go.Proofs.YtdehaommhbjakaaGreat.Tb
open RowKit Stg
structure tM (w:World) (tb b q:Nat) (gv lv fv ev:Value) (first:Int) (x:TS) (E:List bP):Prop where
 aQ:w.heap[tb]? =some (.cells #[.pointer (some ⟨b,0,none⟩),ev] 249 (0,0))
 row:w.ownsRow 0 106 5 ev E.length (flat cG E)
 gen:fC w b first x.g.S x.g.F x.g.ret gv lv fv
 res:w.heap[q]? =some (.cells #[.int .u64 0,.int .i64 0,.int .i64 0,.int .i64 0,.int .i64 0] 106 (0,0))
theorem tM.mod {w w':World} {tb b q:Nat} {gv lv fv ev:Value} {first:Int} {x:TS} {E:List bP} (h:tM w tb b q gv lv fv ev first x E) (hm:Mod [] w w'):tM w' tb b q gv lv fv ev first x E:=
 ⟨hm.at h.aQ (by simp),aG h.row hm (by simp),h.gen.mod hm (by simp),hm.at h.res (by simp)⟩
end Go.Proofs.YtdehaommhbjakaaGreat.Tb
namespace Go.Proofs.YtdehaommhbjakaaGreat.Tb
open RowKit Stg
def kQ (owner tag:Int):Prop:=owner<1∨64<owner∨tag<1∨255<tag
instance (owner tag:Int):Decidable (kQ owner tag):=by unfold kQ;infer_instance
def j9 (first:Int) (x:TS) (owner tag off len d:Int):bP:=⟨eI (bT x.g.F d) (fP first (aC x.g.S (bT x.g.F d)).1) tag,owner,tag,off,len⟩
def jo (x:TS) (owner tag:Int):Prop:=¬kQ owner tag∧0<x.g.F.length
instance (x:TS) (owner tag:Int):Decidable (jo x owner tag):=by unfold jo;infer_instance
def dp (first:Int) (x:TS) (owner tag off len d:Int):TS:=
 if jo x owner tag then⟨jV first x.g d,x.E.set (bT x.g.F d) (j9 first x owner tag off len d)⟩else x
def ju (first:Int) (x:TS) (owner tag d:Int):Int:=if jo x owner tag then(j9 first x owner tag 0 0 d).h else 0
def nF (x:TS) (owner tag:Int):Int:=if kQ owner tag then 1 else if 0<x.g.F.length then 0 else 17
def kX (first:Int) (x:TS) (owner tag d:Int):Value:=.tuple #[.int .u64 (ju first x owner tag d),.int .i64 (nF x owner tag)]
theorem oV (p:Int) (w:World):Calls Tryz.prog 155 #[.int .i64 p] w fun e w'=>e=.returned (.bool (decide (1≤p∧p≤64)))∧Mod [] w w':=by
 go_enter Tryz.func155,Tryz.ntmps155;by_cases h1:1≤p
 ·by_cases h2:p≤64
  ·go_wp2_with fail;go_ret;exact⟨by simp[h1,h2],Mod.refl _ _⟩
  ·go_wp2_with fail;go_ret;exact⟨by simp[h2],Mod.refl _ _⟩
 ·go_wp2_with fail;go_ret;exact⟨by simp;omega,Mod.refl _ _⟩
theorem jM {E:List bP} {j:Nat} (h:j<E.length) (e:bP) (m:Nat):aD (E.set j e) m=if m=j then e else aD E m:=by
 unfold aD;simp only[List.getD_eq_getElem?_getD];by_cases hm:m=j
 ·subst hm;simp[h]
 ·rw[if_neg hm,List.getElem?_set_ne (Ne.symm hm)]
section
variable {n:Nat} {first:Int} {x:TS} (h:eX n first x) (hf1:1≤first) (hf2:first≤4294967295) (hn:n≤4096)
include h hf1 hf2
theorem D1 (hp:0<x.g.F.length) (d:Int):1≤fP first (aC x.g.S (bT x.g.F d)).1∧fP first (aC x.g.S (bT x.g.F d)).1≤4294967295:=by
 obtain⟨_,_,_,_,_,_,hg0,hg1,hsl⟩:=h.g.pick hf1 hf2 hp d;rw[hsl];unfold fP;split<;>omega
theorem eX.oZ (owner tag off len d:Int):eX n first (dp first x owner tag off len d):=by
 unfold dp;by_cases hk:jo x owner tag
 ·rw[if_pos hk];obtain⟨hb,hp⟩:=hk;obtain⟨hi,hj,hp',hF,hjn,hd,hg0,hg1,hsl⟩:=h.g.pick hf1 hf2 hp d;have hjE:bT x.g.F d<x.E.length:=by rw[h.len];exact hjn
  refine⟨h.g.oZ hf1 hf2 d,by rw[List.length_set];exact h.len,fun m hm hl=> ?_⟩;simp only[sD hp]at hl⊢;rw[ib hj]at hl⊢;rw[jM hjE];by_cases e:m=bT x.g.F d
  ·rw[if_pos e,if_pos e];unfold kQ at hb;refine⟨by unfold j9;simp only;omega,?_⟩;rw[e];rfl
  ·rw[if_neg e]at hl;rw[if_neg e,if_neg e];exact h.ok m hm hl
 ·rw[if_neg hk];exact h
theorem iK.oZ {E:List bP} (hA:iK x E) (owner tag off len d:Int) (hk:jo x owner tag):iK (dp first x owner tag off len d) (E.set (bT x.g.F d) (j9 first x owner tag off len d)):=by
 unfold dp;rw[if_pos hk];obtain⟨hi,hj,hp',hF,hjn,hd,hg0,hg1,hsl⟩:=h.g.pick hf1 hf2 hk.2 d;have hjE:bT x.g.F d<x.E.length:=by rw[h.len];exact hjn
 refine⟨by simp[hA.1],fun m hl=> ?_⟩;simp only[sD hk.2]at hl;rw[ib hj]at hl;rw[jM hjE,jM (by rw[hA.1];exact hjE)];by_cases e:m=bT x.g.F d
 ·rw[if_pos e,if_pos e]
 ·rw[if_neg e]at hl;rw[if_neg e,if_neg e];exact hA.2 m hl
end
def gy (tb:Nat) (ev:Value) (b pb:Nat) (sl:Value) (first:Int) (x:TS):ai:=
 ⟨fun w f=>∃E,iK x E∧aU (lV tb ev b pb sl first x E) w f,fun⟨E,hA,h⟩ hm hT=>⟨E,hA,h.bj hm hT⟩,fun⟨_,_,h⟩=>h.lt⟩
def qJ (tb:Nat) (ev:Value) (b:Nat) (gv lv:Value) (first:Int) (x:TS):ai:=
 ⟨fun w f=>∃E,iK x E∧aU (zt tb ev b gv lv first x E) w f,fun⟨E,hA,h⟩ hm hT=>⟨E,hA,h.bj hm hT⟩,fun⟨_,_,h⟩=>h.lt⟩
section
variable {w:World} {n:Nat} {first:Int} {x:TS} (hI:eX n first x) (hn:n≤4096) (hf1:1≤first) (hf2:first≤4294967295) (owner tag off len d:Int) (hd:0≤d) (hd2:d≤18446744073709551615) {f:List Nat} {tb b:Nat} {ev:Value}
include hI hn hf1 hf2 hd hd2
theorem vM {pb:Nat} {sl:Value} (hc:(gy tb ev b pb sl first x).on w f):
  Calls Tryz.prog 107 #[.pointer (some ⟨tb,0,none⟩),.int .i64 owner,.int .i64 tag,.agg #[.int .i64 off,.int .i64 len],.int .u64 d] w
   (bD (gy tb ev b pb sl first (dp first x owner tag off len d)) (kX first x owner tag d) w f):=by
 obtain⟨E,hA,hH⟩:=hc;have hS:=(af.start hH).alloc (.cells #[.int .i64 off,.int .i64 len] 104 (0,0));have hSH:=zh hS;have hAk:=zh fun hk=>hA.oZ hI hf1 hf2 owner tag off len d hk
 have hfin0:∀w',af f w (aj w.heap.size (.cells #[.int .i64 off,.int .i64 len] 104 (0,0))::lV tb ev b pb sl first x E) w'→∀v,bD (gy tb ev b pb sl first x) v w f (.returned v) w':=fun w' h v=>by
  obtain⟨f',k1,k2,k3⟩:=(h.erase 0).done;exact⟨f',rfl,⟨E,hA,k1⟩,k2,k3⟩
 have hfinH:=zh hfin0;have hIs:=zh fun w' (h:af f w (aj w.heap.size (.cells #[.int .i64 off,.int .i64 len] 104 (0,0))::lV tb ev b pb sl first x E) w')=>Em hI.g 3 h rfl hf1 hf2 d hd hd2
 clear hA hfin0 hH hS;by_cases hb:kQ owner tag
 ·have hk:¬jo x owner tag:=fun h=>h.1 hb
  have e1:dp first x owner tag off len d=x:=if_neg hk
  have e2:kX first x owner tag d=.tuple #[.int .u64 0,.int .i64 1]:=by unfold kX ju nF;rw[if_neg hk,if_pos hb]
  rw[e1,e2];clear hk e1 e2 hAk hIs hI;go_enter Tryz.func107,Tryz.ntmps107;go_wp2_with fail;refine(oV owner _).mono ?_;rintro e w1 ⟨rfl,hm1⟩;have hfin:=zh (hfinH.out _ (hSH.out.then hm1));clear hfinH hSH;unfold kQ at hb;by_cases hp:1≤owner∧owner≤64
  ·have ed:decide (1≤owner∧owner≤64)=true:=by simp[hp]
   rw[ed];by_cases ht:tag<1
   ·go_wp2_with fail;go_ret2;exact hfin.out _
   ·have ht2:255<tag:=by omega
    go_wp2_with fail;go_ret2;exact hfin.out _
  ·have ed:decide (1≤owner∧owner≤64)=false:=by simp only[decide_eq_false_iff_not];exact hp
   rw[ed];go_wp2_with fail;go_ret2;exact hfin.out _
 ·have hb':(1≤owner∧owner≤64)∧1≤tag∧tag≤255:=by unfold kQ at hb;omega
  have ed:decide (1≤owner∧owner≤64)=true:=by simp[hb'.1]
  obtain⟨_,ht1,ht2⟩:=hb';by_cases hp:0<x.g.F.length
  ·have hk:jo x owner tag:=⟨hb,hp⟩;have hng:=D1 hI hf1 hf2 hp d;obtain⟨_,hj,_,_,hjn,_⟩:=hI.g.pick hf1 hf2 hp d;have e1:dp first x owner tag off len d=⟨jV first x.g d,x.E.set (bT x.g.F d) (j9 first x owner tag off len d)⟩:=if_pos hk
   have e2:kX first x owner tag d=.tuple #[.int .u64 (eI (bT x.g.F d) (fP first (aC x.g.S (bT x.g.F d)).1) tag),.int .i64 0]:=by unfold kX ju nF;rw[if_pos hk,if_neg hb,if_pos hp];rfl
   have hA2:=hAk.out hk;rw[e1]at hA2;rw[e1,e2];rw[CE hp]at hIs;unfold j9 at*;have hA2:=zh hA2;have hjE:bT x.g.F d<E.length:=by have:=hA2.out.1;simp at this;have:=hI.len;omega
   obtain⟨gr,cap,rfl,_,_⟩:=cW (hSH.out.row 2 rfl) (by omega);clear hk e1 e2 hAk hI hfinH hb;generalize hjj:bT x.g.F d=j at*;generalize hgg:fP first (aC x.g.S j).1=gg at*
   have hP:=zh fun w'=>F5 j gg tag (by omega) hng (by omega) w'
   go_enter Tryz.func107,Tryz.ntmps107;go_wp2_with fail;refine(oV owner _).mono ?_;rintro e w1 ⟨rfl,hm1⟩;have hS1:=zh (hSH.out.then hm1);clear hSH;rw[ed];go_wp2_with fail;refine(qa (hS1.out.block 1 rfl)).mono ?_;rintro e w2 ⟨rfl,hm2⟩;have hS2:=zh (hS1.out.then hm2);clear hS1;go_wp2_with fail;refine(hIs.out _ hS2.out).mono ?_;rintro e w3 ⟨rfl,hS3⟩;have hS3:=zh hS3;clear hS2 hIs;go_wp2_with fail;refine(hP.out _).mono ?_;rintro e w4 ⟨rfl,hm4⟩;have hS4:=zh (hS3.out.then hm4);clear hS3 hP;go_wp2_with fail;have k1:=GW.cells (S:=[]) ((hS4).out.block 1 rfl) (by simp);have k2:=GW.cells (S:=[]) ((hS4).out.block 0 rfl) (by simp);refine aS (by kernel_rfl) (by kernel_rfl) ?_;refine sq 11 ?_;have hst:=fun w' (h:Mod [] (w4) w')=>run_storeAt_mid (P:=Tryz.prog) w' gr (j*5) 106 #[.int .u64 (eI j gg tag),.int .i64 owner,.int .i64 tag,.int .i64 off,.int .i64 len] (Dg eB (((hS4).out.then h).row 2 rfl) hjE rfl) (by kernel_rfl) (by simp[Value.oneCell'])
   refine dq (p:=⟨gr,j*5,none⟩) (u:=.agg #[.int .u64 (eI j gg tag),.int .i64 owner,.int .i64 tag,.int .i64 off,.int .i64 len]) (fun w'=>w'.setCells gr (j*5) (cG ⟨eI j gg tag,owner,tag,off,len⟩)) rfl rfl (by kernel_rfl) rfl rfl rfl (fun w' hw=>hst w' hw) (fun w' hw=> ?_);have h5:=((hS4).out.then hw).y7 eB (by omega) 2 rfl hjE ⟨eI j gg tag,owner,tag,off,len⟩;clear k1 k2 hst;generalize w'.setCells gr (j*5) (cG ⟨eI j gg tag,owner,tag,off,len⟩)=w5 at*;have h5:=zh h5;go_wp2_with fail;go_ret2;obtain⟨f',q1,q2,q3⟩:=(h5.out.erase 0).done;refine⟨f',rfl,⟨_,hA2.out,?_⟩,q2,q3⟩;unfold lV;rw[List.length_set];exact q1
  ·have hk:¬jo x owner tag:=fun h=>hp h.2
   have e1:dp first x owner tag off len d=x:=if_neg hk
   have e2:kX first x owner tag d=.tuple #[.int .u64 0,.int .i64 17]:=by unfold kX ju nF;rw[if_neg hk,if_neg hb,if_neg hp]
   have hz:x.g.F=[]:=List.length_eq_zero_iff.1 (by omega);rw[e1,e2];rw[Cr hz,C7 hz]at hIs;clear hk e1 e2 hAk hI hb;go_enter Tryz.func107,Tryz.ntmps107;go_wp2_with fail;refine(oV owner _).mono ?_;rintro e w1 ⟨rfl,hm1⟩;have hS1:=zh (hSH.out.then hm1);clear hSH;rw[ed];go_wp2_with fail;refine(qa (hS1.out.block 1 rfl)).mono ?_;rintro e w2 ⟨rfl,hm2⟩;have hS2:=zh (hS1.out.then hm2);clear hS1;go_wp2_with fail;refine(hIs.out _ hS2.out).mono ?_;rintro e w3 ⟨rfl,hS3⟩;have hfin:=zh (hfinH.out _ hS3);clear hS2 hIs hfinH hS3;go_wp2_with fail;go_ret2;exact hfin.out _
end
end Go.Proofs.YtdehaommhbjakaaGreat.Tb
