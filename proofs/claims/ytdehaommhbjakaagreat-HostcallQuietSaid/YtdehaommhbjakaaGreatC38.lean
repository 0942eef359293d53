/- Joined contracts. No conditions. -/
import Derived.Test.YtdehaommhbjakaaGreatC37
set_option maxHeartbeats 8000000
set_option maxRecDepth 20000
namespace Go.Proofs.YtdehaommhbjakaaGreat
open RowKit Stg
theorem vL {fs:List Ty.aM} (hg:Ty.Good fs) {j:Nat} (hj:j<fs.length):(Ty.bu (fs.take (j+1))).1=Ty.dj (Ty.bu (fs.take j)).1 (Ty.cu fs[j])+Ty.wid fs[j]∧(Ty.bu (fs.take j)).1≤Ty.dj (Ty.bu (fs.take j)).1 (Ty.cu fs[j])∧1≤Ty.wid fs[j]:=by
 have h4:=Ty.jh (hg _ (List.getElem_mem hj));refine⟨by rw[Ty.jJ fs hj,Ty.mV];rfl,(Ty.jI (by omega)).1,h4.2.2.1⟩
theorem wP {fs:List Ty.aM} (hg:Ty.Good fs) {j:Nat}:∀ {m:Nat},j≤m→m≤fs.length→(Ty.bu (fs.take j)).1≤(Ty.bu (fs.take m)).1
 |0,h,_=>by rw[show j=0 by omega];omega
 |m+1,h,hm=>by
  by_cases e:j=m+1
  ·rw[e];omega
  ·have h1:=wP hg (j:=j) (m:=m) (by omega) (by omega);obtain⟨h2,h3,h4⟩:=vL hg (j:=m) (by omega);omega
theorem yV {f:Ty.aM} (h:Ty.bM f=0) (hk:f.1≠6):∃n:Nat,Ty.wid f=n∧jY n:=by
 have hg:=Ty.jh h;unfold Ty.wid jY;by_cases c1:f.1=1
 ·exact⟨1,by rw[if_pos c1];rfl,by omega⟩
 ·by_cases c2:f.1=2
  ·exact⟨2,by rw[if_neg c1,if_pos c2];rfl,by omega⟩
  ·by_cases c3:f.1=3
   ·exact⟨4,by rw[if_neg c1,if_neg c2,if_pos c3];rfl,by omega⟩
   ·exact⟨8,by rw[if_neg c1,if_neg c2,if_neg c3,if_neg hk];rfl,by omega⟩
theorem yd {t:Ty.Ty} (ht:Ty.du t) {i:Int} (h:Ty.eH t.1 t.2 i=0) (hk:(eF t i).2.2≠6):
  ∃(off n:Nat),(eF t i).1=off∧(eF t i).2.1=n∧jY n∧(off:Int)+n≤Ty.cC t.1 t.2:=by
 obtain⟨e1,e2,e3,hg,e5,e6,e7⟩:=Ty.ou ht;have he:Ty.bS t.1 t.2=0:=ht;unfold Ty.eH at h;rw[if_pos he]at h;split at h
 ·rename_i hr;unfold Ty.eP at hr;rw[if_pos he]at hr;unfold eF at hk⊢;unfold Ty.cC;by_cases c:0<t.1
  ·rw[if_pos c]at hr hk⊢;rw[if_pos c];have hl:=e6 c;rw[Ty.oX hl]at hk⊢;obtain⟨n,hn,hw⟩:=yV (hg _ (List.getElem_mem (by omega:0<t.2.length))) hk;have hmul:=Int.mul_nonneg hr.1 (show(0:Int)≤Ty.wid (t.2[0]'(by omega)) by omega);refine⟨(i*Ty.wid (t.2[0]'(by omega))).toNat,n,by simp only;omega,hn,hw,?_⟩;generalize Ty.wid (t.2[0]'(by omega))=W at*;have h2:(i+(1:Int))*W≤t.1*W:=Int.mul_le_mul_of_nonneg_right (by omega) (by omega);have h5:(i+(1:Int))*W=i*W+W:=by rw[Int.add_mul,Int.one_mul]
   have h3:=Int.toNat_of_nonneg hmul;omega
  ·rw[if_neg c]at hr hk⊢;rw[if_neg c];obtain⟨n,rfl⟩:=Int.eq_ofNat_of_zero_le hr.1;have hn:n<t.2.length:=by omega
   simp only[Int.toNat_natCast,List.getD_eq_getElem?_getD,List.getElem?_eq_getElem hn,Option.getD_some]at hk⊢;obtain⟨w,hw,hwo⟩:=yV (hg _ (List.getElem_mem hn)) hk;obtain⟨r1,r2,r3⟩:=vL hg hn;have r4:=Ty.oo t.2 hg n (by omega);have r5:=wP hg (j:=n+1) (m:=t.2.length) (by omega) (Nat.le_refl _);rw[List.take_length]at r5;have r6:=(Ty.pD t.2 hg).2.2.1;have r7:=(Ty.jI (n:=(Ty.bu t.2).1) r6).1;refine⟨(Ty.dj (Ty.bu (t.2.take n)).1 (Ty.cu t.2[n])).toNat,w,by omega,hw,hwo,?_⟩;unfold Ty.jQ;omega
 ·cases h
theorem pz (l:List Int) (o:Nat):ca l o []=l:=by simp[ca]
theorem cI.byte {w:World} {v:Value} {bs:List Int} (h:cI w v bs):∀x∈bs,0≤x∧x≤255:=by
 intro x hx;obtain⟨i,hi,rfl⟩:=List.getElem_of_mem hx;rcases h with⟨_,rfl⟩|⟨_,_,_,_,_,_,h4⟩
 ·simp at hi
 ·exact(h4 i hi).1
theorem oA {w:World} {b g n cap:Nat} {B bs:List Int} {v:Value} (h:w.ownsRow b 5 1 (.slice (some ⟨g,0,none⟩) n cap) n (aR B)) (hv:cI w v bs) {p m:Nat} (hp:p+bs.length≤n) (hm:bs.length≤m) (q c:Nat) (hq:0<bs.length→q=p) (ty:TypeId):
  (Builtin.copy_ #[56,56] ty #[.slice (some ⟨g,q,none⟩) m c,v]).run Tryz.prog w=.ok (.int .i64 bs.length) (w.setCells g p (aR bs)):=by
 obtain⟨i0,hi0,hz0,hz1,hz2⟩:=info_parts kL;have hs:(Tryz.prog.info? 5).map (·.size)=some 1:=by rw[hi0];simp[hz1]
 by_cases h0:bs.length=0
 ·obtain rfl:bs=[]:=List.length_eq_zero_iff.1 h0;have e:w.setCells g p (aR [])=w:=rfl;rw[e];rcases hv with⟨rfl,_⟩|⟨sb,so,cp,rfl,_⟩
  ·exact run_copy_none w 56 56 ty 5 _ _ m c 0 0 Tryz.underlying56 hs (by simp)
  ·exact run_copy_none w 56 56 ty 5 _ _ m c 0 cp Tryz.underlying56 hs (by simp)
 ·have hq':=hq (by omega);subst hq';rcases hv with⟨rfl,rfl⟩|⟨sb,so,cp,rfl,k1,k2,k3⟩
  ·simp at h0
  ·have:=run_copy_cells (P:=Tryz.prog) w 56 56 ty 5 g q m c ⟨sb,so,none⟩ bs.length cp (aR bs) Tryz.underlying56 hs (by rw[eN];exact(Nat.min_eq_left hm).symm)
    (rD (.inr ⟨sb,so,cp,rfl,k1,k2,k3⟩)) (fun j hj=>(fg h (by rw[eN]at hj;omega)).1) (fun j hj=>(fg h (by rw[eN]at hj;omega)).2) (og bs)
   rw[eN]at this;exact this
theorem AZ {ar:Nat} {size:Int} {used:List Ext} {B bs:List Int} {v:Value} {w:World} {f:List Nat} (h:(b6 ar size used B).on w f) {o l:Nat} (hx:((o:Int),(l:Int))∈used) (off:Nat) (hv:cI w v bs) (hn:off+bs.length≤l):
  Calls Tryz.prog 163 #[.pointer (some ⟨ar,0,none⟩),.agg #[.int .i64 o,.int .i64 l],.int .i64 off,v] w (bD (b6 ar size used (ca B (o+off) bs)) (.int .i64 0) w f):=by
 obtain⟨hk,⟨hl0,hol,hB⟩,hhas,ab,g,cap,⟨hc1,hc2⟩,hH⟩:=b6.view h hx;have hS0:=zh ((af.start hH).alloc (.cells #[.int .i64 o,.int .i64 l] 104));have hm0:=zh ((Mod.refl [] w).alloc (.cells #[.int .i64 o,.int .i64 l] 104));have hsl:=zh fun w' (h':af f w (aj w.heap.size (.cells #[.int .i64 o,.int .i64 l] 104 (0,0))::fe ar ab (.slice (some ⟨g,0,none⟩) B.length cap) (bK size used) used B) w')=>
  mR (h'.block 1 rfl) (h'.part 2 rfl).choose_spec.1 o l hhas hl0 hol hc1 hB hc2
 have hwi:=zh fun w=>nT (some ⟨g,o,none⟩) l (cap-o) (by omega) off bs.length (by omega) w
 have hwt:jk off bs.length l=true:=by unfold jk;simp;omega
 rw[hwt]at hwi;have hkH:=zh hk;have hvH:=zh hv;have hln:=fun ty w=>hv.len ty w
 clear h hH hhas hk hwt hx hv;go_enter Tryz.func163,Tryz.ntmps163;go_wp2_with fail;refine(hsl.out _ hS0.out).mono ?_;rintro e w1 ⟨rfl,hm1⟩;have hS1:=zh (hS0.out.then hm1);have hmH:=zh (hm0.out.ag hm1);clear hm1 hS0 hsl hm0;go_wp2_with fail;refine(hwi.out _).mono ?_;rintro e w2 ⟨rfl,hm2⟩;have hS2:=zh (hS1.out.then hm2);have hm2H:=zh (hmH.out.ag hm2);have hcp0:=zh fun q hq c ty=>oA (hS2.out.row 3 rfl) (hvH.out.mod hm2H.out) (p:=o+off) (m:=l-off) (by omega) (by omega) q c hq ty
 clear hm2 hS1 hwi hmH;by_cases hz:cap-o=off
 ·have hcp:=hcp0.out o (by omega);clear hcp0;go_wp2_with fail;have hS3:=(dU 3 hS2.out rfl (o:=o+off) (b:=bs) (by omega)).erase 0;obtain⟨f6,p1,p2,p3⟩:=hS3.done;go_ret;have hov:=cN (l:=B) (b:=bs) (off:=o+off) (by omega);refine⟨f6,rfl,⟨⟨hkH.out.s1,hkH.out.u,hkH.out.ul,by rw[hov];exact hkH.out.len,iD hkH.out.byte hvH.out.byte⟩,ab,.slice (some ⟨g,0,none⟩) B.length cap,?_⟩,p2,p3⟩;unfold fe;rw[hov];exact p1
 ·have hcp:=hcp0.out (o+off) (by omega);clear hcp0;go_wp2_with fail;all_goals
   have hS3:=(dU 3 hS2.out rfl (o:=o+off) (b:=bs) (by omega)).erase 0;obtain⟨f6,p1,p2,p3⟩:=hS3.done;go_ret;have hov:=cN (l:=B) (b:=bs) (off:=o+off) (by omega);refine⟨f6,rfl,⟨⟨hkH.out.s1,hkH.out.u,hkH.out.ul,by rw[hov];exact hkH.out.len,iD hkH.out.byte hvH.out.byte⟩,ab,.slice (some ⟨g,0,none⟩) B.length cap,?_⟩,p2,p3⟩;unfold fe;rw[hov];exact p1
theorem gY {l b:List Int} {p:Nat} (x:Int) (h:p+b.length+1≤l.length):ca (ca l p b) (p+b.length) [x]=ca l p (b++[x]):=by
 have h1:=cN (l:=l) (b:=b) (off:=p) (by omega);have h2:=cN (l:=ca l p b) (b:=[x]) (off:=p+b.length) (by rw[h1];simpa using h);have h3:=cN (l:=l) (b:=b++[x]) (off:=p) (by simp;omega);refine x8 (by rw[h2,h1,h3]) fun i hi=> ?_
 rw[ll (by rw[h1];simpa using h),ll (by omega),ll (by simp;omega)];simp only[List.length_append,List.length_cons,List.length_nil,Nat.zero_add,List.getD_eq_getElem?_getD];by_cases c1:p≤i∧i<p+b.length
 ·rw[if_neg (by omega),if_pos c1,if_pos (by omega),List.getElem?_append_left (by omega)]
 ·by_cases c2:i=p+b.length
  ·subst c2;rw[if_pos (by omega),if_pos (by omega),List.getElem?_append_right (by omega),Nat.add_sub_cancel_left,Nat.sub_self,Nat.sub_self]
  ·rw[if_neg (by omega),if_neg c1,if_neg (by omega)]
def jW (v:Int) (n:Nat):Bool:=decide (8≤n)||decide (v<256^n)
def kN (B:List Int) (p n:Nat) (v:Int):List Int:=if jW v n=true then ca B p (aX v n)else B
def j8 (n:Nat) (v:Int):Int:=if jW v n=true then 0 else 9
theorem yy {v:Int} (v0:0≤v) {n:Nat} (h8:n<8):jW v n=decide (v/256^n=0):=by
 unfold jW;have hp:(0:Int)<256^n:=Int.pow_pos (by omega);rw[show decide (8≤n)=false by simp;omega,Bool.false_or];by_cases c:v<256^n
 ·rw[Int.ediv_eq_zero_of_lt v0 c];simp[c]
 ·have:=(Int.le_ediv_iff_mul_le hp (a:=1) (b:=v)).2 (by omega);have e:¬v/256^n=0:=by omega
  simp[c,e]
theorem BU {ar:Nat} {size:Int} {used:List Ext} {B:List Int} {w:World} {f:List Nat} (h:(b6 ar size used B).on w f) {o l:Nat} (hx:((o:Int),(l:Int))∈used) (off n:Nat) (hn:off+n≤l) (hw:jY n) (v:Int) (v0:0≤v) (_:v≤18446744073709551615) (hfb:jW v n=false):
  Calls Tryz.prog 117 #[.pointer (some ⟨ar,0,none⟩),.agg #[.int .i64 o,.int .i64 l],.int .i64 off,.int .i64 n,.int .u64 v] w (bD (b6 ar size used B) (.int .i64 9) w f):=by
 obtain⟨hk,⟨hl0,hol,hB⟩,hhas,ab,g,cap,⟨hc1,hc2⟩,hH⟩:=b6.view h hx;have hn8:=hw.pos;have hS:=af.start hH;have hS0:=zh (hS.alloc (.cells #[.int .i64 o,.int .i64 l] 104));have hm0:=zh ((Mod.refl [] w).alloc (.cells #[.int .i64 o,.int .i64 l] 104));have hfd:=zh fun w' (h':Mod [] w w')=>rQ (h'.at (hS.block 0 rfl) (by simp)) (ai.bj (db ab (bK size used) used) (hS.part 1 rfl).choose_spec.1 h' (by simp)) o l hhas hol hc1 hB hc2 off n hn hw
 have hkH:=zh hk;have b9:=zh hw;have hcH:=zh fun(h8:n<8)=>(yy v0 h8).symm.trans hfb
 have hfH:=zh hfb;clear h hH hS hhas hk hx hw hfb;go_enter Tryz.func117,Tryz.ntmps117;go_wp2_with fail;refine(hfd.out _ hm0.out).mono ?_;rintro e w1 ⟨rfl,hm1⟩;have hS1:=zh (hS0.out.then hm1);have hmH:=zh (hm0.out.ag hm1);clear hm1 hm0 hfd hS0;rcases b9.out with rfl|rfl|rfl|rfl
 ·have hz:¬(v/256=0):=by
   have:=hcH.out (by omega);simp only[Int.reducePow]at this;simpa using this
  go_wp2_with fail;go_ret;obtain⟨f6,p1,p2,p3⟩:=(hS1.out.erase 0).done;exact⟨f6,rfl,⟨hkH.out,ab,_,p1⟩,p2,p3⟩
 ·have hz:¬(v/65536=0):=by
   have:=hcH.out (by omega);simp only[Int.reducePow]at this;simpa using this
  go_wp2_with fail;go_ret;obtain⟨f6,p1,p2,p3⟩:=(hS1.out.erase 0).done;exact⟨f6,rfl,⟨hkH.out,ab,_,p1⟩,p2,p3⟩
 ·have hz:¬(v/4294967296=0):=by
   have:=hcH.out (by omega);simp only[Int.reducePow]at this;simpa using this
  go_wp2_with fail;go_ret;obtain⟨f6,p1,p2,p3⟩:=(hS1.out.erase 0).done;exact⟨f6,rfl,⟨hkH.out,ab,_,p1⟩,p2,p3⟩
 ·exact absurd hfH.out (by simp[jW])
theorem AE {ar:Nat} {size:Int} {used:List Ext} {B:List Int} {w:World} {f:List Nat} (h:(b6 ar size used B).on w f) {o l:Nat} (hx:((o:Int),(l:Int))∈used) (off n:Nat) (hn:off+n≤l) (hw:jY n) (v:Int) (v0:0≤v) (v1:v≤18446744073709551615) (hfb:jW v n=true):
  Calls Tryz.prog 117 #[.pointer (some ⟨ar,0,none⟩),.agg #[.int .i64 o,.int .i64 l],.int .i64 off,.int .i64 n,.int .u64 v] w (bD (b6 ar size used (ca B (o+off) (aX v n))) (.int .i64 0) w f):=by
 obtain⟨hk,⟨hl0,hol,hB⟩,hhas,ab,g,cap,⟨hc1,hc2⟩,hH⟩:=b6.view h hx;have hn8:=hw.pos;have hS:=af.start hH;have hS0:=zh (hS.alloc (.cells #[.int .i64 o,.int .i64 l] 104));have hm0:=zh ((Mod.refl [] w).alloc (.cells #[.int .i64 o,.int .i64 l] 104));have hfd:=zh fun w' (h':Mod [] w w')=>rQ (h'.at (hS.block 0 rfl) (by simp)) (ai.bj (db ab (bK size used) used) (hS.part 1 rfl).choose_spec.1 h' (by simp)) o l hhas hol hc1 hB hc2 off n hn hw
 have hkH:=zh hk;have b9:=zh hw;have hcH:=zh fun(h8:n<8)=>(yy v0 h8).symm.trans hfb
 have hfH:=zh hfb;clear h hH hS hhas hk hx hw hfb;go_enter Tryz.func117,Tryz.ntmps117;go_wp2_with fail;refine(hfd.out _ hm0.out).mono ?_;rintro e w1 ⟨rfl,hm1⟩;have hS1:=zh (hS0.out.then hm1);have hmH:=zh (hm0.out.ag hm1);clear hm1 hm0 hfd hS0;rcases b9.out with rfl|rfl|rfl|rfl
 ·have hz:v/256=0:=by
   have:=hcH.out (by omega);simp only[Int.reducePow]at this;simpa using this
  go_wp2_with fail;clear hz;go_loopw [36] (fun i wr=>∃k:Nat,k≤1∧i=.int .i64 k∧af f w [aj w.heap.size (.cells #[.int .i64 o,.int .i64 l] 104 (0,0)),aj ar (.cells #[.pointer (some ⟨ab,0,none⟩),.slice (some ⟨g,0,none⟩) B.length cap] 164 (0,0)),db ab (bK size used) used,aT (.slice (some ⟨g,0,none⟩) B.length cap) B.length 5 1 (aR (ca B (o+off) (aX v k)))] wr) (fun i _=>1-(intOf i).toNat)
  case atStart=>exact⟨0,by omega,rfl,by rw[aX,pz];exact hS1.out⟩
  case round=>
   obtain⟨k,hk,rfl,hSk⟩:=hrel;have hSk:=zh hSk;by_cases hlt:k<1
   ·have hcase:k=0:=by omega
    subst hcase;have hth:=fg (hSk.out.row 3 rfl) (j:=o+off+0) (by omega);obtain⟨old,hold⟩:=Option.isSome_iff_exists.1 hth.1;have hfro:=hth.2;have hP:=zh (dU 3 hSk.out rfl (o:=o+off+0) (b:=[v/1%256]) (by rw[cN (by rw[aZ];omega)];simp;omega));have hov:=zh (gY (l:=B) (b:=aX v 0) (p:=o+off) (v/1%256) (by rw[aZ];omega));have hls:=zh (gJ v 0);clear hth
    try simp only[Nat.add_zero]at hold hfro
    go_wp2_with fail;go_roundw
    case rel=>
     refine⟨1,by omega,by go_num,?_⟩;have h1:=hP.out;have h2:=hov.out;have h3:=hls.out;simp only[Int.reducePow,Nat.reduceAdd]at h3;rw[aZ, ←h3]at h2;rw[h2]at h1
     first
     |exact h1
     |(rw[Int.ediv_one]at h1;exact h1)
     |(rw[Int.emod_eq_of_lt (a:=v/1) (by omega) (by omega)]at h1;exact h1)
    case measure=>first|(simp[intOf];done)|(simp[intOf];omega)
   ·obtain rfl:k=1:=by omega
    go_wp2_with fail;go_ret;obtain⟨f6,p1,p2,p3⟩:=(hSk.out.erase 0).done;have hov:=cN (l:=B) (b:=aX v 1) (off:=o+off) (by rw[aZ];omega);refine⟨f6,rfl,⟨⟨hkH.out.s1,hkH.out.u,hkH.out.ul,by rw[hov];exact hkH.out.len,iD hkH.out.byte (kD v 1)⟩,ab,.slice (some ⟨g,0,none⟩) B.length cap,?_⟩,p2,p3⟩;unfold fe;rw[hov];exact p1
 ·have hz:v/65536=0:=by
   have:=hcH.out (by omega);simp only[Int.reducePow]at this;simpa using this
  go_wp2_with fail;clear hz;go_loopw [36] (fun i wr=>∃k:Nat,k≤2∧i=.int .i64 k∧af f w [aj w.heap.size (.cells #[.int .i64 o,.int .i64 l] 104 (0,0)),aj ar (.cells #[.pointer (some ⟨ab,0,none⟩),.slice (some ⟨g,0,none⟩) B.length cap] 164 (0,0)),db ab (bK size used) used,aT (.slice (some ⟨g,0,none⟩) B.length cap) B.length 5 1 (aR (ca B (o+off) (aX v k)))] wr) (fun i _=>2-(intOf i).toNat)
  case atStart=>exact⟨0,by omega,rfl,by rw[aX,pz];exact hS1.out⟩
  case round=>
   obtain⟨k,hk,rfl,hSk⟩:=hrel;have hSk:=zh hSk;by_cases hlt:k<2
   ·have hcase:k=0∨k=1:=by omega
    rcases hcase with rfl|rfl
    ·have hth:=fg (hSk.out.row 3 rfl) (j:=o+off+0) (by omega);obtain⟨old,hold⟩:=Option.isSome_iff_exists.1 hth.1;have hfro:=hth.2;have hP:=zh (dU 3 hSk.out rfl (o:=o+off+0) (b:=[v/1%256]) (by rw[cN (by rw[aZ];omega)];simp;omega));have hov:=zh (gY (l:=B) (b:=aX v 0) (p:=o+off) (v/1%256) (by rw[aZ];omega));have hls:=zh (gJ v 0);clear hth
     try simp only[Nat.add_zero]at hold hfro
     go_wp2_with fail;go_roundw
     case rel=>
      refine⟨1,by omega,by go_num,?_⟩;have h1:=hP.out;have h2:=hov.out;have h3:=hls.out;simp only[Int.reducePow,Nat.reduceAdd]at h3;rw[aZ, ←h3]at h2;rw[h2]at h1
      first
      |exact h1
      |(rw[Int.ediv_one]at h1;exact h1)
      |(rw[Int.emod_eq_of_lt (a:=v/1) (by omega) (by omega)]at h1;exact h1)
     case measure=>first|(simp[intOf];done)|(simp[intOf];omega)
    ·have hth:=fg (hSk.out.row 3 rfl) (j:=o+off+1) (by omega);obtain⟨old,hold⟩:=Option.isSome_iff_exists.1 hth.1;have hfro:=hth.2;have hP:=zh (dU 3 hSk.out rfl (o:=o+off+1) (b:=[v/256%256]) (by rw[cN (by rw[aZ];omega)];simp;omega));have hov:=zh (gY (l:=B) (b:=aX v 1) (p:=o+off) (v/256%256) (by rw[aZ];omega));have hls:=zh (gJ v 1);clear hth
     try simp only[Nat.add_zero]at hold hfro
     go_wp2_with fail;go_roundw
     case rel=>
      refine⟨2,by omega,by go_num,?_⟩;have h1:=hP.out;have h2:=hov.out;have h3:=hls.out;simp only[Int.reducePow,Nat.reduceAdd]at h3;rw[aZ, ←h3]at h2;rw[h2]at h1
      first
      |exact h1
      |(rw[Int.ediv_one]at h1;exact h1)
      |(rw[Int.emod_eq_of_lt (a:=v/256) (by omega) (by omega)]at h1;exact h1)
     case measure=>first|(simp[intOf];done)|(simp[intOf];omega)
   ·obtain rfl:k=2:=by omega
    go_wp2_with fail;go_ret;obtain⟨f6,p1,p2,p3⟩:=(hSk.out.erase 0).done;have hov:=cN (l:=B) (b:=aX v 2) (off:=o+off) (by rw[aZ];omega);refine⟨f6,rfl,⟨⟨hkH.out.s1,hkH.out.u,hkH.out.ul,by rw[hov];exact hkH.out.len,iD hkH.out.byte (kD v 2)⟩,ab,.slice (some ⟨g,0,none⟩) B.length cap,?_⟩,p2,p3⟩;unfold fe;rw[hov];exact p1
 ·have hz:v/4294967296=0:=by
   have:=hcH.out (by omega);simp only[Int.reducePow]at this;simpa using this
  go_wp2_with fail;clear hz;go_loopw [36] (fun i wr=>∃k:Nat,k≤4∧i=.int .i64 k∧af f w [aj w.heap.size (.cells #[.int .i64 o,.int .i64 l] 104 (0,0)),aj ar (.cells #[.pointer (some ⟨ab,0,none⟩),.slice (some ⟨g,0,none⟩) B.length cap] 164 (0,0)),db ab (bK size used) used,aT (.slice (some ⟨g,0,none⟩) B.length cap) B.length 5 1 (aR (ca B (o+off) (aX v k)))] wr) (fun i _=>4-(intOf i).toNat)
  case atStart=>exact⟨0,by omega,rfl,by rw[aX,pz];exact hS1.out⟩
  case round=>
   obtain⟨k,hk,rfl,hSk⟩:=hrel;have hSk:=zh hSk;by_cases hlt:k<4
   ·have hcase:k=0∨k=1∨k=2∨k=3:=by omega
    rcases hcase with rfl|rfl|rfl|rfl
    ·have hth:=fg (hSk.out.row 3 rfl) (j:=o+off+0) (by omega);obtain⟨old,hold⟩:=Option.isSome_iff_exists.1 hth.1;have hfro:=hth.2;have hP:=zh (dU 3 hSk.out rfl (o:=o+off+0) (b:=[v/1%256]) (by rw[cN (by rw[aZ];omega)];simp;omega));have hov:=zh (gY (l:=B) (b:=aX v 0) (p:=o+off) (v/1%256) (by rw[aZ];omega));have hls:=zh (gJ v 0);clear hth
     try simp only[Nat.add_zero]at hold hfro
     go_wp2_with fail;go_roundw
     case rel=>
      refine⟨1,by omega,by go_num,?_⟩;have h1:=hP.out;have h2:=hov.out;have h3:=hls.out;simp only[Int.reducePow,Nat.reduceAdd]at h3;rw[aZ, ←h3]at h2;rw[h2]at h1
      first
      |exact h1
      |(rw[Int.ediv_one]at h1;exact h1)
      |(rw[Int.emod_eq_of_lt (a:=v/1) (by omega) (by omega)]at h1;exact h1)
     case measure=>first|(simp[intOf];done)|(simp[intOf];omega)
    ·have hth:=fg (hSk.out.row 3 rfl) (j:=o+off+1) (by omega);obtain⟨old,hold⟩:=Option.isSome_iff_exists.1 hth.1;have hfro:=hth.2;have hP:=zh (dU 3 hSk.out rfl (o:=o+off+1) (b:=[v/256%256]) (by rw[cN (by rw[aZ];omega)];simp;omega));have hov:=zh (gY (l:=B) (b:=aX v 1) (p:=o+off) (v/256%256) (by rw[aZ];omega));have hls:=zh (gJ v 1);clear hth
     try simp only[Nat.add_zero]at hold hfro
     go_wp2_with fail;go_roundw
     case rel=>
      refine⟨2,by omega,by go_num,?_⟩;have h1:=hP.out;have h2:=hov.out;have h3:=hls.out;simp only[Int.reducePow,Nat.reduceAdd]at h3;rw[aZ, ←h3]at h2;rw[h2]at h1
      first
      |exact h1
      |(rw[Int.ediv_one]at h1;exact h1)
      |(rw[Int.emod_eq_of_lt (a:=v/256) (by omega) (by omega)]at h1;exact h1)
     case measure=>first|(simp[intOf];done)|(simp[intOf];omega)
    ·have hth:=fg (hSk.out.row 3 rfl) (j:=o+off+2) (by omega);obtain⟨old,hold⟩:=Option.isSome_iff_exists.1 hth.1;have hfro:=hth.2;have hP:=zh (dU 3 hSk.out rfl (o:=o+off+2) (b:=[v/65536%256]) (by rw[cN (by rw[aZ];omega)];simp;omega));have hov:=zh (gY (l:=B) (b:=aX v 2) (p:=o+off) (v/65536%256) (by rw[aZ];omega));have hls:=zh (gJ v 2);clear hth
     try simp only[Nat.add_zero]at hold hfro
     go_wp2_with fail;go_roundw
     case rel=>
      refine⟨3,by omega,by go_num,?_⟩;have h1:=hP.out;have h2:=hov.out;have h3:=hls.out;simp only[Int.reducePow,Nat.reduceAdd]at h3;rw[aZ, ←h3]at h2;rw[h2]at h1
      first
      |exact h1
      |(rw[Int.ediv_one]at h1;exact h1)
      |(rw[Int.emod_eq_of_lt (a:=v/65536) (by omega) (by omega)]at h1;exact h1)
     case measure=>first|(simp[intOf];done)|(simp[intOf];omega)
    ·have hth:=fg (hSk.out.row 3 rfl) (j:=o+off+3) (by omega);obtain⟨old,hold⟩:=Option.isSome_iff_exists.1 hth.1;have hfro:=hth.2;have hP:=zh (dU 3 hSk.out rfl (o:=o+off+3) (b:=[v/16777216%256]) (by rw[cN (by rw[aZ];omega)];simp;omega));have hov:=zh (gY (l:=B) (b:=aX v 3) (p:=o+off) (v/16777216%256) (by rw[aZ];omega));have hls:=zh (gJ v 3);clear hth
     try simp only[Nat.add_zero]at hold hfro
     go_wp2_with fail;go_roundw
     case rel=>
      refine⟨4,by omega,by go_num,?_⟩;have h1:=hP.out;have h2:=hov.out;have h3:=hls.out;simp only[Int.reducePow,Nat.reduceAdd]at h3;rw[aZ, ←h3]at h2;rw[h2]at h1
      first
      |exact h1
      |(rw[Int.ediv_one]at h1;exact h1)
      |(rw[Int.emod_eq_of_lt (a:=v/16777216) (by omega) (by omega)]at h1;exact h1)
     case measure=>first|(simp[intOf];done)|(simp[intOf];omega)
   ·obtain rfl:k=4:=by omega
    go_wp2_with fail;go_ret;obtain⟨f6,p1,p2,p3⟩:=(hSk.out.erase 0).done;have hov:=cN (l:=B) (b:=aX v 4) (off:=o+off) (by rw[aZ];omega);refine⟨f6,rfl,⟨⟨hkH.out.s1,hkH.out.u,hkH.out.ul,by rw[hov];exact hkH.out.len,iD hkH.out.byte (kD v 4)⟩,ab,.slice (some ⟨g,0,none⟩) B.length cap,?_⟩,p2,p3⟩;unfold fe;rw[hov];exact p1
 ·go_wp2_with fail;go_loopw [36] (fun i wr=>∃k:Nat,k≤8∧i=.int .i64 k∧af f w [aj w.heap.size (.cells #[.int .i64 o,.int .i64 l] 104 (0,0)),aj ar (.cells #[.pointer (some ⟨ab,0,none⟩),.slice (some ⟨g,0,none⟩) B.length cap] 164 (0,0)),db ab (bK size used) used,aT (.slice (some ⟨g,0,none⟩) B.length cap) B.length 5 1 (aR (ca B (o+off) (aX v k)))] wr) (fun i _=>8-(intOf i).toNat)
  case atStart=>exact⟨0,by omega,rfl,by rw[aX,pz];exact hS1.out⟩
  case round=>
   obtain⟨k,hk,rfl,hSk⟩:=hrel;have hSk:=zh hSk;by_cases hlt:k<8
   ·have hcase:k=0∨k=1∨k=2∨k=3∨k=4∨k=5∨k=6∨k=7:=by omega
    rcases hcase with rfl|rfl|rfl|rfl|rfl|rfl|rfl|rfl
    ·have hth:=fg (hSk.out.row 3 rfl) (j:=o+off+0) (by omega);obtain⟨old,hold⟩:=Option.isSome_iff_exists.1 hth.1;have hfro:=hth.2;have hP:=zh (dU 3 hSk.out rfl (o:=o+off+0) (b:=[v/1%256]) (by rw[cN (by rw[aZ];omega)];simp;omega));have hov:=zh (gY (l:=B) (b:=aX v 0) (p:=o+off) (v/1%256) (by rw[aZ];omega));have hls:=zh (gJ v 0);clear hth
     try simp only[Nat.add_zero]at hold hfro
     go_wp2_with fail;go_roundw
     case rel=>
      refine⟨1,by omega,by go_num,?_⟩;have h1:=hP.out;have h2:=hov.out;have h3:=hls.out;simp only[Int.reducePow,Nat.reduceAdd]at h3;rw[aZ, ←h3]at h2;rw[h2]at h1
      first
      |exact h1
      |(rw[Int.ediv_one]at h1;exact h1)
      |(rw[Int.emod_eq_of_lt (a:=v/1) (by omega) (by omega)]at h1;exact h1)
     case measure=>first|(simp[intOf];done)|(simp[intOf];omega)
    ·have hth:=fg (hSk.out.row 3 rfl) (j:=o+off+1) (by omega);obtain⟨old,hold⟩:=Option.isSome_iff_exists.1 hth.1;have hfro:=hth.2;have hP:=zh (dU 3 hSk.out rfl (o:=o+off+1) (b:=[v/256%256]) (by rw[cN (by rw[aZ];omega)];simp;omega));have hov:=zh (gY (l:=B) (b:=aX v 1) (p:=o+off) (v/256%256) (by rw[aZ];omega));have hls:=zh (gJ v 1);clear hth
     try simp only[Nat.add_zero]at hold hfro
     go_wp2_with fail;go_roundw
     case rel=>
      refine⟨2,by omega,by go_num,?_⟩;have h1:=hP.out;have h2:=hov.out;have h3:=hls.out;simp only[Int.reducePow,Nat.reduceAdd]at h3;rw[aZ, ←h3]at h2;rw[h2]at h1
      first
      |exact h1
      |(rw[Int.ediv_one]at h1;exact h1)
      |(rw[Int.emod_eq_of_lt (a:=v/256) (by omega) (by omega)]at h1;exact h1)
     case measure=>first|(simp[intOf];done)|(simp[intOf];omega)
    ·have hth:=fg (hSk.out.row 3 rfl) (j:=o+off+2) (by omega);obtain⟨old,hold⟩:=Option.isSome_iff_exists.1 hth.1;have hfro:=hth.2;have hP:=zh (dU 3 hSk.out rfl (o:=o+off+2) (b:=[v/65536%256]) (by rw[cN (by rw[aZ];omega)];simp;omega));have hov:=zh (gY (l:=B) (b:=aX v 2) (p:=o+off) (v/65536%256) (by rw[aZ];omega));have hls:=zh (gJ v 2);clear hth
     try simp only[Nat.add_zero]at hold hfro
     go_wp2_with fail;go_roundw
     case rel=>
      refine⟨3,by omega,by go_num,?_⟩;have h1:=hP.out;have h2:=hov.out;have h3:=hls.out;simp only[Int.reducePow,Nat.reduceAdd]at h3;rw[aZ, ←h3]at h2;rw[h2]at h1
      first
      |exact h1
      |(rw[Int.ediv_one]at h1;exact h1)
      |(rw[Int.emod_eq_of_lt (a:=v/65536) (by omega) (by omega)]at h1;exact h1)
     case measure=>first|(simp[intOf];done)|(simp[intOf];omega)
    ·have hth:=fg (hSk.out.row 3 rfl) (j:=o+off+3) (by omega);obtain⟨old,hold⟩:=Option.isSome_iff_exists.1 hth.1;have hfro:=hth.2;have hP:=zh (dU 3 hSk.out rfl (o:=o+off+3) (b:=[v/16777216%256]) (by rw[cN (by rw[aZ];omega)];simp;omega));have hov:=zh (gY (l:=B) (b:=aX v 3) (p:=o+off) (v/16777216%256) (by rw[aZ];omega));have hls:=zh (gJ v 3);clear hth
     try simp only[Nat.add_zero]at hold hfro
     go_wp2_with fail;go_roundw
     case rel=>
      refine⟨4,by omega,by go_num,?_⟩;have h1:=hP.out;have h2:=hov.out;have h3:=hls.out;simp only[Int.reducePow,Nat.reduceAdd]at h3;rw[aZ, ←h3]at h2;rw[h2]at h1
      first
      |exact h1
      |(rw[Int.ediv_one]at h1;exact h1)
      |(rw[Int.emod_eq_of_lt (a:=v/16777216) (by omega) (by omega)]at h1;exact h1)
     case measure=>first|(simp[intOf];done)|(simp[intOf];omega)
    ·have hth:=fg (hSk.out.row 3 rfl) (j:=o+off+4) (by omega);obtain⟨old,hold⟩:=Option.isSome_iff_exists.1 hth.1;have hfro:=hth.2;have hP:=zh (dU 3 hSk.out rfl (o:=o+off+4) (b:=[v/4294967296%256]) (by rw[cN (by rw[aZ];omega)];simp;omega));have hov:=zh (gY (l:=B) (b:=aX v 4) (p:=o+off) (v/4294967296%256) (by rw[aZ];omega));have hls:=zh (gJ v 4);clear hth
     try simp only[Nat.add_zero]at hold hfro
     go_wp2_with fail;go_roundw
     case rel=>
      refine⟨5,by omega,by go_num,?_⟩;have h1:=hP.out;have h2:=hov.out;have h3:=hls.out;simp only[Int.reducePow,Nat.reduceAdd]at h3;rw[aZ, ←h3]at h2;rw[h2]at h1
      first
      |exact h1
      |(rw[Int.ediv_one]at h1;exact h1)
      |(rw[Int.emod_eq_of_lt (a:=v/4294967296) (by omega) (by omega)]at h1;exact h1)
     case measure=>first|(simp[intOf];done)|(simp[intOf];omega)
    ·have hth:=fg (hSk.out.row 3 rfl) (j:=o+off+5) (by omega);obtain⟨old,hold⟩:=Option.isSome_iff_exists.1 hth.1;have hfro:=hth.2;have hP:=zh (dU 3 hSk.out rfl (o:=o+off+5) (b:=[v/1099511627776%256]) (by rw[cN (by rw[aZ];omega)];simp;omega));have hov:=zh (gY (l:=B) (b:=aX v 5) (p:=o+off) (v/1099511627776%256) (by rw[aZ];omega));have hls:=zh (gJ v 5);clear hth
     try simp only[Nat.add_zero]at hold hfro
     go_wp2_with fail;go_roundw
     case rel=>
      refine⟨6,by omega,by go_num,?_⟩;have h1:=hP.out;have h2:=hov.out;have h3:=hls.out;simp only[Int.reducePow,Nat.reduceAdd]at h3;rw[aZ, ←h3]at h2;rw[h2]at h1
      first
      |exact h1
      |(rw[Int.ediv_one]at h1;exact h1)
      |(rw[Int.emod_eq_of_lt (a:=v/1099511627776) (by omega) (by omega)]at h1;exact h1)
     case measure=>first|(simp[intOf];done)|(simp[intOf];omega)
    ·have hth:=fg (hSk.out.row 3 rfl) (j:=o+off+6) (by omega);obtain⟨old,hold⟩:=Option.isSome_iff_exists.1 hth.1;have hfro:=hth.2;have hP:=zh (dU 3 hSk.out rfl (o:=o+off+6) (b:=[v/281474976710656%256]) (by rw[cN (by rw[aZ];omega)];simp;omega));have hov:=zh (gY (l:=B) (b:=aX v 6) (p:=o+off) (v/281474976710656%256) (by rw[aZ];omega));have hls:=zh (gJ v 6);clear hth
     try simp only[Nat.add_zero]at hold hfro
     go_wp2_with fail;go_roundw
     case rel=>
      refine⟨7,by omega,by go_num,?_⟩;have h1:=hP.out;have h2:=hov.out;have h3:=hls.out;simp only[Int.reducePow,Nat.reduceAdd]at h3;rw[aZ, ←h3]at h2;rw[h2]at h1
      first
      |exact h1
      |(rw[Int.ediv_one]at h1;exact h1)
      |(rw[Int.emod_eq_of_lt (a:=v/281474976710656) (by omega) (by omega)]at h1;exact h1)
     case measure=>first|(simp[intOf];done)|(simp[intOf];omega)
    ·have hth:=fg (hSk.out.row 3 rfl) (j:=o+off+7) (by omega);obtain⟨old,hold⟩:=Option.isSome_iff_exists.1 hth.1;have hfro:=hth.2;have hP:=zh (dU 3 hSk.out rfl (o:=o+off+7) (b:=[v/72057594037927936%256]) (by rw[cN (by rw[aZ];omega)];simp;omega));have hov:=zh (gY (l:=B) (b:=aX v 7) (p:=o+off) (v/72057594037927936%256) (by rw[aZ];omega));have hls:=zh (gJ v 7);clear hth
     try simp only[Nat.add_zero]at hold hfro
     go_wp2_with fail;go_roundw
     case rel=>
      refine⟨8,by omega,by go_num,?_⟩;have h1:=hP.out;have h2:=hov.out;have h3:=hls.out;simp only[Int.reducePow,Nat.reduceAdd]at h3;rw[aZ, ←h3]at h2;rw[h2]at h1
      first
      |exact h1
      |(rw[Int.ediv_one]at h1;exact h1)
      |(rw[Int.emod_eq_of_lt (a:=v/72057594037927936) (by omega) (by omega)]at h1;exact h1)
     case measure=>first|(simp[intOf];done)|(simp[intOf];omega)
   ·obtain rfl:k=8:=by omega
    go_wp2_with fail;go_ret;obtain⟨f6,p1,p2,p3⟩:=(hSk.out.erase 0).done;have hov:=cN (l:=B) (b:=aX v 8) (off:=o+off) (by rw[aZ];omega);refine⟨f6,rfl,⟨⟨hkH.out.s1,hkH.out.u,hkH.out.ul,by rw[hov];exact hkH.out.len,iD hkH.out.byte (kD v 8)⟩,ab,.slice (some ⟨g,0,none⟩) B.length cap,?_⟩,p2,p3⟩;unfold fe;rw[hov];exact p1
theorem Cq {ar:Nat} {size:Int} {used:List Ext} {B:List Int} {w:World} {f:List Nat} (h:(b6 ar size used B).on w f) {o l:Nat} (hx:((o:Int),(l:Int))∈used) (off n:Nat) (hn:off+n≤l) (hw:jY n) (v:Int) (v0:0≤v) (v1:v≤18446744073709551615):
  Calls Tryz.prog 117 #[.pointer (some ⟨ar,0,none⟩),.agg #[.int .i64 o,.int .i64 l],.int .i64 off,.int .i64 n,.int .u64 v] w (bD (b6 ar size used (kN B (o+off) n v)) (.int .i64 (j8 n v)) w f):=by
 cases hfb:jW v n with
 |true=>
  rw[show kN B (o+off) n v=ca B (o+off) (aX v n) by unfold kN;rw[hfb];rfl,show j8 n v=0 by unfold j8;rw[hfb];rfl];exact AE h hx off n hn hw v v0 v1 hfb
 |false=>
  rw[show kN B (o+off) n v=B by unfold kN;rw[hfb];rfl,show j8 n v=9 by unfold j8;rw[hfb];rfl];exact BU h hx off n hn hw v v0 v1 hfb
end Go.Proofs.YtdehaommhbjakaaGreat
