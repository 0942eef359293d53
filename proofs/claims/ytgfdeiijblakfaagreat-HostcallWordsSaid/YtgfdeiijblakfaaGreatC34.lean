/- Joined contracts. No conditions. -/
import Derived.Test.YtgfdeiijblakfaaGreatCS
import Derived.Test.YtgfdeiijblakfaaGreatC07
import Derived.Test.YtgfdeiijblakfaaGreatC21
import Derived.Test.YtgfdeiijblakfaaGreatC26
import Derived.Test.YtgfdeiijblakfaaGreatC30
import Derived.Test.YtgfdeiijblakfaaGreatC32
import Derived.Test.YtgfdeiijblakfaaGreatC33
set_option maxHeartbeats 8000000
set_option maxRecDepth 20000
namespace Go.Proofs.YtgfdeiijblakfaaGreat
open Go Go.RowKit Go.Stg
theorem live_ext {c:HC} {k:Nat} {s:HS} (hI:HInv c k s) {j:Nat} (hj:j<c.n) (hl:(Tb.slotN s.T.g.S j).2=true):∃(o l:Nat),(Tb.entN s.T.E j).off=o∧(Tb.entN s.T.E j).len=l∧0<l∧(memH s j).length≤l:=by
 have hm:=List.mem_map_of_mem (f:=extE) (liveE_mem (c:=c) hj hl);obtain⟨⟨h1,h2,_⟩,_⟩:=hI.uok.ok _ hm;unfold extE at h1 h2;simp only at h1 h2;obtain⟨_,ht,hr⟩:=hI.ent _ (liveE_mem hj hl);have hsz:=hI.mem j hj hl;have hty:Ty.TyOk (tyTag s (Tb.entN s.T.E j).tag):=by
  refine hI.rok _ ?_;unfold tyTag Ty.lookT;rw[if_pos ht,List.getD_eq_getElem?_getD,List.getElem?_eq_getElem (by omega)];exact List.getElem_mem _
 have hs1:=size_pos hty;have hrs:=round_spec hs1.1 hs1.2;have e1:sizeTag s (Tb.entN s.T.E j).tag=Ty.sizeT (tyTag s (Tb.entN s.T.E j).tag).1 (tyTag s (Tb.entN s.T.E j).tag).2:=rfl;rw[e1]at hr hsz;exact⟨(Tb.entN s.T.E j).off.toNat,(Tb.entN s.T.E j).len.toNat,by omega,by omega,by omega,by omega⟩
theorem bytes_piece {w:World} {b g n cap:Nat} {B:List Int} (h:w.ownsRow b 5 1 (.slice (some ⟨g,0,none⟩) n cap) n (bvals B)) (hb:∀x∈B,0≤x∧x≤255) {p m:Nat} (hp:p+m≤n) (hn:n≤1048576) {q:Nat} (hq:0<m→q=p) (c:Nat):
  BytesAt w (.slice (some ⟨g,q,none⟩) m c) ((B.drop p).take m):=by
 have hl:=h.1;rw[bvals_len]at hl;have e:((B.drop p).take m).length=m:=by simp;omega
 refine .inr ⟨g,q,c,by rw[e],(h.lt g rfl).2,by rw[e];unfold maxLen;omega,fun i hi=> ?_⟩;rw[e]at hi;have hq':=hq (by omega);subst hq';have hi2:q+i<B.length:=by omega
 rw[show((B.drop q).take m)[i]'(by omega)=B[q+i] by simp];refine⟨hb _ (List.getElem_mem _),?_⟩;rw[h.cellAt (q+i) (by omega)];simp[bvals,hi2]
theorem arread_ok {ar:Nat} {size:Int} {used:List Ext} {B:List Int} {w:World} {f:List Nat} (h:(arC ar size used B).on w f) {o l:Nat} (hx:((o:Int),(l:Int))∈used) (off n:Nat) (hn:off+n≤l):
  Calls Tryz.prog 62 #[.pointer (some ⟨ar,0,none⟩),.agg #[.int .i64 o,.int .i64 l],.int .i64 off,.int .i64 n] w fun e w'=>∃v,e=.returned (.tuple #[v,.int .i64 0])∧w'.ownsRow w.heap.size 5 1 v n (bvals ((B.drop (o+off)).take n))∧Mod [] w w':=by
 obtain⟨hk,⟨hl0,hol,hB⟩,hhas,ab,g,cap,⟨hc1,hc2⟩,hH⟩:=arC.view h hx;have hS0:=Lib.hid ((Scene.start hH).alloc (.cells #[.int .i64 o,.int .i64 l] 139));have hm0:=Lib.hid ((Mod.refl [] w).alloc (.cells #[.int .i64 o,.int .i64 l] 139));have hsl:=Lib.hid fun w' (h':Scene f w (blockC w.heap.size (.cells #[.int .i64 o,.int .i64 l] 139 (0,0))::arP ar ab (.slice (some ⟨g,0,none⟩) B.length cap) (frOf size used) used B) w')=>
  arslice_ok (h'.block 1 rfl) (h'.part 2 rfl).choose_spec.1 o l hhas hl0 hol hc1 hB hc2
 have hwi:=Lib.hid fun w=>arwithin_ok (some ⟨g,o,none⟩) l (cap-o) (by omega) off n (by omega) w
 have hwt:withinB off n l=true:=by unfold withinB;simp;omega
 rw[hwt]at hwi;have hkH:=Lib.hid hk;have hlen:((B.drop (o+off)).take n).length=n:=by simp;omega
 have hlenH:=Lib.hid hlen;generalize hbs:(B.drop (o+off)).take n=bs at*;have hbsH:=Lib.hid hbs;clear h hH hhas hk hwt hx hlen hbs;have h0:decide ((n:Int)<0)=false:=by simp
 go_enter Tryz.func62,Tryz.ntmps62;go_wp2_with fail;refine(hsl.out _ hS0.out).mono ?_;rintro e w1 ⟨rfl,hm1⟩;have hS1:=Lib.hid (hS0.out.then hm1);have hmH:=Lib.hid (hm0.out.nil_then hm1);clear hm1 hS0 hsl hm0;go_wp2_with fail;refine(hwi.out _).mono ?_;rintro e w2 ⟨rfl,hm2⟩;have hS2:=Lib.hid (hS1.out.then hm2);have hm2H:=Lib.hid (hmH.out.nil_then hm2);clear hm2 hS1 hwi hmH;go_wp2_with fail;all_goals
  refine(bclone_ok _ bs (by rw[hlenH.out];omega) w2 ?_).mono ?_
  ·rw[←hbsH.out];exact bytes_piece (hS2.out.row 3 rfl) hkH.out.byte (p:=o+off) (m:=n) (by omega) (by omega) (by omega) _
  rintro e w3 ⟨v,rfl,hr,hm3⟩;obtain⟨va,vl,vc,rfl⟩:=rowForm hr;have hrH:=Lib.hid hr;have hm3H:=Lib.hid hm3;clear hr hm3 hS2;go_wp2_with fail;go_ret2;refine⟨_,rfl,?_,hm2H.out.nil_then hm3H.out⟩;have:=row_base hrH.out hm2H.out.size;rw[hlenH.out]at this;exact this
def wOk (n:Nat):Prop:=n=1∨n=2∨n=4∨n=8
theorem wOk.pos {n:Nat} (h:wOk n):0<n∧n≤8:=by unfold wOk at h;omega
theorem BytesAt.byte {w:World} {v:Value} {bs:List Int} (h:BytesAt w v bs):∀x∈bs,0≤x∧x≤255:=by
 intro x hx;obtain⟨i,hi,rfl⟩:=List.getElem_of_mem hx;rcases h with⟨_,rfl⟩|⟨_,_,_,_,_,_,h4⟩
 ·simp at hi
 ·exact(h4 i hi).1
theorem copy_row {w:World} {b g n cap:Nat} {B bs:List Int} {v:Value} (h:w.ownsRow b 5 1 (.slice (some ⟨g,0,none⟩) n cap) n (bvals B)) (hv:BytesAt w v bs) {p m:Nat} (hp:p+bs.length≤n) (hm:bs.length≤m) (q c:Nat) (hq:0<bs.length→q=p) (ty:TypeId):
  (Builtin.copy_ #[81,81] ty #[.slice (some ⟨g,q,none⟩) m c,v]).run Tryz.prog w=.ok (.int .i64 bs.length) (w.setCells g p (bvals bs)):=by
 obtain⟨i0,hi0,hz0,hz1,hz2⟩:=info_parts info_u8;have hs:(Tryz.prog.info? 5).map (·.size)=some 1:=by rw[hi0];simp[hz1]
 by_cases h0:bs.length=0
 ·obtain rfl:bs=[]:=List.length_eq_zero_iff.1 h0;have e:w.setCells g p (bvals [])=w:=rfl;rw[e];rcases hv with⟨rfl,_⟩|⟨sb,so,cp,rfl,_⟩
  ·exact run_copy_none w 81 81 ty 5 _ _ m c 0 0 Tryz.underlying81 hs (by simp)
  ·exact run_copy_none w 81 81 ty 5 _ _ m c 0 cp Tryz.underlying81 hs (by simp)
 ·have hq':=hq (by omega);subst hq';rcases hv with⟨rfl,rfl⟩|⟨sb,so,cp,rfl,k1,k2,k3⟩
  ·simp at h0
  ·have:=run_copy_cells (P:=Tryz.prog) w 81 81 ty 5 g q m c ⟨sb,so,none⟩ bs.length cp (bvals bs) Tryz.underlying81 hs (by rw[bvals_len];exact(Nat.min_eq_left hm).symm)
    (bytes_cells (.inr ⟨sb,so,cp,rfl,k1,k2,k3⟩)) (fun j hj=>(bytes_there h (by rw[bvals_len]at hj;omega)).1) (fun j hj=>(bytes_there h (by rw[bvals_len]at hj;omega)).2) (bvals_one bs)
   rw[bvals_len]at this;exact this
theorem arwrite_ok {ar:Nat} {size:Int} {used:List Ext} {B bs:List Int} {v:Value} {w:World} {f:List Nat} (h:(arC ar size used B).on w f) {o l:Nat} (hx:((o:Int),(l:Int))∈used) (off:Nat) (hv:BytesAt w v bs) (hn:off+bs.length≤l):
  Calls Tryz.prog 137 #[.pointer (some ⟨ar,0,none⟩),.agg #[.int .i64 o,.int .i64 l],.int .i64 off,v] w (Takes (arC ar size used (overlay B (o+off) bs)) (.int .i64 0) w f):=by
 obtain⟨hk,⟨hl0,hol,hB⟩,hhas,ab,g,cap,⟨hc1,hc2⟩,hH⟩:=arC.view h hx;have hS0:=Lib.hid ((Scene.start hH).alloc (.cells #[.int .i64 o,.int .i64 l] 139));have hm0:=Lib.hid ((Mod.refl [] w).alloc (.cells #[.int .i64 o,.int .i64 l] 139));have hsl:=Lib.hid fun w' (h':Scene f w (blockC w.heap.size (.cells #[.int .i64 o,.int .i64 l] 139 (0,0))::arP ar ab (.slice (some ⟨g,0,none⟩) B.length cap) (frOf size used) used B) w')=>
  arslice_ok (h'.block 1 rfl) (h'.part 2 rfl).choose_spec.1 o l hhas hl0 hol hc1 hB hc2
 have hwi:=Lib.hid fun w=>arwithin_ok (some ⟨g,o,none⟩) l (cap-o) (by omega) off bs.length (by omega) w
 have hwt:withinB off bs.length l=true:=by unfold withinB;simp;omega
 rw[hwt]at hwi;have hkH:=Lib.hid hk;have hvH:=Lib.hid hv;have hln:=fun ty w=>hv.len ty w
 clear h hH hhas hk hwt hx hv;go_enter Tryz.func137,Tryz.ntmps137;go_wp2_with fail;refine(hsl.out _ hS0.out).mono ?_;rintro e w1 ⟨rfl,hm1⟩;have hS1:=Lib.hid (hS0.out.then hm1);have hmH:=Lib.hid (hm0.out.nil_then hm1);clear hm1 hS0 hsl hm0;go_wp2_with fail;refine(hwi.out _).mono ?_;rintro e w2 ⟨rfl,hm2⟩;have hS2:=Lib.hid (hS1.out.then hm2);have hm2H:=Lib.hid (hmH.out.nil_then hm2);have hcp0:=Lib.hid fun q hq c ty=>copy_row (hS2.out.row 3 rfl) (hvH.out.mod hm2H.out) (p:=o+off) (m:=l-off) (by omega) (by omega) q c hq ty
 clear hm2 hS1 hwi hmH;by_cases hz:cap-o=off
 ·have hcp:=hcp0.out o (by omega);clear hcp0;go_wp2_with fail;have hS3:=(scene_bytes 3 hS2.out rfl (o:=o+off) (b:=bs) (by omega)).erase 0;obtain⟨f6,p1,p2,p3⟩:=hS3.done;go_ret;have hov:=overlay_len (l:=B) (b:=bs) (off:=o+off) (by omega);refine⟨f6,rfl,⟨⟨hkH.out.s1,hkH.out.u,hkH.out.ul,by rw[hov];exact hkH.out.len,overlay_mem hkH.out.byte hvH.out.byte⟩,ab,.slice (some ⟨g,0,none⟩) B.length cap,?_⟩,p2,p3⟩;unfold arP;rw[hov];exact p1
 ·have hcp:=hcp0.out (o+off) (by omega);clear hcp0;go_wp2_with fail;all_goals
   have hS3:=(scene_bytes 3 hS2.out rfl (o:=o+off) (b:=bs) (by omega)).erase 0;obtain⟨f6,p1,p2,p3⟩:=hS3.done;go_ret;have hov:=overlay_len (l:=B) (b:=bs) (off:=o+off) (by omega);refine⟨f6,rfl,⟨⟨hkH.out.s1,hkH.out.u,hkH.out.ul,by rw[hov];exact hkH.out.len,overlay_mem hkH.out.byte hvH.out.byte⟩,ab,.slice (some ⟨g,0,none⟩) B.length cap,?_⟩,p2,p3⟩;unfold arP;rw[hov];exact p1
theorem ob_at {c:HC} {k:Nat} {s:HS} (hI:HInv c k s) {o:Int} (h:Tb.resE s.T o=0):∃(j xo xl:Nat),Tb.hSlot o=j∧j<c.n∧(Tb.slotN s.T.g.S j).2=true∧entH s o=Tb.entN s.T.E j∧(entH s o).off=xo∧(entH s o).len=xl∧bytesH s o=memH s j∧(memH s j).length≤xl∧((memH s j).length:Int)=sizeH s o∧((xo:Int),(xl:Int))∈usedH c s∧(((xo:Int),(xl:Int)),memH s j)∈obs c s:=by
 obtain⟨j,hj,hjn,hlv,hent,hho⟩:=res_live hI h;obtain⟨xo,xl,ho,hl,hl0,hml⟩:=live_ext hI hjn hlv;have hm:=obs_mem hjn hlv;have hu:=List.mem_map_of_mem (f:=(·.1)) hm;rw[obs_used]at hu;unfold extE at hm hu;rw[ho,hl]at hm hu;refine⟨j,xo,xl,hj,hjn,hlv,hent,by rw[hent];exact ho,by rw[hent];exact hl,by unfold bytesH;rw[hj,Int.toNat_natCast],hml,?_,hu,hm⟩;unfold sizeH;rw[hent];exact hI.mem j hjn hlv
def bytesC (v:Value) (bs:List Int):Comp:=
 ⟨fun w f=>BytesAt w v bs∧f=v.ownBlock.toList,fun {w w' f T} h hm hT=>⟨by
  rcases h.1 with h1|⟨sb,so,cap,rfl,h2,h3,h4⟩
  ·exact .inl h1
  ·refine .inr ⟨sb,so,cap,rfl,hm.lt h2,h3,fun i hi=>⟨(h4 i hi).1,(Ty.cell_mod hm h2 (hT sb (by rw[h.2];simp[Value.ownBlock]))).trans (h4 i hi).2⟩⟩,h.2⟩,fun {w f} h x hx=>by
  rw[h.2,Option.mem_toList]at hx;rcases h.1 with⟨rfl,_⟩|⟨sb,so,cap,rfl,h2,_⟩
  ·cases hx
  ·have hx':some sb=some x:=hx;obtain rfl:=Option.some.inj hx';exact h2⟩
theorem scene_bytesAt {F:List Nat} {W w:World} {cs:List Comp} (i:Nat) {v:Value} {bs:List Int} (h:Scene F W cs w) (hi:cs[i]? =some (bytesC v bs)):BytesAt w v bs:=
 let ⟨_,h1,_⟩:=h.part i hi;h1.1
theorem put_write {c:HC} {k:Nat} {s:HS} {o:Int} {j xo xl off:Nat} {B b:List Int} (hI:HInv c k s) (hB:ArIs c.size (obs c s) B) (hr:Tb.resE s.T o=0) (hj:Tb.hSlot o=j) (hx:extE (Tb.entN s.T.E j)=((xo:Int),(xl:Int))) (hm:(memH s j).length≤xl) (hf:off+b.length≤(memH s j).length) (hb:∀x∈b,0≤x∧x≤255):
  usedH c s=usedH c (putD s o off b)∧(∀q,hasH c s q=hasH c (putD s o off b) q)∧ArIs c.size (obs c (putD s o off b)) (overlay B (xo+off) b):=by
 obtain⟨g1,⟨A,C,g2,g3⟩,g4,g5⟩:=inv_put hI hr hj (off:=off) (by omega) (b:=b) (by omega) hb;refine⟨g5.symm,fun q=>by rw[g4],?_⟩;have hu:=hI.uok;rw[←obs_used,g2]at hu;rw[g2]at hB;rw[g3];have:=hB.write hu (p:=off) (b:=b) hf (by rw[hx];simp only;omega) hb;rw[hx]at this⊢;simpa using this
theorem store_c {F:List Nat} {W w:World} {cs:List Comp} {a:HA} {c:HC} {k:Nat} {s:HS} (hc:c.Ok) (hI:HInv c k s) (hk:k≤1000) {p o off:Int} {v:Value} {b:List Int} (o0:0≤o) (o1:o≤18446744073709551615) {e0:Comp} {bo bp bh bf bb:Nat}
  (hS:Scene F W (hpA a c s::e0::blockC bb (.cells #[v] 81 (0,0))::blockC bf (.cells #[.int .i64 off] 3 (0,0))::blockC bo (.cells #[.int .u64 o] 74 (0,0))::blockC bp (.cells #[.int .i64 p] 3 (0,0))::blockC bh (.cells #[.pointer (some ⟨a.hb,0,none⟩)] 23 (0,0))::bytesC v b::cs) w):
  Calls Tryz.prog 136 #[.pointer (some ⟨bh,0,none⟩),.pointer (some ⟨bp,0,none⟩),.pointer (some ⟨bo,0,none⟩),.pointer (some ⟨bf,0,none⟩),.pointer (some ⟨bb,0,none⟩)] w fun e w'=>e=.returned (.int .i64 (storeD s p o off b).1)∧Scene F W (hpA a c (storeD s p o off b).2::e0::blockC bb (.cells #[v] 81 (0,0))::blockC bf (.cells #[.int .i64 off] 3 (0,0))::blockC bo (.cells #[.int .u64 o] 74 (0,0))::blockC bp (.cells #[.int .i64 p] 3 (0,0))::blockC bh (.cells #[.pointer (some ⟨a.hb,0,none⟩)] 23 (0,0))::bytesC v b::cs) w':=by
 obtain⟨B,hB,hS0⟩:=hp_open hS;have hrs:=Lib.hid (hresolve_ok hc hI hk hS0 p o 2 o0 o1);have c1:=cells_of (hS0.block 11 rfl);have c2:=cells_of (hS0.block 12 rfl);have c3:=cells_of (hS0.block 13 rfl);have hS1:=Lib.hid hS0;have hBH:=Lib.hid hB;have hv0:=scene_bytesAt 14 hS0 rfl;have hln:=fun ty w=>hv0.len ty w
 by_cases hE:accD s p o 2=0
 ·have hr0:=acc_res hE;obtain⟨j,xo,xl,hj,hjn,hlv,hent,hxo,hxl,hby,hmx,hms,hus,hob⟩:=ob_at hI hr0;have htr:=(hI.ent _ (liveE_mem hjn hlv)).2.1;rw[←hent]at htr;have hty:Ty.TyOk (tyH s o):=HInv.tagIn hc hI htr;have hwi:=Lib.hid fun w' (hm:Mod [] w w')=>hwithin_ok ((hS0.then hm).block 0 rfl) ((hS0.then hm).part 2 rfl).choose_spec.1 (entH s o) hty off b.length (by omega)
  have hwe:withinN off b.length (Ty.sizeT (Ty.lookT s.R (entH s o).tag).1 (Ty.lookT s.R (entH s o).tag).2)=withinN off b.length (sizeH s o):=rfl;rw[hwe]at hwi;rw[hE,resX_zero hE]at hrs;have hEH:=Lib.hid hE
  cases hw:withinN off b.length (sizeH s o)with
  |false=>
   have hfd:storeD s p o off b=(7,s):=by unfold storeD;rw[if_neg (by simp[hE]),if_pos hw]
   have hfdH:=Lib.hid hfd;rw[hw]at hwi;generalize entH s o=X at*;obtain⟨xh,xw,xt,xf,xn⟩:=X;simp only[Tb.entV]at hrs hwi;clear hS hS0 hB hE hfd hv0 hw hwe hj hjn hlv hent hxo hxl hby hmx hms hus hob htr hty hr0 hEH;go_enter Tryz.func136,Tryz.ntmps136;go_wp2_with fail;refine hrs.out.mono ?_;rintro e w1 ⟨rfl,hm1⟩;have hm1H:=Lib.hid (hm1.alloc (.cells #[.int .u64 xh,.int .i64 xw,.int .i64 xt,.int .i64 xf,.int .i64 xn] 141));have d1:=cells_of ((hS1.out.then hm1H.out).block 9 rfl);have d2:=cells_of ((hS1.out.then hm1H.out).block 10 rfl);have d3:=cells_of ((hS1.out.then hm1H.out).block 13 rfl);clear hm1 hrs c1 c2 c3;go_wp2_with fail;refine(hwi.out _ hm1H.out).mono ?_;rintro e w2 ⟨rfl,hm2⟩;have hS2:=Lib.hid (hS1.out.then (hm1H.out.nil_then hm2));clear hm2 hwi hS1 d1 d2 d3 hm1H;go_wp2_with fail;go_ret;rw[hfdH.out];exact⟨rfl,hp_shut hBH.out hS2.out⟩
  |true=>
   have hfd:storeD s p o off b=(0,putD s o off b):=by unfold storeD;rw[if_neg (by simp[hE]),if_neg (by simp[hw])]
   rw[hw]at hwi;have hwr:=hw;unfold withinN at hwr;simp only[Bool.and_eq_true,decide_eq_true_eq]at hwr;obtain⟨n,rfl⟩:=Int.eq_ofNat_of_zero_le hwr.1;have hxe:extE (Tb.entN s.T.E j)=((xo:Int),(xl:Int)):=by unfold extE;rw[←hent,hxo,hxl]
   have hpw:=Lib.hid (put_write hI hB hr0 hj hxe hmx (off:=n) (b:=b) (by omega) hv0.byte);have hwt:=Lib.hid fun w' f' (h':(arC a.ar c.size (usedH c s) B).on w' f') (hv:BytesAt w' v b)=>arwrite_ok h' hus n hv (by omega)
   have hfdH:=Lib.hid hfd;obtain⟨X,hX⟩:∃X,entH s o=X:=⟨_,rfl⟩;rw[hX]at hrs hwi hxo hxl;obtain⟨xh,xw,xt,xf,xn⟩:=X;simp only at hxo hxl;subst hxo hxl;simp only[Tb.entV]at hrs hwi;clear hS hS0 hB hE hfd hv0 hw hwe hj hjn hlv hent hby hmx hms hus hob htr hty hr0 hEH hX hxe hwr;go_enter Tryz.func136,Tryz.ntmps136;go_wp2_with fail;refine hrs.out.mono ?_;rintro e w1 ⟨rfl,hm1⟩;have hm1H:=Lib.hid (hm1.alloc (.cells #[.int .u64 xh,.int .i64 xw,.int .i64 xt,.int .i64 xo,.int .i64 xl] 141));have hS2:=Lib.hid ((hS1.out.then hm1).alloc (.cells #[.int .u64 xh,.int .i64 xw,.int .i64 xt,.int .i64 xo,.int .i64 xl] 141)).behind;have d1:=cells_of (hS2.out.block 10 rfl);have d2:=cells_of (hS2.out.block 11 rfl);have d3:=cells_of (hS2.out.block 14 rfl);clear hm1 hrs c1 c2 c3 hS1;go_wp2_with fail;refine(hwi.out _ hm1H.out).mono ?_;rintro e w2 ⟨rfl,hm2⟩;have hS3:=Lib.hid (hS2.out.then hm2);clear hm2 hwi hS2 d1 d2 d3 hm1H;go_wp2_with fail;generalize w1.heap.size=bx at*;obtain⟨fa,hl,hput,hne⟩:=hS3.out.takePart 1 rfl;have k1:=GW.cells (S:=fa) (hS3.out.block 0 rfl) (hne 0 _ _ rfl);have k2:=GW.cells (S:=fa) (hS3.out.block 8 rfl) (hne 7 _ _ rfl);have k3:=GW.cells (S:=fa) (hS3.out.block 10 rfl) (hne 9 _ _ rfl);have k4:=GW.cells (S:=fa) (hS3.out.block 11 rfl) (hne 10 _ _ rfl);have k5:=GW.cells (S:=fa) (hS3.out.block 14 rfl) (hne 13 _ _ rfl);have hlH:=Lib.hid fun w' hm=>hwt.out w' fa (hl w' hm) (scene_bytesAt 15 (hS3.out.then hm) rfl)
   have hpuH:=Lib.hid hput;clear hl hput hne hS3 hwt;refine wp_region_part fa (by kernel_rfl) (by kernel_rfl) ?_;refine stage_quiet 8 (by kernel_rfl) ?_;simp only[tA,tB,tC,tD];(repeat go_big_quiet_step (fail));refine wpQuiet_nil ?_;refine stage_takes 137 #[.pointer (some ⟨a.ar,0,none⟩),.agg #[.int .i64 xo,.int .i64 xl],.int .i64 n,v] (.int .i64 0) rfl Tryz.call137 rfl rfl hlH.out ?_;simp only[Act.put,sA,sB,sC];refine stage_quiet 1 (by kernel_rfl) ?_;simp only[tA,tB,tC,tD];(repeat go_big_quiet_step (fail));refine wpQuiet_nil ?_;refine stage_nil fun w4 hw4=> ?_
   have hS4:=Lib.hid ((hpuH.out w4 _ hw4).erase 8);clear k1 k2 k3 k4 k5 hlH hpuH hw4;go_wp2_with fail;go_ret;rw[hfdH.out];obtain⟨g1,g2,g3⟩:=hpw.out;exact⟨rfl,hp_close (s':=putD s o n b) g1 g2 g3 hS4.out⟩
 ·have hfd:storeD s p o off b=(accD s p o 2,s):=by unfold storeD;rw[if_pos hE]
  rw[hfd];rw[resX_bad hE]at hrs;generalize accD s p o 2=E at*;have hne:(E != 0)=true:=by simpa using hE
  clear hS hS0 hB hfd hE hv0;go_enter Tryz.func136,Tryz.ntmps136;go_wp2_with fail;refine hrs.out.mono ?_;rintro e w1 ⟨rfl,hm1⟩;have hS2:=Lib.hid ((hS1.out.then hm1).then ((Mod.refl [] w1).alloc (.cells #[.int .u64 0,.int .i64 0,.int .i64 0,.int .i64 0,.int .i64 0] 141)));clear hm1 hrs hS1 c1 c2 c3;go_wp2_with fail;go_ret;exact⟨rfl,hp_shut hBH.out hS2.out⟩
theorem storeD_keeps {c:HC} {k:Nat} {s:HS} (hI:HInv c k s) (p o off:Int) (b:List Int):(0≤(storeD s p o off b).1∧(storeD s p o off b).1≤29)∧(storeD s p o off b).2.evs=s.evs∧(storeD s p o off b).2.miss=s.miss:=by
 unfold storeD;split
 ·exact⟨accD_range hI _ _ _,rfl,rfl⟩
 ·split
  ·exact⟨by simp only;omega,rfl,rfl⟩
  ·exact⟨by simp only;omega,rfl,rfl⟩
theorem store_op {F:List Nat} {W w:World} {cs:List Comp} {a:HA} {c:HC} {k:Nat} {s:HS} (hc:c.Ok) (hI:HInv c k s) (hk:k≤900) {p o off:Int} {v:Value} {b:List Int} (o0:0≤o) (o1:o≤18446744073709551615) (hS:Scene F W (hpA a c s::bytesC v b::cs) w):
  Calls Tryz.prog 94 #[.pointer (some ⟨a.hb,0,none⟩),.int .i64 p,.int .u64 o,.int .i64 off,v] w fun e w'=>e=.returned (.int .i64 (opStore c s p o off b).1)∧Scene F W (hpA a c (opStore c s p o off b).2::bytesC v b::cs) w':=by
 have hv0:=scene_bytesAt 1 hS rfl;obtain⟨va,vl,vc,rfl⟩:∃a l c,v=.slice a l c:=by
  rcases hv0 with⟨rfl,_⟩|⟨_,_,_,rfl,_⟩<;>exact⟨_,_,_,rfl⟩
 have hS1:=((((((((hS.alloc (.cells #[.pointer (some ⟨a.hb,0,none⟩)] 23)).swap.alloc (.cells #[.int .i64 p] 3)).swap.alloc (.cells #[.int .u64 o] 74)).swap.alloc (.cells #[.int .i64 off] 3)).swap.alloc (.cells #[.slice va vl vc] 81)).swap.alloc (.cells #[.int .i64 p,.int .i64 6,.int .u64 o,.int .u64 (u64 off),.int .i64 0] 76)).swap));simp only[size_alloc]at hS1;obtain⟨hr,he,hms⟩:=storeD_keeps hI p o off b;have hu:0≤u64 off∧u64 off≤18446744073709551615:=by unfold u64;omega
 have hact:=Lib.hid (act_rec (rs:=storeD s p o off b) (h1:=o) (g:=136) hI (by omega) hS1 (by omega) (by omega) hu Tryz.call136 hr ⟨o0,o1⟩ he hms fun _ w' h'=>store_c hc hI (by omega) o0 o1 h');unfold opStore;generalize act c s p 6 o (u64 off) (storeD s p o off b)=res at*;clear hS hS1 hr he hms hv0;go_enter Tryz.func94,Tryz.ntmps94;go_wp2_with fail;refine hact.out.mono ?_;rintro e w1 ⟨rfl,eh2,er2,hS2,_⟩;have hS2:=Lib.hid hS2;clear hact;go_wp2_with fail;go_ret;exact⟨rfl,(((((hS2.out.erase 1).erase 1).erase 1).erase 1).erase 1).erase 1⟩
end Go.Proofs.YtgfdeiijblakfaaGreat
