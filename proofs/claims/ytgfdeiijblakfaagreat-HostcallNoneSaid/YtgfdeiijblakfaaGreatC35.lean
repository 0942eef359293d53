/- Joined contracts. No conditions. -/
import Derived.Test.YtgfdeiijblakfaaGreatCS
import Derived.Test.YtgfdeiijblakfaaGreatC15
import Derived.Test.YtgfdeiijblakfaaGreatC34
set_option maxHeartbeats 8000000
set_option maxRecDepth 20000
namespace Go.Proofs.YtgfdeiijblakfaaGreat
open Go Go.RowKit Go.Stg
def outOn (bb:Nat) (bs:List Int) (w:World) (f:List Nat):Prop:=∃v,Hold [blockC bb (.cells #[v] 81 (0,0)),rowC v bs.length 5 1 (bvals bs)] w f
def outC (bb:Nat) (bs:List Int):Comp:=⟨outOn bb bs,fun⟨v,h⟩ hm hT=>⟨v,h.keep hm hT⟩,fun⟨_,h⟩=>h.lt⟩
theorem out_nil {bb:Nat} {w:World} {f:List Nat} (h:(blockC bb (.cells #[.slice none 0 0] 81 (0,0))).on w f):(outC bb []).on w f:=
 ⟨.slice none 0 0,f,[],h,⟨[],[],⟨World.ownsRow_nil _ _ _ _,rfl⟩,rfl,by simp,rfl⟩,by simp,by simp⟩
theorem out_open {F:List Nat} {W w:World} {cs:List Comp} {bb:Nat} {bs:List Int} (h:Scene F W (outC bb bs::cs) w):∃v,Scene F W (blockC bb (.cells #[v] 81 (0,0))::rowC v bs.length 5 1 (bvals bs)::cs) w:=by
 obtain⟨hm,fp,⟨f,g,⟨v,hv⟩,hg,hd,rfl⟩,h4⟩:=h;exact⟨v,hm,f++g,Hold.append (cs:=[_,_]) hv hg hd,h4⟩
def loadB (s:HS) (p o off n:Int):List Int:=if loadE s p o off n=0 then cutB (bytesH s o) off n else []
theorem loadE_range {c:HC} {k:Nat} {s:HS} (hI:HInv c k s) (p o off n:Int):0≤loadE s p o off n∧loadE s p o off n≤29:=by
 have:=accD_range hI p o 1;unfold loadE
 repeat' split
 all_goals omega
theorem load_c {F:List Nat} {W w:World} {cs:List Comp} {a:HA} {c:HC} {k:Nat} {s:HS} (hc:c.Ok) (hI:HInv c k s) (hk:k≤1000) {p o off n:Int} (o0:0≤o) (o1:o≤18446744073709551615) {e0:Comp} {bo bp bh bf bn bb:Nat}
  (hS:Scene F W (hpA a c s::e0::blockC bb (.cells #[.slice none 0 0] 81 (0,0))::blockC bn (.cells #[.int .i64 n] 3 (0,0))::blockC bf (.cells #[.int .i64 off] 3 (0,0))::blockC bo (.cells #[.int .u64 o] 74 (0,0))::blockC bp (.cells #[.int .i64 p] 3 (0,0))::blockC bh (.cells #[.pointer (some ⟨a.hb,0,none⟩)] 23 (0,0))::cs) w):
  Calls Tryz.prog 59 #[.pointer (some ⟨bh,0,none⟩),.pointer (some ⟨bp,0,none⟩),.pointer (some ⟨bo,0,none⟩),.pointer (some ⟨bn,0,none⟩),.pointer (some ⟨bf,0,none⟩),.pointer (some ⟨bb,0,none⟩)] w fun e w'=>e=.returned (.int .i64 (loadE s p o off n))∧Scene F W (hpA a c s::e0::outC bb (loadB s p o off n)::blockC bn (.cells #[.int .i64 n] 3 (0,0))::blockC bf (.cells #[.int .i64 off] 3 (0,0))::blockC bo (.cells #[.int .u64 o] 74 (0,0))::blockC bp (.cells #[.int .i64 p] 3 (0,0))::blockC bh (.cells #[.pointer (some ⟨a.hb,0,none⟩)] 23 (0,0))::cs) w':=by
 obtain⟨B,hB,hS0⟩:=hp_open hS;have hrs:=Lib.hid (hresolve_ok hc hI hk hS0 p o 1 o0 o1);have c1:=cells_of (hS0.block 12 rfl);have c2:=cells_of (hS0.block 13 rfl);have c3:=cells_of (hS0.block 14 rfl);have hS1:=Lib.hid hS0;have hBH:=Lib.hid hB;by_cases hE:accD s p o 1=0
 ·have hr0:=acc_res hE;obtain⟨j,xo,xl,hj,hjn,hlv,hent,hxo,hxl,hby,hmx,hms,hus,hob⟩:=ob_at hI hr0;have htr:=(hI.ent _ (liveE_mem hjn hlv)).2.1;rw[←hent]at htr;have hty:Ty.TyOk (tyH s o):=HInv.tagIn hc hI htr;rw[hE,resX_zero hE]at hrs;by_cases hn:n<0
  ·have hfd:loadE s p o off n=1:=by unfold loadE;rw[if_neg (by simp[hE]),if_pos hn]
   have hfb:loadB s p o off n=[]:=by unfold loadB;rw[hfd];rfl
   have hn1:decide (n<0)=true:=by simpa using hn
   have hfH:=Lib.hid (And.intro hfd hfb);generalize entH s o=X at*;obtain⟨xh,xw,xt,xf,xn⟩:=X;simp only[Tb.entV]at hrs;clear hS hS0 hB hE hfd hfb hj hjn hlv hent hxo hxl hby hmx hms hus hob htr hty hr0 hn;go_enter Tryz.func59,Tryz.ntmps59;go_wp2_with fail;refine hrs.out.mono ?_;rintro e w1 ⟨rfl,hm1⟩;have hm1H:=Lib.hid (hm1.alloc (.cells #[.int .u64 xh,.int .i64 xw,.int .i64 xt,.int .i64 xf,.int .i64 xn] 141));have hS2:=Lib.hid ((hS1.out.then hm1).alloc (.cells #[.int .u64 xh,.int .i64 xw,.int .i64 xt,.int .i64 xf,.int .i64 xn] 141)).behind;have d0:=cells_of (hS2.out.block 8 rfl);have d1:=cells_of (hS2.out.block 11 rfl);have d2:=cells_of (hS2.out.block 12 rfl);have d3:=cells_of (hS2.out.block 15 rfl);clear hm1 hrs c1 c2 c3 hS1;go_wp2_with fail;go_ret;rw[hfH.out.1,hfH.out.2];exact⟨rfl,(hp_shut hBH.out (hS2.out.erase 8)).imp 2 rfl fun _ h=>out_nil h⟩
  ·have hn1:decide (n<0)=false:=by simpa using hn
   have hwi:=Lib.hid fun w' (hm:Mod [] w w')=>hwithin_ok ((hS0.then hm).block 0 rfl) ((hS0.then hm).part 2 rfl).choose_spec.1 (entH s o) hty off n (by omega)
   have hwe:withinN off n (Ty.sizeT (Ty.lookT s.R (entH s o).tag).1 (Ty.lookT s.R (entH s o).tag).2)=withinN off n (sizeH s o):=rfl;rw[hwe]at hwi
   cases hw:withinN off n (sizeH s o)with
   |false=>
    have hfd:loadE s p o off n=7:=by unfold loadE;rw[if_neg (by simp[hE]),if_neg hn,if_pos hw]
    have hfb:loadB s p o off n=[]:=by unfold loadB;rw[hfd];rfl
    have hfH:=Lib.hid (And.intro hfd hfb);rw[hw]at hwi;generalize entH s o=X at*;obtain⟨xh,xw,xt,xf,xn⟩:=X;simp only[Tb.entV]at hrs hwi;clear hS hS0 hB hE hfd hfb hj hjn hlv hent hxo hxl hby hmx hms hus hob htr hty hr0 hn hw hwe;go_enter Tryz.func59,Tryz.ntmps59;go_wp2_with fail;refine hrs.out.mono ?_;rintro e w1 ⟨rfl,hm1⟩;have hm1H:=Lib.hid (hm1.alloc (.cells #[.int .u64 xh,.int .i64 xw,.int .i64 xt,.int .i64 xf,.int .i64 xn] 141));have hS2:=Lib.hid ((hS1.out.then hm1).alloc (.cells #[.int .u64 xh,.int .i64 xw,.int .i64 xt,.int .i64 xf,.int .i64 xn] 141)).behind;have d0:=cells_of (hS2.out.block 8 rfl);have d1:=cells_of (hS2.out.block 11 rfl);have d2:=cells_of (hS2.out.block 12 rfl);have d3:=cells_of (hS2.out.block 15 rfl);clear hm1 hrs c1 c2 c3 hS1;go_wp2_with fail;refine(hwi.out _ hm1H.out).mono ?_;rintro e w2 ⟨rfl,hm2⟩;have hS3:=Lib.hid (hS2.out.then hm2);clear hm2 hwi hS2 d0 d1 d2 d3 hm1H;go_wp2_with fail;go_ret;rw[hfH.out.1,hfH.out.2];exact⟨rfl,(hp_shut hBH.out (hS3.out.erase 8)).imp 2 rfl fun _ h=>out_nil h⟩
   |true=>
    have hfd:loadE s p o off n=0:=by unfold loadE;rw[if_neg (by simp[hE]),if_neg hn,if_neg (by simp[hw])]
    rw[hw]at hwi;have hwr:=hw;unfold withinN at hwr;simp only[Bool.and_eq_true,decide_eq_true_eq]at hwr;obtain⟨off,rfl⟩:=Int.eq_ofNat_of_zero_le hwr.1;obtain⟨n,rfl⟩:=Int.eq_ofNat_of_zero_le (show 0≤n by omega);have hfb:loadB s p o off n=(B.drop (xo+off)).take n:=by
     unfold loadB;rw[if_pos hfd,hby];unfold cutB;rw[Int.toNat_natCast,Int.toNat_natCast];have hu:=hI.uok;rw[←obs_used]at hu;have:=hB.read hu hob (p:=off) (n:=n) (by simp only;omega) (by simp only;omega);simp only[Int.toNat_natCast]at this;rw[this]
    have hbl:((B.drop (xo+off)).take n).length=n:=by
     rw[←hfb];unfold loadB cutB;rw[if_pos hfd,hby];simp;omega
    have hrd:=Lib.hid fun w' f' (h':(arC a.ar c.size (usedH c s) B).on w' f')=>arread_ok h' hus off n (by omega)
    rw[←hfb]at hrd hbl;have hfH:=Lib.hid hfd;have hblH:=Lib.hid hbl;generalize loadB s p o off n=bs at*;obtain⟨X,hX⟩:∃X,entH s o=X:=⟨_,rfl⟩;rw[hX]at hrs hwi hxo hxl;obtain⟨xh,xw,xt,xf,xn⟩:=X;simp only at hxo hxl;subst hxo hxl;simp only[Tb.entV]at hrs hwi;clear hS hS0 hB hE hfd hfb hj hjn hlv hent hby hmx hms hus hob htr hty hr0 hn hw hwe hX hwr hbl;go_enter Tryz.func59,Tryz.ntmps59;go_wp2_with fail;refine hrs.out.mono ?_;rintro e w1 ⟨rfl,hm1⟩;have hm1H:=Lib.hid (hm1.alloc (.cells #[.int .u64 xh,.int .i64 xw,.int .i64 xt,.int .i64 xo,.int .i64 xl] 141));have hS2:=Lib.hid ((hS1.out.then hm1).alloc (.cells #[.int .u64 xh,.int .i64 xw,.int .i64 xt,.int .i64 xo,.int .i64 xl] 141)).behind;have d1:=cells_of (hS2.out.block 11 rfl);have d2:=cells_of (hS2.out.block 12 rfl);have d3:=cells_of (hS2.out.block 15 rfl);clear hm1 hrs c1 c2 c3 hS1;go_wp2_with fail;refine(hwi.out _ hm1H.out).mono ?_;rintro e w2 ⟨rfl,hm2⟩;have hS3:=Lib.hid (hS2.out.then hm2);clear hm2 hwi hS2 d1 d2 d3 hm1H;go_wp2_with fail;generalize w1.heap.size=bx at*;obtain⟨fv,⟨hbv,rfl⟩,hput,hne⟩:=hS3.out.partB 10 rfl;have k1:=GW.cells (S:=[bb]) (hS3.out.block 0 rfl) (hne 0 _ _ rfl);have k2:=GW.cells (S:=[bb]) (hS3.out.block 8 rfl) (hne 8 _ _ rfl);have k3:=GW.cells (S:=[bb]) (hS3.out.block 11 rfl) (hne 10 _ _ rfl);have k4:=GW.cells (S:=[bb]) (hS3.out.block 12 rfl) (hne 11 _ _ rfl);have k5:=GW.cells (S:=[bb]) (hS3.out.block 15 rfl) (hne 14 _ _ rfl);have hlH:=Lib.hid fun w' (hm:Mod [] w2 w')=>hrd.out w' _ ((hS3.out.then hm).part 1 rfl).choose_spec.1
    have hbvH:=Lib.hid hbv;clear hput hne hrd hbv;refine wp_region_part [bb] (by kernel_rfl) (by kernel_rfl) ?_;refine stage_quiet 8 (by kernel_rfl) ?_;simp only[tA,tB,tC,tD];(repeat go_big_quiet_step (fail));refine wpQuiet_nil ?_;refine stage_call_any 62 #[.pointer (some ⟨a.ar,0,none⟩),.agg #[.int .i64 xo,.int .i64 xl],.int .i64 off,.int .i64 n] (fun v=>∃m l q,v=.tuple #[.slice m l q,.int .i64 0]) (fun v w'=>Mod [] w2 w'∧∃u,v=.tuple #[u,.int .i64 0]∧w'.ownsRow w2.heap.size 5 1 u n (bvals bs)) rfl Tryz.call62 rfl rfl ⟨_,none,0,0,rfl⟩ (fun w' hm=> ?_) (fun v w' h=>InGW.of (h.1.mono (by simp))) (fun v hv=> ?_)
    ·refine(hlH.out w' hm).mono ?_;rintro e w'' ⟨u,rfl,h1,h2⟩;obtain⟨um,un,uq,rfl⟩:=rowForm h1;exact⟨_,rfl,⟨_,_,_,rfl⟩,hm.nil_then h2,_,rfl,row_base h1 hm.size⟩
    obtain⟨vm,vn,vq,rfl⟩:=hv;simp only[Act.put,sA,sB,sC];refine stage_quiet 3 (by kernel_rfl) ?_;simp only[tA,tB,tC,tD];(repeat go_big_quiet_step (fail));refine wpQuiet_nil ?_;refine stage_set (p:=⟨bb,0,none⟩) (u:=.slice vm vn vq) (fun w'=>w'.setCell ⟨bb,0,none⟩ (.slice vm vn vq)) (fun w'=>∃w0,Mod [] w2 w0∧w0.ownsRow w2.heap.size 5 1 (.slice vm vn vq) n (bvals bs)∧w'=w0.setCell ⟨bb,0,none⟩ (.slice vm vn vq)) rfl rfl rfl rfl rfl (fun w' hw=> ?_) (fun w' hw=> ?_) (fun w' ⟨w0,hw,_,e⟩=> ?_) ?_
    ·have d1:=cells_of (hw.1.at hbvH.out (by simp));have d2:=frozen_of (hw.1.at hbvH.out (by simp));clear k1 k2 k3 k4 k5 hw;go_simp
    ·obtain⟨h1,u,hu,h2⟩:=hw;obtain rfl:u=.slice vm vn vq:=by simpa using hu.symm
     exact⟨w',h1,h2,rfl⟩
    ·subst e;exact InGW.of ((hw.mono (by simp)).setCell (.inl (by simp)) _)
    refine stage_quiet 1 (by kernel_rfl) ?_;simp only[tA,tB,tC,tD];(repeat go_big_quiet_step (fail));refine wpQuiet_nil ?_;refine stage_nil fun w3 hw3=> ?_
    obtain⟨w0,hm0,hr0,rfl⟩:=hw3;have hS4:=(hS3.out.add (c:=rowC (.slice vm vn vq) n 5 1 (bvals bs)) (f:=(Value.slice vm vn vq).ownBlock.toList) hm0 ⟨row_base hr0 (Nat.zero_le _),rfl⟩ (fun x hx=>(hr0.lt x (by simpa using hx)).1)).behind.blockSet 11 rfl 0 (.slice vm vn vq);have hS4:=Lib.hid hS4;clear k1 k2 k3 k4 k5 hlH hm0 hr0 hS3;go_wp2_with fail;go_ret;refine⟨by rw[hfH.out];rfl,?_⟩;have h1:Scene F W (hpA a c s::rowC (.slice vm vn vq) n 5 1 (bvals bs)::e0::blockC bb (.cells #[.slice vm vn vq] 81 (0,0))::blockC bn (.cells #[.int .i64 n] 3 (0,0))::blockC bf (.cells #[.int .i64 off] 3 (0,0))::blockC bo (.cells #[.int .u64 o] 74 (0,0))::blockC bp (.cells #[.int .i64 p] 3 (0,0))::blockC bh (.cells #[.pointer (some ⟨a.hb,0,none⟩)] 23 (0,0))::cs) _:=hp_shut hBH.out (hS4.out.erase 9);have h2:=((h1.out 1 rfl).out 3 rfl);have h3:=Scene.shut1 (c:=outC bb bs) [blockC bb (.cells #[.slice vm vn vq] 81 (0,0)),rowC (.slice vm vn vq) n 5 1 (bvals bs)] h2 fun g hg=>⟨.slice vm vn vq,by rw[hblH.out];exact hg⟩
    exact(h3.out 2 rfl).out 2 rfl
 ·have hfd:loadE s p o off n=accD s p o 1:=by unfold loadE;rw[if_pos hE]
  have hfb:loadB s p o off n=[]:=by unfold loadB;rw[if_neg (by rw[hfd];exact hE)]
  rw[hfd,hfb];rw[resX_bad hE]at hrs;generalize accD s p o 1=E at*;have hne:(E != 0)=true:=by simpa using hE
  clear hS hS0 hB hfd hE hfb;go_enter Tryz.func59,Tryz.ntmps59;go_wp2_with fail;refine hrs.out.mono ?_;rintro e w1 ⟨rfl,hm1⟩;have hS2:=Lib.hid ((hS1.out.then hm1).then ((Mod.refl [] w1).alloc (.cells #[.int .u64 0,.int .i64 0,.int .i64 0,.int .i64 0,.int .i64 0] 141)));clear hm1 hrs hS1 c1 c2 c3;go_wp2_with fail;go_ret;exact⟨rfl,(hp_shut hBH.out hS2.out).imp 2 rfl fun _ h=>out_nil h⟩
theorem load_op {F:List Nat} {W w:World} {cs:List Comp} {a:HA} {c:HC} {k:Nat} {s:HS} (hc:c.Ok) (hI:HInv c k s) (hk:k≤900) {p o off n:Int} (o0:0≤o) (o1:o≤18446744073709551615) (hS:Scene F W (hpA a c s::cs) w):
  Calls Tryz.prog 26 #[.pointer (some ⟨a.hb,0,none⟩),.int .i64 p,.int .u64 o,.int .i64 off,.int .i64 n] w fun e w'=>∃v,e=.returned (.tuple #[v,.int .i64 (opLoad c s p o off n).1])∧Scene F W (rowC v (opLoadB c s p o off n).length 5 1 (bvals (opLoadB c s p o off n))::hpA a c (opLoad c s p o off n).2::cs) w':=by
 have hS1:=(((((((((hS.alloc (.cells #[.pointer (some ⟨a.hb,0,none⟩)] 23)).swap.alloc (.cells #[.int .i64 p] 3)).swap.alloc (.cells #[.int .u64 o] 74)).swap.alloc (.cells #[.int .i64 off] 3)).swap.alloc (.cells #[.int .i64 n] 3)).swap.alloc (.cells #[.slice none 0 0] 81)).swap.alloc (.cells #[.int .i64 p,.int .i64 5,.int .u64 o,.int .u64 (u64 off),.int .i64 0] 76)).swap));simp only[size_alloc]at hS1;have hr:=loadE_range hI p o off n;have hu:0≤u64 off∧u64 off≤18446744073709551615:=by unfold u64;omega
 have hact:=Lib.hid (act_quiet (r:=loadE s p o off n) (g:=59) hI (by omega) hS1 (by omega) hu Tryz.call59 hr ⟨o0,o1⟩ fun _ w' h'=>load_c hc hI (by omega) o0 o1 h');have hv1:s.st p≠1→opLoadB c s p o off n=[]:=fun h=>by unfold opLoadB opLoad actQ;rw[if_pos h];simp
 have hv2:s.st p=1→opLoadB c s p o off n=loadB s p o off n:=fun h=>by
  unfold opLoadB opLoad actQ loadB;by_cases e:loadE s p o off n=0
  ·simp[h,e]
  ·simp[h,e]
 have hvH:=Lib.hid (And.intro hv1 hv2);have hog:actQ c s p 5 o (u64 off) (loadE s p o off n)=opLoad c s p o off n:=rfl;rw[hog]at hact;generalize opLoad c s p o off n=res at*;generalize opLoadB c s p o off n=V at*;clear hS hS1 hr hv1 hv2 hog;go_enter Tryz.func26,Tryz.ntmps26;go_wp2_with fail;refine hact.out.mono ?_;rintro e w1 ⟨rfl,er2,cs2,hS2,hcs⟩;rcases hcs with⟨hst,rfl⟩|⟨hst,rfl⟩
 ·have e1:=hvH.out.1 hst;subst e1;have hS2:=Lib.hid hS2;have d1:=cells_of (hS2.out.block 2 rfl);clear hact hst;go_wp2_with fail;go_ret2;refine⟨_,rfl,?_⟩;exact(((((((hS2.out.erase 1).erase 1).erase 1).erase 1).erase 1).erase 1).erase 1).add (f:=[]) (Mod.refl [] _) ⟨World.ownsRow_nil _ _ _ _,rfl⟩ (by simp)
 ·have e1:=hvH.out.2 hst;subst e1;obtain⟨v,hS3⟩:=out_open (hS2.out 2 rfl);obtain⟨va,vl,vc,rfl⟩:=rowForm (hS3.row 1 rfl);have hS3:=Lib.hid hS3;have d1:=cells_of (hS3.out.block 0 rfl);clear hact hst hS2;go_wp2_with fail;go_ret2;refine⟨_,rfl,?_⟩;exact(((((((hS3.out.erase 0).erase 2).erase 2).erase 2).erase 2).erase 2).erase 2)
end Go.Proofs.YtgfdeiijblakfaaGreat
