/- Joined contracts. No conditions. -/
import Derived.Test.YtdehaommhbjakaaGreatC45
set_option maxHeartbeats 4000000
set_option maxRecDepth 20000
namespace Go.Proofs.YtdehaommhbjakaaGreat
open RowKit Stg
theorem CA {ds:List ai} {v:Value} {w w':World} {f:List Nat} (h:af f w ds w'):bD (ai.all ds) v w f (.returned v) w':=by
 obtain⟨f',h1,h2,h3⟩:=h.done;exact⟨f',rfl,h1,h2,h3⟩
def cR (w:World) (v:Value) (ds:List Int):Prop:=
 (v=.slice none 0 0∧ds=[])∨∃sb so cap,v=.slice (some ⟨sb,so,none⟩) ds.length cap∧sb<w.heap.size∧ds.length≤maxLen∧
  ∀i (h:i<ds.length),w.cell? ⟨sb,so+i,none⟩=some (.int .u64 ds[i])∧0≤ds[i]∧ds[i]≤18446744073709551615
section
variable {w:World} {v:Value} {ds:List Int}
theorem cR.len (h:cR w v ds) (ty:TypeId) (w1:World):(Builtin.len_ #[24] ty #[v]).run Tryz.prog w1=.ok (.int .i64 ds.length) w1:=by
 rcases h with⟨rfl,rfl⟩|⟨sb,so,cap,rfl,_⟩<;>simp[Builtin.len_,run_underlying Tryz.underlying24,goInt]
theorem cR.mod {w':World} (h:cR w v ds) (hm:Mod [] w w'):cR w' v ds:=by
 rcases h with h|⟨sb,so,cap,h1,h2,h3,h4⟩
 ·exact .inl h
 ·exact .inr ⟨sb,so,cap,h1,hm.lt h2,h3,fun i hi=>⟨(Ty.bg hm h2 (by simp)).trans (h4 i hi).1,(h4 i hi).2⟩⟩
theorem cR.slice (h:cR w v ds):∃a m c,v=.slice a m c:=by
 rcases h with⟨rfl,_⟩|⟨sb,so,cap,rfl,_⟩<;>exact⟨_,_,_,rfl⟩
theorem cR.pos (h:cR w v ds) {j:Nat} {x:Int} (hx:ds[j]? =some x):0≤x∧x≤18446744073709551615:=by
 obtain⟨hj,rfl⟩:=List.getElem?_eq_some_iff.1 hx;rcases h with⟨_,rfl⟩|⟨sb,so,cap,_,_,_,h4⟩
 ·simp at hj
 ·exact(h4 j hj).2
end
structure fA (w:World) (cb:Nat) (hv:Value) (p:Int) (tv:Value) (sb so n cap:Nat) (d:Int) (ds:List Int):Prop where
 aQ:w.heap[cb]? =some (.cells #[hv,.int .i64 p,tv,.slice (some ⟨sb,so,none⟩) n cap,.int .u64 d] 82 (0,0))
 lt:sb<w.heap.size
 len:n=ds.length
 cell:∀(j:Nat) {x:Int},ds[j]? =some x→w.cell? ⟨sb,so+j,none⟩=some (.int .u64 x)∧0≤x∧x≤18446744073709551615
abbrev dh (a:HA) (p:Int) (tv av:Value) (d:Int):Obj:=.cells #[.pointer (some ⟨a.hb,0,none⟩),.int .i64 p,tv,av,.int .u64 d] 82 (0,0)
theorem fA.of {w:World} {cb:Nat} {hv:Value} {p:Int} {tv av:Value} {d x:Int} {ds:List Int} (hb:w.heap[cb]? =some (.cells #[hv,.int .i64 p,tv,av,.int .u64 d] 82 (0,0))) (h:cR w av (x::ds)):∃sb so cap,av=.slice (some ⟨sb,so,none⟩) (x::ds).length cap∧fA w cb hv p tv sb so (x::ds).length cap d (x::ds):=by
 rcases h with⟨_,h⟩|⟨sb,so,cap,rfl,h2,h3,h4⟩
 ·cases h
 ·refine⟨sb,so,cap,rfl,hb,h2,rfl,fun j y hy=> ?_⟩;obtain⟨hj,rfl⟩:=List.getElem?_eq_some_iff.1 hy;exact h4 j hj
section
variable {w:World} {cb:Nat} {hv:Value} {p:Int} {tv:Value} {sb so n cap:Nat} {d:Int} {ds:List Int}
theorem fA.mod {w':World} (h:fA w cb hv p tv sb so n cap d ds) (hm:Mod [] w w'):fA w' cb hv p tv sb so n cap d ds:=
 ⟨hm.at h.aQ (by simp),hm.lt h.lt,h.len,fun j _ hx=>⟨(Ty.bg hm h.lt (by simp)).trans (h.cell j hx).1,(h.cell j hx).2⟩⟩
theorem jH (h:fA w cb hv p tv sb so n cap d ds) (j:Nat) {x:Int} (hj:ds[j]? =some x):Calls Tryz.prog 55 #[.pointer (some ⟨cb,0,none⟩),.int .i64 j] w fun e w'=>e=.returned (.int .u64 x)∧Mod [] w w':=by
 have hc:=ae h.aQ;have hx:=(h.cell j hj).1;have h0:(0:Int)≤j:=by omega
 have h1:(j:Int)<n:=by have:=(List.getElem?_eq_some_iff.1 hj).1;have:=h.len;omega
 clear h hj;go_enter Tryz.func55,Tryz.ntmps55;go_wp2_with fail;go_ret;exact⟨rfl,Mod.refl _ _⟩
theorem iT (h:fA w cb hv p tv sb so n cap d ds) (j:Nat) {x:Int} (hj:ds[j]? =some x):Calls Tryz.prog 57 #[.pointer (some ⟨cb,0,none⟩),.int .i64 j] w fun e w'=>e=.returned (.int .i64 (aA x))∧Mod [] w w':=by
 have hc:=ae h.aQ;have hx:=(h.cell j hj).1;have h0:(0:Int)≤j:=by omega
 have h1:(j:Int)<n:=by have:=(List.getElem?_eq_some_iff.1 hj).1;have:=h.len;omega
 have hi:=zh (Fc x (h.cell j hj).2.1 w);clear h hj;go_enter Tryz.func57,Tryz.ntmps57;go_wp2_with fail;refine hi.out.mono ?_;rintro e w1 ⟨rfl,hm⟩;go_wp2_with fail;go_ret;exact⟨rfl,hm⟩
def kn (ts:List Int) (i:Int):Int:=if 0≤i∧i<ts.length then ts.getD i.toNat 0 else 0
theorem Ei (h:fA w cb hv p tv sb so n cap d ds) {x:Int} (hj:ds[0]? =some x) {ts:List Int} (hr:w.ownsRow 0 3 1 tv ts.length (ts.map (.int .i64))):
  Calls Tryz.prog 53 #[.pointer (some ⟨cb,0,none⟩)] w fun e w'=>e=.returned (.int .i64 (kn ts (aA x)))∧Mod [] w w':=by
 have hi:=zh (iT h 0 hj);have hb:=zh h.aQ;have hrH:=zh hr;unfold kn;clear h hj hr;by_cases hx:0≤aA x
 ·by_cases hl:aA x<ts.length
  ·rw[if_pos ⟨hx,hl⟩];have hd:decide (0≤aA x)=true:=by simp[hx]
   have hd2:decide (aA x<ts.length)=true:=by simp[hl]
   generalize aA x=y at*;obtain⟨i,rfl⟩:=Int.eq_ofNat_of_zero_le hx;have hit:i<ts.length:=by omega
   obtain⟨g,cap',hv',h1,h2⟩:=cW hrH.out (by omega);subst hv';rw[Int.toNat_natCast];obtain⟨z,hz⟩:∃z,ts[i]? =some z:=⟨ts[i],List.getElem?_eq_getElem hit⟩;rw[show ts.getD i 0=z by rw[List.getD_eq_getElem?_getD,hz];rfl];clear h1 h2;go_enter Tryz.func53,Tryz.ntmps53;go_wp2_with fail;refine hi.out.mono ?_;rintro e w1 ⟨rfl,hm⟩;have hc:=ae (hm.at hb.out (by simp));have hrow:=aG hrH.out hm (by simp);have hln:=fun ty w=>fY (ty:=ty) Tryz.underlying28 hrow w
   have hck:w1.cell? ⟨g,i,none⟩=some (.int .i64 z):=by
    rw[hrow.cellAt i (by omega),List.getElem?_map,hz];rfl
   clear hrow;go_wp2_with fail;go_ret;exact⟨rfl,hm⟩
  ·rw[if_neg (by omega)];have hd:decide (0≤aA x)=true:=by simp[hx]
   have hd2:decide (aA x<ts.length)=false:=by simp;omega
   obtain⟨ta,tl,tc,rfl⟩:=cx hrH.out;clear hx hl;generalize aA x=y at*;go_enter Tryz.func53,Tryz.ntmps53;go_wp2_with fail;refine hi.out.mono ?_;rintro e w1 ⟨rfl,hm⟩;have hc:=ae (hm.at hb.out (by simp));have hln:=fun ty w=>fY (ty:=ty) Tryz.underlying28 (aG hrH.out hm (by simp)) w
   go_wp2_with fail;go_ret;exact⟨rfl,hm⟩
 ·rw[if_neg (by omega)];have hd:decide (0≤aA x)=false:=by simp[hx]
  obtain⟨ta,tl,tc,rfl⟩:=cx hrH.out;clear hx;generalize aA x=y at*;go_enter Tryz.func53,Tryz.ntmps53;go_wp2_with fail;refine hi.out.mono ?_;rintro e w1 ⟨rfl,hm⟩;have hc:=ae (hm.at hb.out (by simp));have hln:=fun ty w=>fY (ty:=ty) Tryz.underlying28 (aG hrH.out hm (by simp)) w
  go_wp2_with fail;go_ret;exact⟨rfl,hm⟩
end
theorem j5 {F:List Nat} {W w:World} {c:ai} {cs:List ai} (h:af F W (c::cs) w):
  ∃fa:List Nat,(∀w',Mod [] w w'→c.on w' fa)∧(∀(w':World) (c':ai),la c' fa w w'→af F W (c'::cs) w')∧(∀(j b:Nat) (o:Obj),cs[j]? =some (aj b o)→b∉fa)∧∀b,b<W.heap.size→b∉F→b∉fa:=by
 obtain⟨hm,fp,hh,hf⟩:=h;obtain⟨f,g,h1,h2,h3,rfl⟩:=hh;refine⟨f,fun w' hm=>ai.bj c h1 hm (by simp),fun w' c' ⟨k1,f',k2,k3⟩=> ?_,fun j b o hj hb=> ?_,fun b hb hF hbf=> ?_⟩
 ·refine⟨hm.then k1 fun x hx=>hf x (List.mem_append_left _ hx),f'++g,⟨f',g,k2,h2.bj k1 fun x hx hxf=>h3 x hxf hx,fun x hx hxg=>(k3 x hx).elim (fun h=>h3 x h hxg) (fun h=>by have:=h2.lt x hxg;omega),rfl⟩,fun x hx=> ?_⟩;rcases List.mem_append.1 hx with h|h
  ·rcases k3 x h with h|h
   ·exact hf x (List.mem_append_left _ h)
   ·exact .inr (Nat.le_trans hm.size h)
  ·exact hf x (List.mem_append_right _ h)
 ·obtain⟨f2,⟨_,rfl⟩,k2,_⟩:=aU.part j h2 hj;exact h3 b hb (k2 b (by simp))
 ·rcases hf b (List.mem_append_left _ hbf)with h|h
  ·exact hF h
  ·omega
theorem ly (v:Int) {k m:Nat} (hk:k<m):(aR (aX v k++List.replicate (m-k) 0)).set k (.int .u8 (v/256^k%256))=aR (aX v (k+1)++List.replicate (m-(k+1)) 0):=by
 rw[gJ,show m-k=(m-(k+1))+1 by omega,List.replicate_succ];unfold aR;rw[List.map_append,List.map_cons,List.set_append_right _ _ (by simp[aZ])];simp[aZ]
section
variable {c:HC} {k:Nat} {s:HS}
theorem AJ (hI:az c k s) (p o off:Int) {m:Nat} (hm:m≤8):(fJ c s p o off m).length≤8∧∀x∈fJ c s p o off m,0≤x∧x≤255:=by
 unfold fJ gR;split
 ·refine⟨by rw[List.length_take,Int.toNat_natCast];omega,fun x hx=> ?_⟩;exact hI.ko _ x (List.mem_of_mem_drop (List.mem_of_mem_take hx))
 ·exact⟨by simp,by simp⟩
end
section
variable {F:List Nat} {W w:World} {cs:List ai} {a:HA} {c:HC} {k:Nat} {s:HS} (hc:c.Ok) (hI:az c k s) (hk:k≤900) {p d:Int} {tv av:Value} {cb:Nat}
include hc hI hk
theorem E6 {x0:Int} (hA:cR w av [x0]) (hS:af F W (aB a c s::aj cb (dh a p tv av d)::cs) w):
  Calls Tryz.prog 26 #[.pointer (some ⟨cb,0,none⟩),.int .i64 2] w fun e w'=>e=.returned (.tuple #[.int .u64 0,.int .i64 (mx c s p x0).1])∧af F W (aB a c (mx c s p x0).2::aj cb (dh a p tv av d)::cs) w':=by
 have hp:=fun j {x:Int} hx=>hA.pos (j:=j) (x:=x) hx
 obtain⟨sb,so,cap,rfl,hc0⟩:=fA.of (hS.block 1 rfl) hA;obtain⟨fa,hl,hput,hne,hnw⟩:=j5 hS;have k1:=GW.cells (S:=fa) (hS.block 1 rfl) (hne 0 _ _ rfl);have hH:=zh fun w' (hm:Mod [] w w')=>hc0.mod hm
 have hop:=zh fun w' (hm:Mod [] w w')=>Gl hc hI hk (p:=p) (hp 0 rfl).1 (hp 0 rfl).2 (af.jT (hl w' hm))
 have hputH:=zh hput;clear hc0 hl hput hne hnw hS hA hp hc hI hk;go_enter Tryz.func26,Tryz.ntmps26;go_wp2_with fail;refine bV fa (by kernel_rfl) (by kernel_rfl) ?_;refine sq 9 ?_;refine cX 55 #[.pointer (some ⟨cb,0,none⟩),.int .i64 0] (.int .u64 x0) rfl Tryz.call55 rfl rfl (fun w' hm=>jH (hH.out _ hm) 0 rfl) ?_;refine sq 0 ?_;refine cE 54 #[.pointer (some ⟨a.hb,0,none⟩),.int .i64 p,.int .u64 x0] (.int .i64 (mx c s p x0).1) rfl Tryz.call54 rfl rfl (fun w' hm=>(hop.out w' hm).mono fun e w'' ⟨he,h⟩=>by subst he;exact af.kd h) ?_;refine sq 2 ?_;refine au fun w2 aP=> ?_
 have hS3:=zh (hputH.out w2 _ aP);clear k1 hH hop hputH aP;go_wp2_with fail;go_ret2;exact⟨rfl,hS3.out⟩
theorem FL {x0 x1:Int} (hA:cR w av [x0,x1]) (hS:af F W (aB a c s::aj cb (dh a p tv av d)::cs) w):
  Calls Tryz.prog 26 #[.pointer (some ⟨cb,0,none⟩),.int .i64 3] w fun e w'=>e=.returned (.tuple #[.int .u64 (kP c s p x0 (aA x1)),.int .i64 (jR c s p x0 (aA x1)).1])∧af F W (aB a c (jR c s p x0 (aA x1)).2::aj cb (dh a p tv av d)::cs) w':=by
 have hp:=fun j {x:Int} hx=>hA.pos (j:=j) (x:=x) hx
 obtain⟨sb,so,cap,rfl,hc0⟩:=fA.of (hS.block 1 rfl) hA;obtain⟨fa,hl,hput,hne,hnw⟩:=j5 hS;have k1:=GW.cells (S:=fa) (hS.block 1 rfl) (hne 0 _ _ rfl);have hH:=zh fun w' (hm:Mod [] w w')=>hc0.mod hm
 have hop:=zh fun w' (hm:Mod [] w w')=>GU hc hI hk (p:=p) (i:=aA x1) (hp 0 rfl).1 (hp 0 rfl).2 (af.jT (hl w' hm))
 have hputH:=zh hput;clear hc0 hl hput hne hnw hS hA hp hc hI hk;go_enter Tryz.func26,Tryz.ntmps26;go_wp2_with fail;refine bV fa (by kernel_rfl) (by kernel_rfl) ?_;refine sq 9 ?_;refine cX 55 #[.pointer (some ⟨cb,0,none⟩),.int .i64 0] (.int .u64 x0) rfl Tryz.call55 rfl rfl (fun w' hm=>jH (hH.out _ hm) 0 rfl) ?_;refine sq 1 ?_;refine cX 57 #[.pointer (some ⟨cb,0,none⟩),.int .i64 1] (.int .i64 (aA x1)) rfl Tryz.call57 rfl rfl (fun w' hm=>iT (hH.out _ hm) 1 rfl) ?_;refine sq 0 ?_;refine cE 56 #[.pointer (some ⟨a.hb,0,none⟩),.int .i64 p,.int .u64 x0,.int .i64 (aA x1)] (.tuple #[.int .u64 (kP c s p x0 (aA x1)),.int .i64 (jR c s p x0 (aA x1)).1]) rfl Tryz.call56 rfl rfl (fun w' hm=>(hop.out w' hm).mono fun e w'' ⟨he,h⟩=>by subst he;exact af.kd h) ?_;refine sq 4 ?_;refine au fun w2 aP=> ?_
 have hS3:=zh (hputH.out w2 _ aP);clear k1 hH hop hputH aP;go_wp2_with fail;go_ret2;exact⟨rfl,hS3.out⟩
theorem FX {x0 x1 x2:Int} (hA:cR w av [x0,x1,x2]) (hsep:∀sb so m cap,av=.slice (some ⟨sb,so,none⟩) m cap→sb<W.heap.size∧sb∉F) (hS:af F W (aB a c s::aj cb (dh a p tv av d)::cs) w):
  Calls Tryz.prog 26 #[.pointer (some ⟨cb,0,none⟩),.int .i64 4] w fun e w'=>e=.returned (.tuple #[.int .u64 0,.int .i64 (mH c s p x0 (aA x1) x2).1])∧af F W (aB a c (mH c s p x0 (aA x1) x2).2::aj cb (dh a p tv av d)::cs) w':=by
 have hp:=fun j {x:Int} hx=>hA.pos (j:=j) (x:=x) hx
 obtain⟨sb,so,cap,rfl,hc0⟩:=fA.of (hS.block 1 rfl) hA;obtain⟨fa,hl,hput,hne,hnw⟩:=j5 hS;have k1:=GW.cells (S:=fa) (hS.block 1 rfl) (hne 0 _ _ rfl);have hH:=zh fun w' (hm:Mod [] w w')=>hc0.mod hm
 obtain⟨hb1,hb2⟩:=hsep _ _ _ _ rfl;have k2:∀x:GW fa w,x.1.cell? ⟨sb,so+2,none⟩=some (.int .u64 x2):=fun x=>(Ty.bg x.2 hc0.lt (hnw sb hb1 hb2)).trans (hc0.cell 2 rfl).1
 clear hsep hb1 hb2;have hop:=zh fun w' (hm:Mod [] w w')=>GX hc hI hk (p:=p) (i:=aA x1) (hp 0 rfl).1 (hp 0 rfl).2 (hp 2 rfl).1 (hp 2 rfl).2 (af.jT (hl w' hm))
 have hputH:=zh hput;clear hc0 hl hput hne hnw hS hA hp hc hI hk;go_enter Tryz.func26,Tryz.ntmps26;go_wp2_with fail;refine bV fa (by kernel_rfl) (by kernel_rfl) ?_;refine sq 9 ?_;refine cX 55 #[.pointer (some ⟨cb,0,none⟩),.int .i64 0] (.int .u64 x0) rfl Tryz.call55 rfl rfl (fun w' hm=>jH (hH.out _ hm) 0 rfl) ?_;refine sq 1 ?_;refine cX 57 #[.pointer (some ⟨cb,0,none⟩),.int .i64 1] (.int .i64 (aA x1)) rfl Tryz.call57 rfl rfl (fun w' hm=>iT (hH.out _ hm) 1 rfl) ?_;refine sq 6 ?_;refine cE 58 #[.pointer (some ⟨a.hb,0,none⟩),.int .i64 p,.int .u64 x0,.int .i64 (aA x1),.int .u64 x2] (.int .i64 (mH c s p x0 (aA x1) x2).1) rfl Tryz.call58 rfl rfl (fun w' hm=>(hop.out w' hm).mono fun e w'' ⟨he,h⟩=>by subst he;exact af.kd h) ?_;refine sq 2 ?_;refine au fun w2 aP=> ?_
 have hS3:=zh (hputH.out w2 _ aP);clear k1 hH hop hputH aP k2;go_wp2_with fail;go_ret2;exact⟨rfl,hS3.out⟩
theorem DT {x0 x1 x2 x3 x4:Int} (hA:cR w av [x0,x1,x2,x3,x4]) (hS:af F W (aB a c s::aj cb (dh a p tv av d)::cs) w):
  Calls Tryz.prog 26 #[.pointer (some ⟨cb,0,none⟩),.int .i64 7] w fun e w'=>e=.returned (.tuple #[.int .u64 0,.int .i64 (mz c s p x0 (aA x1) x2 (aA x3) (aA x4)).1])∧af F W (aB a c (mz c s p x0 (aA x1) x2 (aA x3) (aA x4)).2::aj cb (dh a p tv av d)::cs) w':=by
 have hp:=fun j {x:Int} hx=>hA.pos (j:=j) (x:=x) hx
 obtain⟨sb,so,cap,rfl,hc0⟩:=fA.of (hS.block 1 rfl) hA;obtain⟨fa,hl,hput,hne,hnw⟩:=j5 hS;have k1:=GW.cells (S:=fa) (hS.block 1 rfl) (hne 0 _ _ rfl);have hH:=zh fun w' (hm:Mod [] w w')=>hc0.mod hm
 have hop:=zh fun w' (hm:Mod [] w w')=>Gf hc hI hk (p:=p) (to':=aA x1) (fr:=aA x3) (n:=aA x4) (hp 0 rfl).1 (hp 0 rfl).2 (hp 2 rfl).1 (hp 2 rfl).2 (af.jT (hl w' hm))
 have hputH:=zh hput;clear hc0 hl hput hne hnw hS hA hp hc hI hk;go_enter Tryz.func26,Tryz.ntmps26;go_wp2_with fail;refine bV fa (by kernel_rfl) (by kernel_rfl) ?_;refine sq 9 ?_;refine cX 55 #[.pointer (some ⟨cb,0,none⟩),.int .i64 0] (.int .u64 x0) rfl Tryz.call55 rfl rfl (fun w' hm=>jH (hH.out _ hm) 0 rfl) ?_;refine sq 1 ?_;refine cX 57 #[.pointer (some ⟨cb,0,none⟩),.int .i64 1] (.int .i64 (aA x1)) rfl Tryz.call57 rfl rfl (fun w' hm=>iT (hH.out _ hm) 1 rfl) ?_;refine sq 1 ?_;refine cX 55 #[.pointer (some ⟨cb,0,none⟩),.int .i64 2] (.int .u64 x2) rfl Tryz.call55 rfl rfl (fun w' hm=>jH (hH.out _ hm) 2 rfl) ?_;refine sq 1 ?_;refine cX 57 #[.pointer (some ⟨cb,0,none⟩),.int .i64 3] (.int .i64 (aA x3)) rfl Tryz.call57 rfl rfl (fun w' hm=>iT (hH.out _ hm) 3 rfl) ?_;refine sq 1 ?_;refine cX 57 #[.pointer (some ⟨cb,0,none⟩),.int .i64 4] (.int .i64 (aA x4)) rfl Tryz.call57 rfl rfl (fun w' hm=>iT (hH.out _ hm) 4 rfl) ?_;refine sq 0 ?_;refine cE 61 #[.pointer (some ⟨a.hb,0,none⟩),.int .i64 p,.int .u64 x0,.int .i64 (aA x1),.int .u64 x2,.int .i64 (aA x3),.int .i64 (aA x4)] (.int .i64 (mz c s p x0 (aA x1) x2 (aA x3) (aA x4)).1) rfl Tryz.call61 rfl rfl (fun w' hm=>(hop.out w' hm).mono fun e w'' ⟨he,h⟩=>by subst he;exact af.kd h) ?_;refine sq 2 ?_;refine au fun w2 aP=> ?_
 have hS3:=zh (hputH.out w2 _ aP);clear k1 hH hop hputH aP;go_wp2_with fail;go_ret2;exact⟨rfl,hS3.out⟩
theorem Ad {x0 x1:Int} (hA:cR w av [x0,x1]) (hS:af F W (aB a c s::aj cb (dh a p tv av d)::cs) w):
  Calls Tryz.prog 26 #[.pointer (some ⟨cb,0,none⟩),.int .i64 8] w fun e w'=>e=.returned (.tuple #[.int .u64 0,.int .i64 (l6 c s p x0 (aA x1)).1])∧af F W (aB a c (l6 c s p x0 (aA x1)).2::aj cb (dh a p tv av d)::cs) w':=by
 have hp:=fun j {x:Int} hx=>hA.pos (j:=j) (x:=x) hx
 obtain⟨sb,so,cap,rfl,hc0⟩:=fA.of (hS.block 1 rfl) hA;obtain⟨fa,hl,hput,hne,hnw⟩:=j5 hS;have k1:=GW.cells (S:=fa) (hS.block 1 rfl) (hne 0 _ _ rfl);have hH:=zh fun w' (hm:Mod [] w w')=>hc0.mod hm
 have hop:=zh fun w' (hm:Mod [] w w')=>Aw hc hI hk (p:=p) (q:=aA x1) (hp 0 rfl).1 (hp 0 rfl).2 (af.jT (hl w' hm))
 have hputH:=zh hput;clear hc0 hl hput hne hnw hS hA hp hc hI hk;go_enter Tryz.func26,Tryz.ntmps26;go_wp2_with fail;refine bV fa (by kernel_rfl) (by kernel_rfl) ?_;refine sq 9 ?_;refine cX 55 #[.pointer (some ⟨cb,0,none⟩),.int .i64 0] (.int .u64 x0) rfl Tryz.call55 rfl rfl (fun w' hm=>jH (hH.out _ hm) 0 rfl) ?_;refine sq 1 ?_;refine cX 57 #[.pointer (some ⟨cb,0,none⟩),.int .i64 1] (.int .i64 (aA x1)) rfl Tryz.call57 rfl rfl (fun w' hm=>iT (hH.out _ hm) 1 rfl) ?_;refine sq 0 ?_;refine cE 62 #[.pointer (some ⟨a.hb,0,none⟩),.int .i64 p,.int .u64 x0,.int .i64 (aA x1)] (.int .i64 (l6 c s p x0 (aA x1)).1) rfl Tryz.call62 rfl rfl (fun w' hm=>(hop.out w' hm).mono fun e w'' ⟨he,h⟩=>by subst he;exact af.kd h) ?_;refine sq 2 ?_;refine au fun w2 aP=> ?_
 have hS3:=zh (hputH.out w2 _ aP);clear k1 hH hop hputH aP;go_wp2_with fail;go_ret2;exact⟨rfl,hS3.out⟩
theorem Cy {x0 x1:Int} (hA:cR w av [x0,x1]) (hS:af F W (aB a c s::aj cb (dh a p tv av d)::cs) w):
  Calls Tryz.prog 26 #[.pointer (some ⟨cb,0,none⟩),.int .i64 9] w fun e w'=>e=.returned (.tuple #[.int .u64 0,.int .i64 (mn c s p x0 (aA x1)).1])∧af F W (aB a c (mn c s p x0 (aA x1)).2::aj cb (dh a p tv av d)::cs) w':=by
 have hp:=fun j {x:Int} hx=>hA.pos (j:=j) (x:=x) hx
 obtain⟨sb,so,cap,rfl,hc0⟩:=fA.of (hS.block 1 rfl) hA;obtain⟨fa,hl,hput,hne,hnw⟩:=j5 hS;have k1:=GW.cells (S:=fa) (hS.block 1 rfl) (hne 0 _ _ rfl);have hH:=zh fun w' (hm:Mod [] w w')=>hc0.mod hm
 have hop:=zh fun w' (hm:Mod [] w w')=>Fi hc hI hk (p:=p) (q:=aA x1) (hp 0 rfl).1 (hp 0 rfl).2 (af.jT (hl w' hm))
 have hputH:=zh hput;clear hc0 hl hput hne hnw hS hA hp hc hI hk;go_enter Tryz.func26,Tryz.ntmps26;go_wp2_with fail;refine bV fa (by kernel_rfl) (by kernel_rfl) ?_;refine sq 9 ?_;refine cX 55 #[.pointer (some ⟨cb,0,none⟩),.int .i64 0] (.int .u64 x0) rfl Tryz.call55 rfl rfl (fun w' hm=>jH (hH.out _ hm) 0 rfl) ?_;refine sq 1 ?_;refine cX 57 #[.pointer (some ⟨cb,0,none⟩),.int .i64 1] (.int .i64 (aA x1)) rfl Tryz.call57 rfl rfl (fun w' hm=>iT (hH.out _ hm) 1 rfl) ?_;refine sq 0 ?_;refine cE 63 #[.pointer (some ⟨a.hb,0,none⟩),.int .i64 p,.int .u64 x0,.int .i64 (aA x1)] (.int .i64 (mn c s p x0 (aA x1)).1) rfl Tryz.call63 rfl rfl (fun w' hm=>(hop.out w' hm).mono fun e w'' ⟨he,h⟩=>by subst he;exact af.kd h) ?_;refine sq 2 ?_;refine au fun w2 aP=> ?_
 have hS3:=zh (hputH.out w2 _ aP);clear k1 hH hop hputH aP;go_wp2_with fail;go_ret2;exact⟨rfl,hS3.out⟩
theorem DX {x0 x1:Int} (hA:cR w av [x0,x1]) (hS:af F W (aB a c s::aj cb (dh a p tv av d)::cs) w):
  Calls Tryz.prog 26 #[.pointer (some ⟨cb,0,none⟩),.int .i64 10] w fun e w'=>e=.returned (.tuple #[.int .u64 0,.int .i64 (mw c s p x0 (aA x1)).1])∧af F W (aB a c (mw c s p x0 (aA x1)).2::aj cb (dh a p tv av d)::cs) w':=by
 have hp:=fun j {x:Int} hx=>hA.pos (j:=j) (x:=x) hx
 obtain⟨sb,so,cap,rfl,hc0⟩:=fA.of (hS.block 1 rfl) hA;obtain⟨fa,hl,hput,hne,hnw⟩:=j5 hS;have k1:=GW.cells (S:=fa) (hS.block 1 rfl) (hne 0 _ _ rfl);have hH:=zh fun w' (hm:Mod [] w w')=>hc0.mod hm
 have hop:=zh fun w' (hm:Mod [] w w')=>Gk hc hI hk (p:=p) (q:=aA x1) (hp 0 rfl).1 (hp 0 rfl).2 (af.jT (hl w' hm))
 have hputH:=zh hput;clear hc0 hl hput hne hnw hS hA hp hc hI hk;go_enter Tryz.func26,Tryz.ntmps26;go_wp2_with fail;refine bV fa (by kernel_rfl) (by kernel_rfl) ?_;refine sq 9 ?_;refine cX 55 #[.pointer (some ⟨cb,0,none⟩),.int .i64 0] (.int .u64 x0) rfl Tryz.call55 rfl rfl (fun w' hm=>jH (hH.out _ hm) 0 rfl) ?_;refine sq 1 ?_;refine cX 57 #[.pointer (some ⟨cb,0,none⟩),.int .i64 1] (.int .i64 (aA x1)) rfl Tryz.call57 rfl rfl (fun w' hm=>iT (hH.out _ hm) 1 rfl) ?_;refine sq 0 ?_;refine cE 64 #[.pointer (some ⟨a.hb,0,none⟩),.int .i64 p,.int .u64 x0,.int .i64 (aA x1)] (.int .i64 (mw c s p x0 (aA x1)).1) rfl Tryz.call64 rfl rfl (fun w' hm=>(hop.out w' hm).mono fun e w'' ⟨he,h⟩=>by subst he;exact af.kd h) ?_;refine sq 2 ?_;refine au fun w2 aP=> ?_
 have hS3:=zh (hputH.out w2 _ aP);clear k1 hH hop hputH aP;go_wp2_with fail;go_ret2;exact⟨rfl,hS3.out⟩
theorem AM {x0:Int} (hA:cR w av [x0]) (hS:af F W (aB a c s::aj cb (dh a p tv av d)::cs) w):
  Calls Tryz.prog 26 #[.pointer (some ⟨cb,0,none⟩),.int .i64 11] w fun e w'=>e=.returned (.tuple #[.int .u64 0,.int .i64 (ma c s p x0).1])∧af F W (aB a c (ma c s p x0).2::aj cb (dh a p tv av d)::cs) w':=by
 have hp:=fun j {x:Int} hx=>hA.pos (j:=j) (x:=x) hx
 obtain⟨sb,so,cap,rfl,hc0⟩:=fA.of (hS.block 1 rfl) hA;obtain⟨fa,hl,hput,hne,hnw⟩:=j5 hS;have k1:=GW.cells (S:=fa) (hS.block 1 rfl) (hne 0 _ _ rfl);have hH:=zh fun w' (hm:Mod [] w w')=>hc0.mod hm
 have hop:=zh fun w' (hm:Mod [] w w')=>Co hc hI hk (p:=p) (hp 0 rfl).1 (hp 0 rfl).2 (af.jT (hl w' hm))
 have hputH:=zh hput;clear hc0 hl hput hne hnw hS hA hp hc hI hk;go_enter Tryz.func26,Tryz.ntmps26;go_wp2_with fail;refine bV fa (by kernel_rfl) (by kernel_rfl) ?_;refine sq 9 ?_;refine cX 55 #[.pointer (some ⟨cb,0,none⟩),.int .i64 0] (.int .u64 x0) rfl Tryz.call55 rfl rfl (fun w' hm=>jH (hH.out _ hm) 0 rfl) ?_;refine sq 0 ?_;refine cE 65 #[.pointer (some ⟨a.hb,0,none⟩),.int .i64 p,.int .u64 x0] (.int .i64 (ma c s p x0).1) rfl Tryz.call65 rfl rfl (fun w' hm=>(hop.out w' hm).mono fun e w'' ⟨he,h⟩=>by subst he;exact af.kd h) ?_;refine sq 2 ?_;refine au fun w2 aP=> ?_
 have hS3:=zh (hputH.out w2 _ aP);clear k1 hH hop hputH aP;go_wp2_with fail;go_ret2;exact⟨rfl,hS3.out⟩
theorem Cm {x0 x1 v:Int} {m:Nat} (hm8:m≤8) (hA:cR w av [x0,x1,(m:Int),v]) (hS:af F W (aB a c s::aj cb (dh a p tv av d)::cs) w):
  Calls Tryz.prog 60 #[.pointer (some ⟨cb,0,none⟩)] w fun e w'=>e=.returned (.int .i64 (fZ c s p x0 (aA x1) (aX v m)).1)∧
   af F W (aB a c (fZ c s p x0 (aA x1) (aX v m)).2::aj cb (dh a p tv av d)::cs) w':=by
 have hp:=fun j {x:Int} hx=>hA.pos (j:=j) (x:=x) hx
 obtain⟨sb,so,cap,rfl,hc0⟩:=fA.of (hS.block 1 rfl) hA;have r0:=hp 0 rfl;have hH:=zh fun w' (hm:Mod [] w w')=>hc0.mod hm
 have hi:Calls Tryz.prog 57 #[.pointer (some ⟨cb,0,none⟩),.int .i64 2] w fun e w'=>e=.returned (.int .i64 m)∧Mod [] w w':=by
  have:=iT hc0 2 rfl
  rwa [show aA (m:Int)=m by unfold aA;rw[if_neg (by omega)]]at this
 have hi:=zh hi;have hSH:=zh hS;have hrH0:=zh r0;clear hc0 hS r0 hA hp;go_enter Tryz.func60,Tryz.ntmps60;go_wp2_with fail;refine hi.out.mono ?_;rintro e w1 ⟨rfl,hm1⟩;obtain⟨w2,h1,h2,h3⟩:=rK m (by omega) w1;have h2H:=zh h2;have hm2:=zh (hm1.ag h3);have hBg:=zh hm1.size;clear h2 h3 hi hm1;go_wp2_with fail;clear h1;generalize w1.heap.size=B at*;go_loopw [10] (fun i wr=>∃k:Nat,k≤m∧i=.int .i64 k∧Mod [] w wr∧wr.ownsRow B 5 1 (.slice (some ⟨B,0,none⟩) m m) m (aR (aX v k++List.replicate (m-k) 0))) (fun i _=>m-(intOf i).toNat)
 case atStart=>exact⟨0,by omega,rfl,hm2.out,h2H.out⟩
 case round=>
  obtain⟨k,hkm,rfl,hm,hr⟩:=hrel;have hmH:=zh hm;have hrH:=zh hr;clear hm hr;by_cases hlt:k<m
  ·have hcase:k=0∨k=1∨k=2∨k=3∨k=4∨k=5∨k=6∨k=7:=by omega
   rcases hcase with rfl|rfl|rfl|rfl|rfl|rfl|rfl|rfl
   ·have hcb:=ae (hH.out _ hmH.out).aQ;have hx3:wr.cell? ⟨sb,so+3,none⟩=some (.int .u64 v):=((hH.out _ hmH.out).cell 3 rfl).1;have hck:=(hrH.out.cellAt 0 (by omega)).trans (List.getElem?_eq_getElem (by rw[eN,List.length_append,aZ,List.length_replicate];omega));have hfr:=hrH.out.frozenAt;have hdk:decide ((((0:Nat):Int))<(m:Int))=true:=by simp;omega
    have hst:=zh (ly v (k:=0) (m:=m) hlt);simp only[show((0:Nat):Int)=0 from rfl]at hdk;simp only[show((0:Nat):Int)=0 from rfl];go_wp2_with fail;go_roundw
    case rel=>
     have h1:=(hrH.out.stored 0 (.int .u8 (v/256^0%256))).1;rw[hst.out]at h1;simp only[Int.reducePow,Nat.reduceAdd]at h1;refine⟨1,by omega,by go_num,hmH.out.setCell (.inr hBg.out) _,?_⟩
     first
     |exact h1
     |(rw[Int.ediv_one]at h1;exact h1)
    case measure=>simp[intOf];omega
   ·have hcb:=ae (hH.out _ hmH.out).aQ;have hx3:wr.cell? ⟨sb,so+3,none⟩=some (.int .u64 v):=((hH.out _ hmH.out).cell 3 rfl).1;have hck:=(hrH.out.cellAt 1 (by omega)).trans (List.getElem?_eq_getElem (by rw[eN,List.length_append,aZ,List.length_replicate];omega));have hfr:=hrH.out.frozenAt;have hdk:decide ((((1:Nat):Int))<(m:Int))=true:=by simp;omega
    have hst:=zh (ly v (k:=1) (m:=m) hlt);simp only[show((1:Nat):Int)=1 from rfl]at hdk;simp only[show((1:Nat):Int)=1 from rfl];go_wp2_with fail;go_roundw
    case rel=>
     have h1:=(hrH.out.stored 1 (.int .u8 (v/256^1%256))).1;rw[hst.out]at h1;simp only[Int.reducePow,Nat.reduceAdd]at h1;refine⟨2,by omega,by go_num,hmH.out.setCell (.inr hBg.out) _,?_⟩
     first
     |exact h1
     |(rw[Int.ediv_one]at h1;exact h1)
    case measure=>simp[intOf];omega
   ·have hcb:=ae (hH.out _ hmH.out).aQ;have hx3:wr.cell? ⟨sb,so+3,none⟩=some (.int .u64 v):=((hH.out _ hmH.out).cell 3 rfl).1;have hck:=(hrH.out.cellAt 2 (by omega)).trans (List.getElem?_eq_getElem (by rw[eN,List.length_append,aZ,List.length_replicate];omega));have hfr:=hrH.out.frozenAt;have hdk:decide ((((2:Nat):Int))<(m:Int))=true:=by simp;omega
    have hst:=zh (ly v (k:=2) (m:=m) hlt);simp only[show((2:Nat):Int)=2 from rfl]at hdk;simp only[show((2:Nat):Int)=2 from rfl];go_wp2_with fail;go_roundw
    case rel=>
     have h1:=(hrH.out.stored 2 (.int .u8 (v/256^2%256))).1;rw[hst.out]at h1;simp only[Int.reducePow,Nat.reduceAdd]at h1;refine⟨3,by omega,by go_num,hmH.out.setCell (.inr hBg.out) _,?_⟩
     first
     |exact h1
     |(rw[Int.ediv_one]at h1;exact h1)
    case measure=>simp[intOf];omega
   ·have hcb:=ae (hH.out _ hmH.out).aQ;have hx3:wr.cell? ⟨sb,so+3,none⟩=some (.int .u64 v):=((hH.out _ hmH.out).cell 3 rfl).1;have hck:=(hrH.out.cellAt 3 (by omega)).trans (List.getElem?_eq_getElem (by rw[eN,List.length_append,aZ,List.length_replicate];omega));have hfr:=hrH.out.frozenAt;have hdk:decide ((((3:Nat):Int))<(m:Int))=true:=by simp;omega
    have hst:=zh (ly v (k:=3) (m:=m) hlt);simp only[show((3:Nat):Int)=3 from rfl]at hdk;simp only[show((3:Nat):Int)=3 from rfl];go_wp2_with fail;go_roundw
    case rel=>
     have h1:=(hrH.out.stored 3 (.int .u8 (v/256^3%256))).1;rw[hst.out]at h1;simp only[Int.reducePow,Nat.reduceAdd]at h1;refine⟨4,by omega,by go_num,hmH.out.setCell (.inr hBg.out) _,?_⟩
     first
     |exact h1
     |(rw[Int.ediv_one]at h1;exact h1)
    case measure=>simp[intOf];omega
   ·have hcb:=ae (hH.out _ hmH.out).aQ;have hx3:wr.cell? ⟨sb,so+3,none⟩=some (.int .u64 v):=((hH.out _ hmH.out).cell 3 rfl).1;have hck:=(hrH.out.cellAt 4 (by omega)).trans (List.getElem?_eq_getElem (by rw[eN,List.length_append,aZ,List.length_replicate];omega));have hfr:=hrH.out.frozenAt;have hdk:decide ((((4:Nat):Int))<(m:Int))=true:=by simp;omega
    have hst:=zh (ly v (k:=4) (m:=m) hlt);simp only[show((4:Nat):Int)=4 from rfl]at hdk;simp only[show((4:Nat):Int)=4 from rfl];go_wp2_with fail;go_roundw
    case rel=>
     have h1:=(hrH.out.stored 4 (.int .u8 (v/256^4%256))).1;rw[hst.out]at h1;simp only[Int.reducePow,Nat.reduceAdd]at h1;refine⟨5,by omega,by go_num,hmH.out.setCell (.inr hBg.out) _,?_⟩
     first
     |exact h1
     |(rw[Int.ediv_one]at h1;exact h1)
    case measure=>simp[intOf];omega
   ·have hcb:=ae (hH.out _ hmH.out).aQ;have hx3:wr.cell? ⟨sb,so+3,none⟩=some (.int .u64 v):=((hH.out _ hmH.out).cell 3 rfl).1;have hck:=(hrH.out.cellAt 5 (by omega)).trans (List.getElem?_eq_getElem (by rw[eN,List.length_append,aZ,List.length_replicate];omega));have hfr:=hrH.out.frozenAt;have hdk:decide ((((5:Nat):Int))<(m:Int))=true:=by simp;omega
    have hst:=zh (ly v (k:=5) (m:=m) hlt);simp only[show((5:Nat):Int)=5 from rfl]at hdk;simp only[show((5:Nat):Int)=5 from rfl];go_wp2_with fail;go_roundw
    case rel=>
     have h1:=(hrH.out.stored 5 (.int .u8 (v/256^5%256))).1;rw[hst.out]at h1;simp only[Int.reducePow,Nat.reduceAdd]at h1;refine⟨6,by omega,by go_num,hmH.out.setCell (.inr hBg.out) _,?_⟩
     first
     |exact h1
     |(rw[Int.ediv_one]at h1;exact h1)
    case measure=>simp[intOf];omega
   ·have hcb:=ae (hH.out _ hmH.out).aQ;have hx3:wr.cell? ⟨sb,so+3,none⟩=some (.int .u64 v):=((hH.out _ hmH.out).cell 3 rfl).1;have hck:=(hrH.out.cellAt 6 (by omega)).trans (List.getElem?_eq_getElem (by rw[eN,List.length_append,aZ,List.length_replicate];omega));have hfr:=hrH.out.frozenAt;have hdk:decide ((((6:Nat):Int))<(m:Int))=true:=by simp;omega
    have hst:=zh (ly v (k:=6) (m:=m) hlt);simp only[show((6:Nat):Int)=6 from rfl]at hdk;simp only[show((6:Nat):Int)=6 from rfl];go_wp2_with fail;go_roundw
    case rel=>
     have h1:=(hrH.out.stored 6 (.int .u8 (v/256^6%256))).1;rw[hst.out]at h1;simp only[Int.reducePow,Nat.reduceAdd]at h1;refine⟨7,by omega,by go_num,hmH.out.setCell (.inr hBg.out) _,?_⟩
     first
     |exact h1
     |(rw[Int.ediv_one]at h1;exact h1)
    case measure=>simp[intOf];omega
   ·have hcb:=ae (hH.out _ hmH.out).aQ;have hx3:wr.cell? ⟨sb,so+3,none⟩=some (.int .u64 v):=((hH.out _ hmH.out).cell 3 rfl).1;have hck:=(hrH.out.cellAt 7 (by omega)).trans (List.getElem?_eq_getElem (by rw[eN,List.length_append,aZ,List.length_replicate];omega));have hfr:=hrH.out.frozenAt;have hdk:decide ((((7:Nat):Int))<(m:Int))=true:=by simp;omega
    have hst:=zh (ly v (k:=7) (m:=m) hlt);simp only[show((7:Nat):Int)=7 from rfl]at hdk;simp only[show((7:Nat):Int)=7 from rfl];go_wp2_with fail;go_roundw
    case rel=>
     have h1:=(hrH.out.stored 7 (.int .u8 (v/256^7%256))).1;rw[hst.out]at h1;simp only[Int.reducePow,Nat.reduceAdd]at h1;refine⟨8,by omega,by go_num,hmH.out.setCell (.inr hBg.out) _,?_⟩
     first
     |exact h1
     |(rw[Int.ediv_one]at h1;exact h1)
    case measure=>simp[intOf];omega
  ·obtain rfl:k=m:=by omega
   have hrow:=hrH.out;rw[Nat.sub_self,List.replicate_zero,List.append_nil]at hrow;have hby:=mU hrow (aZ v k).symm (kD v k) (by rw[aZ];omega);have hS4:=((hSH.out.add (c:=my (.slice (some ⟨B,0,none⟩) k k) (aX v k)) hmH.out ⟨hby,rfl⟩ (fun x hx=>by simp[Value.ownBlock]at hx;subst hx;exact hBg.out)).swap).join [aB a c s,my (.slice (some ⟨B,0,none⟩) k k) (aX v k)];obtain⟨fa,hl,hput,hne⟩:=hS4.dJ 0 rfl;have k1:=GW.cells (S:=fa) (hS4.block 1 rfl) (hne 0 _ _ rfl);have hH3:=zh fun w' (hm:Mod [] wr w')=>hH.out _ (hmH.out.ag hm)
   have hop:=zh fun w' (hm:Mod [] wr w')=>EW hc hI hk (p:=p) (off:=aA x1) hrH0.out.1 hrH0.out.2 (af.start (hl w' hm))
   have hputH:=zh hput;clear hl hput hne hS4 hby hrow hrH hmH hH hSH h2H hm2;go_wp2_with fail;refine bV fa (by kernel_rfl) (by kernel_rfl) ?_;refine sq 9 ?_;refine cX 55 #[.pointer (some ⟨cb,0,none⟩),.int .i64 0] (.int .u64 x0) rfl Tryz.call55 rfl rfl (fun w' hm=>jH (hH3.out _ hm) 0 rfl) ?_;refine sq 1 ?_;refine cX 57 #[.pointer (some ⟨cb,0,none⟩),.int .i64 1] (.int .i64 (aA x1)) rfl Tryz.call57 rfl rfl (fun w' hm=>iT (hH3.out _ hm) 1 rfl) ?_;refine sq 1 ?_;refine cE 118 #[.pointer (some ⟨a.hb,0,none⟩),.int .i64 p,.int .u64 x0,.int .i64 (aA x1),.slice (some ⟨B,0,none⟩) k k] (.int .i64 (fZ c s p x0 (aA x1) (aX v k)).1) rfl Tryz.call118 rfl rfl (fun w' hm=>(hop.out w' hm).mono fun e w'' ⟨he,h⟩=>by subst he;exact CA h) ?_;refine sq 1 ?_;refine au fun w5 hw5=> ?_
   have hS5:=zh ((hputH.out w5 _ hw5).split.erase 1);clear k1 hH3 hop hputH hw5;go_wp2_with fail;go_ret;exact⟨rfl,hS5.out⟩
theorem Dk {x0 x1:Int} {m:Nat} (hm8:m≤8) (hA:cR w av [x0,x1,(m:Int)]) (hS:af F W (aB a c s::aj cb (dh a p tv av d)::cs) w):
  Calls Tryz.prog 59 #[.pointer (some ⟨cb,0,none⟩)] w fun e w'=>e=.returned (.tuple #[.int .u64 (ch (fJ c s p x0 (aA x1) m)),.int .i64 (fK c s p x0 (aA x1) m).1])∧
   af F W (aB a c (fK c s p x0 (aA x1) m).2::aj cb (dh a p tv av d)::cs) w':=by
 have hp:=fun j {x:Int} hx=>hA.pos (j:=j) (x:=x) hx
 obtain⟨sb,so,cap,rfl,hc0⟩:=fA.of (hS.block 1 rfl) hA;have r0:=hp 0 rfl;obtain⟨hbl,hby⟩:=AJ hI p x0 (aA x1) hm8;have em:aA (m:Int)=m:=by unfold aA;rw[if_neg (by omega)]
 obtain⟨fa,hl,hput,hne,hnw⟩:=j5 hS;have k1:=GW.cells (S:=fa) (hS.block 1 rfl) (hne 0 _ _ rfl);have hH:=zh fun w' (hm:Mod [] w w')=>hc0.mod hm
 have h2:=zh fun w' (hm:Mod [] w w')=>(em▸iT (hc0.mod hm) 2 rfl:Calls Tryz.prog 57 #[.pointer (some ⟨cb,0,none⟩),.int .i64 2] w' fun e w''=>e=.returned (.int .i64 m)∧Mod [] w' w'')
 have hop:=zh fun w' (hm:Mod [] w w')=>yp hc hI hk (p:=p) (off:=aA x1) (n:=m) r0.1 r0.2 (af.jT (hl w' hm))
 have hputH:=zh hput;have hbyH:=zh hby;clear hc0 hl hput hne hnw hS r0 hby em hc hI hA hp hk;generalize hbs:fJ c s p x0 (aA x1) m=bs at*;generalize fK c s p x0 (aA x1) m=lo at*;clear hbs;go_enter Tryz.func59,Tryz.ntmps59;go_wp2_with fail;refine bV fa (by kernel_rfl) (by kernel_rfl) ?_;refine sq 9 ?_;refine cX 55 #[.pointer (some ⟨cb,0,none⟩),.int .i64 0] (.int .u64 x0) rfl Tryz.call55 rfl rfl (fun w' hm=>jH (hH.out _ hm) 0 rfl) ?_;refine sq 1 ?_;refine cX 57 #[.pointer (some ⟨cb,0,none⟩),.int .i64 1] (.int .i64 (aA x1)) rfl Tryz.call57 rfl rfl (fun w' hm=>iT (hH.out _ hm) 1 rfl) ?_;refine sq 1 ?_;refine cX 57 #[.pointer (some ⟨cb,0,none⟩),.int .i64 2] (.int .i64 m) rfl Tryz.call57 rfl rfl (fun w' hm=>h2.out _ hm) ?_;refine sq 0 ?_;refine cD 13 #[.pointer (some ⟨a.hb,0,none⟩),.int .i64 p,.int .u64 x0,.int .i64 (aA x1),.int .i64 m] (fun v=>∃x y z,v=.tuple #[.slice x y z,.int .i64 lo.1]) (fun v w'=>∃u,v=.tuple #[u,.int .i64 lo.1]∧la (ai.all [aT u bs.length 5 1 (aR bs),aB a c lo.2]) fa w w') rfl Tryz.call13 rfl rfl ⟨_,none,0,0,rfl⟩ (fun w' hm=>(hop.out w' hm).mono fun e w'' ⟨u,he,h⟩=>by
  obtain⟨x,y,z,rfl⟩:=cx (h.row 0 rfl);obtain⟨f',g1,g2,g3⟩:=h.done;exact⟨_,he,⟨x,y,z,rfl⟩,_,rfl,(hm.mono (by simp)).trans g2,f',g1,fun x hx=>(g3 x hx).imp id fun h=>Nat.le_trans hm.size h⟩) (fun v w' ⟨_,_,h⟩=>ah.of h.1) (fun v hv=> ?_)
 obtain⟨ua,ul,uc,rfl⟩:=hv;refine sq 5 ?_;refine au fun w2 aP=> ?_
 obtain⟨u,hu,aP⟩:=aP;cases hu;have hS2:=(hputH.out w2 _ aP).split;have hrow:=hS2.row 0 rfl;have hS3:=zh (hS2.erase 0);clear k1 hH h2 hop hputH aP hS2;rcases hrow.2 with⟨hn,h0⟩|⟨g,cap,cur,hsl,q2,q3,q4,q5,q6,q7⟩
 ·cases hn;have hb0:bs=[]:=List.eq_nil_of_length_eq_zero h0;subst hb0;clear hrow h0 hbl hbyH;go_wp2_with fail;go_loopw [29,6] (fun i v wr=>(i=.int .i64 0∧v=.int .u64 0)∧wr=w2) (fun _ _ _=>0)
  case atStart=>exact⟨⟨rfl,rfl⟩,rfl⟩
  case round=>
   obtain⟨⟨rfl,rfl⟩,rfl⟩:=hrel;go_wp2_with fail;go_ret2;exact⟨rfl,hS3.out⟩
 ·cases hsl;have hget:=zh fun(i:Nat) (b:Int) (hb:bs[i]? =some b)=>(show(0≤b∧b≤255)∧w2.cell? ⟨g,i,none⟩=some (.int .u8 b)from
   ⟨hbyH.out b (List.mem_of_getElem? hb),by
    have hlt:i<bs.length:=(List.getElem?_eq_some_iff.1 hb).1;rw[hrow.cellAt i (by omega)];simp[aR,hb]⟩)
  clear hrow q2 q3 q4 q5 q6 q7;go_wp2_with fail;go_loopw [29,6] (fun i v wr=>∃k:Nat,k≤bs.length∧i=.int .i64 k∧v=.int .u64 (ch (bs.take k))∧wr=w2) (fun i _ _=>bs.length-(intOf i).toNat)
  case atStart=>exact⟨0,by omega,rfl,by simp[ch],rfl⟩
  case round=>
   obtain⟨k,hk,rfl,rfl,rfl⟩:=hrel;by_cases hlt:k<bs.length
   ·have hcase:k=0∨k=1∨k=2∨k=3∨k=4∨k=5∨k=6∨k=7:=by omega
    rcases hcase with rfl|rfl|rfl|rfl|rfl|rfl|rfl|rfl
    ·obtain⟨b,hb,ht⟩:∃b,bs[0]? =some b∧bs.take 1=bs.take 0++[b]:=⟨bs[0]'(by omega),by simp,by rw[List.take_add_one,List.getElem?_eq_getElem (by omega)];rfl⟩;have hcb:=(hget.out 0 b hb);obtain⟨⟨c0,c1⟩,hcell⟩:=hcb
     try simp only[Nat.add_zero]at hcell
     have hr:=fU (bs.take 0) fun b hb=>hbyH.out b (List.mem_of_mem_take hb)
     rw[List.length_take,Nat.min_eq_left (by omega)]at hr;have hlt2:=fV b (bs.take 0);rw[←ht,List.length_take,Nat.min_eq_left (by omega)]at hlt2;have hltH:=zh hlt2;clear ht hlt2 hb;obtain⟨vk,hvk⟩:∃vk,ch (bs.take 0)=vk:=⟨_,rfl⟩;rw[hvk]at hltH hr;simp only[hvk];simp only[Int.reducePow]at hr hltH;have hor:=Tb.fL (8*0) (b*1) vk (by omega) (by simp only[Nat.reduceMul,Int.reducePow];omega) (by omega) hr.1 (by simp only[Nat.reduceMul,Int.reducePow];omega) (by omega);clear hvk
     try simp only[Int.mul_one]at hor
     go_wp2_with fail;go_roundw
     case rel=>exact⟨1,by omega,by go_num,by first|(rw[hltH.out]<;>simp only[Int.mul_one];done)|(rw[hltH.out]<;>simp only[Int.mul_one,hor]),trivial⟩
     case measure=>simp[intOf];omega
    ·obtain⟨b,hb,ht⟩:∃b,bs[1]? =some b∧bs.take 2=bs.take 1++[b]:=⟨bs[1]'(by omega),by simp,by rw[List.take_add_one,List.getElem?_eq_getElem (by omega)];rfl⟩;have hcb:=(hget.out 1 b hb);obtain⟨⟨c0,c1⟩,hcell⟩:=hcb
     try simp only[Nat.add_zero]at hcell
     have hr:=fU (bs.take 1) fun b hb=>hbyH.out b (List.mem_of_mem_take hb)
     rw[List.length_take,Nat.min_eq_left (by omega)]at hr;have hlt2:=fV b (bs.take 1);rw[←ht,List.length_take,Nat.min_eq_left (by omega)]at hlt2;have hltH:=zh hlt2;clear ht hlt2 hb;obtain⟨vk,hvk⟩:∃vk,ch (bs.take 1)=vk:=⟨_,rfl⟩;rw[hvk]at hltH hr;simp only[hvk];simp only[Int.reducePow]at hr hltH;have hor:=Tb.fL (8*1) (b*256) vk (by omega) (by simp only[Nat.reduceMul,Int.reducePow];omega) (by omega) hr.1 (by simp only[Nat.reduceMul,Int.reducePow];omega) (by omega);clear hvk
     try simp only[Int.mul_one]at hor
     go_wp2_with fail;go_roundw
     case rel=>exact⟨2,by omega,by go_num,by first|(rw[hltH.out]<;>simp only[Int.mul_one];done)|(rw[hltH.out]<;>simp only[Int.mul_one,hor]),trivial⟩
     case measure=>simp[intOf];omega
    ·obtain⟨b,hb,ht⟩:∃b,bs[2]? =some b∧bs.take 3=bs.take 2++[b]:=⟨bs[2]'(by omega),by simp,by rw[List.take_add_one,List.getElem?_eq_getElem (by omega)];rfl⟩;have hcb:=(hget.out 2 b hb);obtain⟨⟨c0,c1⟩,hcell⟩:=hcb
     try simp only[Nat.add_zero]at hcell
     have hr:=fU (bs.take 2) fun b hb=>hbyH.out b (List.mem_of_mem_take hb)
     rw[List.length_take,Nat.min_eq_left (by omega)]at hr;have hlt2:=fV b (bs.take 2);rw[←ht,List.length_take,Nat.min_eq_left (by omega)]at hlt2;have hltH:=zh hlt2;clear ht hlt2 hb;obtain⟨vk,hvk⟩:∃vk,ch (bs.take 2)=vk:=⟨_,rfl⟩;rw[hvk]at hltH hr;simp only[hvk];simp only[Int.reducePow]at hr hltH;have hor:=Tb.fL (8*2) (b*65536) vk (by omega) (by simp only[Nat.reduceMul,Int.reducePow];omega) (by omega) hr.1 (by simp only[Nat.reduceMul,Int.reducePow];omega) (by omega);clear hvk
     try simp only[Int.mul_one]at hor
     go_wp2_with fail;go_roundw
     case rel=>exact⟨3,by omega,by go_num,by first|(rw[hltH.out]<;>simp only[Int.mul_one];done)|(rw[hltH.out]<;>simp only[Int.mul_one,hor]),trivial⟩
     case measure=>simp[intOf];omega
    ·obtain⟨b,hb,ht⟩:∃b,bs[3]? =some b∧bs.take 4=bs.take 3++[b]:=⟨bs[3]'(by omega),by simp,by rw[List.take_add_one,List.getElem?_eq_getElem (by omega)];rfl⟩;have hcb:=(hget.out 3 b hb);obtain⟨⟨c0,c1⟩,hcell⟩:=hcb
     try simp only[Nat.add_zero]at hcell
     have hr:=fU (bs.take 3) fun b hb=>hbyH.out b (List.mem_of_mem_take hb)
     rw[List.length_take,Nat.min_eq_left (by omega)]at hr;have hlt2:=fV b (bs.take 3);rw[←ht,List.length_take,Nat.min_eq_left (by omega)]at hlt2;have hltH:=zh hlt2;clear ht hlt2 hb;obtain⟨vk,hvk⟩:∃vk,ch (bs.take 3)=vk:=⟨_,rfl⟩;rw[hvk]at hltH hr;simp only[hvk];simp only[Int.reducePow]at hr hltH;have hor:=Tb.fL (8*3) (b*16777216) vk (by omega) (by simp only[Nat.reduceMul,Int.reducePow];omega) (by omega) hr.1 (by simp only[Nat.reduceMul,Int.reducePow];omega) (by omega);clear hvk
     try simp only[Int.mul_one]at hor
     go_wp2_with fail;go_roundw
     case rel=>exact⟨4,by omega,by go_num,by first|(rw[hltH.out]<;>simp only[Int.mul_one];done)|(rw[hltH.out]<;>simp only[Int.mul_one,hor]),trivial⟩
     case measure=>simp[intOf];omega
    ·obtain⟨b,hb,ht⟩:∃b,bs[4]? =some b∧bs.take 5=bs.take 4++[b]:=⟨bs[4]'(by omega),by simp,by rw[List.take_add_one,List.getElem?_eq_getElem (by omega)];rfl⟩;have hcb:=(hget.out 4 b hb);obtain⟨⟨c0,c1⟩,hcell⟩:=hcb
     try simp only[Nat.add_zero]at hcell
     have hr:=fU (bs.take 4) fun b hb=>hbyH.out b (List.mem_of_mem_take hb)
     rw[List.length_take,Nat.min_eq_left (by omega)]at hr;have hlt2:=fV b (bs.take 4);rw[←ht,List.length_take,Nat.min_eq_left (by omega)]at hlt2;have hltH:=zh hlt2;clear ht hlt2 hb;obtain⟨vk,hvk⟩:∃vk,ch (bs.take 4)=vk:=⟨_,rfl⟩;rw[hvk]at hltH hr;simp only[hvk];simp only[Int.reducePow]at hr hltH;have hor:=Tb.fL (8*4) (b*4294967296) vk (by omega) (by simp only[Nat.reduceMul,Int.reducePow];omega) (by omega) hr.1 (by simp only[Nat.reduceMul,Int.reducePow];omega) (by omega);clear hvk
     try simp only[Int.mul_one]at hor
     go_wp2_with fail;go_roundw
     case rel=>exact⟨5,by omega,by go_num,by first|(rw[hltH.out]<;>simp only[Int.mul_one];done)|(rw[hltH.out]<;>simp only[Int.mul_one,hor]),trivial⟩
     case measure=>simp[intOf];omega
    ·obtain⟨b,hb,ht⟩:∃b,bs[5]? =some b∧bs.take 6=bs.take 5++[b]:=⟨bs[5]'(by omega),by simp,by rw[List.take_add_one,List.getElem?_eq_getElem (by omega)];rfl⟩;have hcb:=(hget.out 5 b hb);obtain⟨⟨c0,c1⟩,hcell⟩:=hcb
     try simp only[Nat.add_zero]at hcell
     have hr:=fU (bs.take 5) fun b hb=>hbyH.out b (List.mem_of_mem_take hb)
     rw[List.length_take,Nat.min_eq_left (by omega)]at hr;have hlt2:=fV b (bs.take 5);rw[←ht,List.length_take,Nat.min_eq_left (by omega)]at hlt2;have hltH:=zh hlt2;clear ht hlt2 hb;obtain⟨vk,hvk⟩:∃vk,ch (bs.take 5)=vk:=⟨_,rfl⟩;rw[hvk]at hltH hr;simp only[hvk];simp only[Int.reducePow]at hr hltH;have hor:=Tb.fL (8*5) (b*1099511627776) vk (by omega) (by simp only[Nat.reduceMul,Int.reducePow];omega) (by omega) hr.1 (by simp only[Nat.reduceMul,Int.reducePow];omega) (by omega);clear hvk
     try simp only[Int.mul_one]at hor
     go_wp2_with fail;go_roundw
     case rel=>exact⟨6,by omega,by go_num,by first|(rw[hltH.out]<;>simp only[Int.mul_one];done)|(rw[hltH.out]<;>simp only[Int.mul_one,hor]),trivial⟩
     case measure=>simp[intOf];omega
    ·obtain⟨b,hb,ht⟩:∃b,bs[6]? =some b∧bs.take 7=bs.take 6++[b]:=⟨bs[6]'(by omega),by simp,by rw[List.take_add_one,List.getElem?_eq_getElem (by omega)];rfl⟩;have hcb:=(hget.out 6 b hb);obtain⟨⟨c0,c1⟩,hcell⟩:=hcb
     try simp only[Nat.add_zero]at hcell
     have hr:=fU (bs.take 6) fun b hb=>hbyH.out b (List.mem_of_mem_take hb)
     rw[List.length_take,Nat.min_eq_left (by omega)]at hr;have hlt2:=fV b (bs.take 6);rw[←ht,List.length_take,Nat.min_eq_left (by omega)]at hlt2;have hltH:=zh hlt2;clear ht hlt2 hb;obtain⟨vk,hvk⟩:∃vk,ch (bs.take 6)=vk:=⟨_,rfl⟩;rw[hvk]at hltH hr;simp only[hvk];simp only[Int.reducePow]at hr hltH;have hor:=Tb.fL (8*6) (b*281474976710656) vk (by omega) (by simp only[Nat.reduceMul,Int.reducePow];omega) (by omega) hr.1 (by simp only[Nat.reduceMul,Int.reducePow];omega) (by omega);clear hvk
     try simp only[Int.mul_one]at hor
     go_wp2_with fail;go_roundw
     case rel=>exact⟨7,by omega,by go_num,by first|(rw[hltH.out]<;>simp only[Int.mul_one];done)|(rw[hltH.out]<;>simp only[Int.mul_one,hor]),trivial⟩
     case measure=>simp[intOf];omega
    ·obtain⟨b,hb,ht⟩:∃b,bs[7]? =some b∧bs.take 8=bs.take 7++[b]:=⟨bs[7]'(by omega),by simp,by rw[List.take_add_one,List.getElem?_eq_getElem (by omega)];rfl⟩;have hcb:=(hget.out 7 b hb);obtain⟨⟨c0,c1⟩,hcell⟩:=hcb
     try simp only[Nat.add_zero]at hcell
     have hr:=fU (bs.take 7) fun b hb=>hbyH.out b (List.mem_of_mem_take hb)
     rw[List.length_take,Nat.min_eq_left (by omega)]at hr;have hlt2:=fV b (bs.take 7);rw[←ht,List.length_take,Nat.min_eq_left (by omega)]at hlt2;have hltH:=zh hlt2;clear ht hlt2 hb;obtain⟨vk,hvk⟩:∃vk,ch (bs.take 7)=vk:=⟨_,rfl⟩;rw[hvk]at hltH hr;simp only[hvk];simp only[Int.reducePow]at hr hltH;have hor:=Tb.fL (8*7) (b*72057594037927936) vk (by omega) (by simp only[Nat.reduceMul,Int.reducePow];omega) (by omega) hr.1 (by simp only[Nat.reduceMul,Int.reducePow];omega) (by omega);clear hvk
     try simp only[Int.mul_one]at hor
     go_wp2_with fail;go_roundw
     case rel=>exact⟨8,by omega,by go_num,by first|(rw[hltH.out]<;>simp only[Int.mul_one];done)|(rw[hltH.out]<;>simp only[Int.mul_one,hor]),trivial⟩
     case measure=>simp[intOf];omega
   ·obtain rfl:k=bs.length:=by omega
    rw[List.take_of_length_le (by omega)];go_wp2_with fail;go_ret2;exact⟨rfl,hS3.out⟩
theorem Dd {x0 x1 v:Int} {m:Nat} (hm8:m≤8) (hA:cR w av [x0,x1,(m:Int),v]) (hS:af F W (aB a c s::aj cb (dh a p tv av d)::cs) w):
  Calls Tryz.prog 26 #[.pointer (some ⟨cb,0,none⟩),.int .i64 6] w fun e w'=>e=.returned (.tuple #[.int .u64 0,.int .i64 (fZ c s p x0 (aA x1) (aX v m)).1])∧
   af F W (aB a c (fZ c s p x0 (aA x1) (aX v m)).2::aj cb (dh a p tv av d)::cs) w':=by
 have hl:=zh (Cm hc hI hk (p:=p) (d:=d) hm8 hA hS);clear hS hc hI hk hA hm8;go_enter Tryz.func26,Tryz.ntmps26;go_wp2_with fail;refine hl.out.mono ?_;rintro e w1 ⟨rfl,hS1⟩;have hS1:=zh hS1;go_wp2_with fail;go_ret2;exact⟨rfl,hS1.out⟩
theorem Ey {x0 x1:Int} {m:Nat} (hm8:m≤8) (hA:cR w av [x0,x1,(m:Int)]) (hS:af F W (aB a c s::aj cb (dh a p tv av d)::cs) w):
  Calls Tryz.prog 26 #[.pointer (some ⟨cb,0,none⟩),.int .i64 5] w fun e w'=>e=.returned (.tuple #[.int .u64 (ch (fJ c s p x0 (aA x1) m)),.int .i64 (fK c s p x0 (aA x1) m).1])∧
   af F W (aB a c (fK c s p x0 (aA x1) m).2::aj cb (dh a p tv av d)::cs) w':=by
 have hl:=zh (Dk hc hI hk (p:=p) (d:=d) hm8 hA hS);clear hS hc hI hk hA hm8;go_enter Tryz.func26,Tryz.ntmps26;go_wp2_with fail;refine hl.out.mono ?_;rintro e w1 ⟨rfl,hS1⟩;have hS1:=zh hS1;go_wp2_with fail;go_ret2;exact⟨rfl,hS1.out⟩
theorem CK {x0:Int} (d0:0≤d) (d1:d≤18446744073709551615) (hst:s.st p=1) {ts:List Int} (hr:w.ownsRow 0 3 1 tv ts.length (ts.map (.int .i64))) (hA:cR w av [x0]) (hS:af F W (aB a c s::aj cb (dh a p tv av d)::cs) w):
  Calls Tryz.prog 26 #[.pointer (some ⟨cb,0,none⟩),.int .i64 1] w fun e w'=>e=.returned (.tuple #[.int .u64 (iU c s p (kn ts (aA x0)) d),.int .i64 (gd c s p (kn ts (aA x0)) d).1])∧
   af F W (aB a c (gd c s p (kn ts (aA x0)) d).2::aj cb (dh a p tv av d)::cs) w':=by
 have hp:=fun j {x:Int} hx=>hA.pos (j:=j) (x:=x) hx
 obtain⟨sb,so,cap,rfl,hc0⟩:=fA.of (hS.block 1 rfl) hA;obtain⟨fa,hl,hput,hne,hnw⟩:=j5 hS;have k1:=GW.cells (S:=fa) (hS.block 1 rfl) (hne 0 _ _ rfl);have hH:=zh fun w' (hm:Mod [] w w')=>hc0.mod hm
 have htg:=zh fun w' (hm:Mod [] w w')=>Ei (hc0.mod hm) rfl (aG hr hm (by simp))
 obtain⟨ta,tl,tc,rfl⟩:=cx hr;generalize kn ts (aA x0)=t at*;have hop:=zh fun w' (hm:Mod [] w w')=>DZ hc hI hk (p:=p) (tag:=t) (d:=d) d0 d1 (uy hc hI hst t d) (af.jT (hl w' hm))
 have hputH:=zh hput;clear hc0 hl hput hne hnw hS hst hr hA hp hc hI hk d0 d1;go_enter Tryz.func26,Tryz.ntmps26;go_wp2_with fail;refine bV fa (by kernel_rfl) (by kernel_rfl) ?_;refine sq 9 ?_;refine cX 53 #[.pointer (some ⟨cb,0,none⟩)] (.int .i64 t) rfl Tryz.call53 rfl rfl (fun w' hm=>htg.out _ hm) ?_;refine sq 4 ?_;refine cE 52 #[.pointer (some ⟨a.hb,0,none⟩),.int .i64 p,.int .i64 t,.int .u64 d] (.tuple #[.int .u64 (iU c s p t d),.int .i64 (gd c s p t d).1]) rfl Tryz.call52 rfl rfl (fun w' hm=>(hop.out w' hm).mono fun e w'' ⟨he,h⟩=>by subst he;exact af.kd h) ?_;refine sq 5 ?_;refine au fun w2 aP=> ?_
 have hS3:=zh (hputH.out w2 _ aP);clear k1 htg hH hop hputH aP;go_wp2_with fail;go_ret2;exact⟨rfl,hS3.out⟩
end
def cw (k:Int):Int:=if k=1∨k=2∨k=11 then 1 else if k=3∨k=8∨k=9∨k=10 then 2 else if k=4∨k=5 then 3 else if k=6 then 4 else 5
theorem tI {k:Int} (h:1≤k∧k≤11):k=1∨k=2∨k=3∨k=4∨k=5∨k=6∨k=7∨k=8∨k=9∨k=10∨k=11:=by omega
theorem ng {k:Int} (h:1≤k∧k≤11) (w:World):Calls Tryz.prog 25 #[.int .i64 k] w fun e w'=>e=.returned (.tuple #[.int .i64 (cw k),.bool true])∧Mod [] w w':=by
 rcases tI h with rfl|rfl|rfl|rfl|rfl|rfl|rfl|rfl|rfl|rfl|rfl
 all_goals
  go_enter Tryz.func25,Tryz.ntmps25;go_wp2_with fail;go_ret2;exact⟨rfl,Mod.refl _ _⟩
theorem C8 {k:Int} (h:k<1∨11<k) (w:World):Calls Tryz.prog 25 #[.int .i64 k] w fun e w'=>e=.returned (.tuple #[.int .i64 0,.bool false])∧Mod [] w w':=by
 have z:∀j:Int,1≤j→j≤11→(k==j)=false:=fun j h1 h2=>by simp only[beq_eq_false_iff_ne];omega
 have z1:=z 1 (by omega) (by omega);have z2:=z 2 (by omega) (by omega);have z3:=z 3 (by omega) (by omega);have z4:=z 4 (by omega) (by omega);have z5:=z 5 (by omega) (by omega);have z6:=z 6 (by omega) (by omega);have z7:=z 7 (by omega) (by omega);have z8:=z 8 (by omega) (by omega);have z9:=z 9 (by omega) (by omega);have z10:=z 10 (by omega) (by omega);have z11:=z 11 (by omega) (by omega);clear z h;go_enter Tryz.func25,Tryz.ntmps25;go_wp2_with fail;go_ret2;exact⟨rfl,Mod.refl _ _⟩
def iz (k:Int) (ds:List Int):Int:=if k<1∨11<k then 22 else if(ds.length:Int)≠cw k then 1 else if(k=5∨k=6)∧8<ds.getD 2 0 then 1 else 0
section
variable {F:List Nat} {W w:World} {cs:List ai} {a:HA} {c:HC} {s:HS} {p d:Int} {tv av:Value} {ds:List Int}
theorem Cn {k:Int} (hA:cR w av ds) (q:Option Addr) (tm tc:Nat) (ta:Option Addr) (he:iz k ds≠0):
  Calls Tryz.prog 8 #[.pointer q,.int .i64 p,.slice ta tm tc,.int .i64 k,av,.int .u64 d] w fun e w'=>e=.returned (.tuple #[.int .u64 0,.int .i64 (iz k ds)])∧Mod [] w w':=by
 have hln:=fun ty w1=>hA.len ty w1
 unfold iz at he⊢;by_cases hk:k<1∨11<k
 ·rw[if_pos hk];have har:=zh (C8 hk w);obtain⟨aa,am,ac,rfl⟩:=hA.slice;clear hk he hA;go_enter Tryz.func8,Tryz.ntmps8;go_wp2_with fail;refine har.out.mono ?_;rintro e w1 ⟨rfl,hm1⟩;go_wp2_with fail;go_ret2;exact⟨rfl,hm1⟩
 ·rw[if_neg hk]at he⊢;have hk':1≤k∧k≤11:=by omega
  by_cases hl:(ds.length:Int)≠cw k
  ·rw[if_pos hl];have har:=zh (ng hk' w);have hne:((ds.length:Int)==cw k)=false:=by simp only[beq_eq_false_iff_ne];exact hl
   have hne2:((ds.length:Int) != cw k)=true:=by simp only[bne_iff_ne];exact hl
   obtain⟨aa,am,ac,rfl⟩:=hA.slice;generalize cw k=ar at*;generalize(ds.length:Nat)=L at*;clear hk he hA hl hk';go_enter Tryz.func8,Tryz.ntmps8;go_wp2_with fail;refine har.out.mono ?_;rintro e w1 ⟨rfl,hm1⟩;go_wp2_with fail;go_ret2;exact⟨rfl,hm1⟩
  ·rw[if_neg hl]at he⊢;have hl:(ds.length:Int)=cw k:=Classical.not_not.1 hl;by_cases hb:(k=5∨k=6)∧8<ds.getD 2 0
   ·rw[if_pos hb];clear he hk hk';rcases hb.1 with rfl|rfl
    ·obtain⟨x2,hx2⟩:∃x,ds[2]? =some x:=⟨ds[2]'(by simp only[cw]at hl;omega),List.getElem?_eq_getElem _⟩;have hg:ds.getD 2 0=x2:=by rw[List.getD_eq_getElem?_getD,hx2];rfl
     have hmd:decide ((8:Int)<x2)=true:=decide_eq_true (hg▸hb.2);obtain⟨sb,so,cap,rfl,hcl⟩:∃sb so cap,av=.slice (some ⟨sb,so,none⟩) ds.length cap∧∀w',Mod [] w w'→w'.cell? ⟨sb,so+2,none⟩=some (.int .u64 x2):=by
      rcases hA with⟨_,rfl⟩|⟨sb,so,cap,rfl,h2,h3,h4⟩
      ·cases hx2
      ·obtain⟨hj,rfl⟩:=List.getElem?_eq_some_iff.1 hx2;exact⟨sb,so,cap,rfl,fun w' hm=>(Ty.bg hm h2 (by simp)).trans (h4 2 hj).1⟩
     have hcl:=zh hcl;have hlt2:(2:Int)<ds.length:=by simp only[cw]at hl;omega
     generalize(ds.length:Nat)=L at*;have har:=zh (ng (k:=5) (by omega) w);rw[show cw 5=L from hl.symm]at har;clear hb hx2 hg hl;go_enter Tryz.func8,Tryz.ntmps8;go_wp2_with fail;refine har.out.mono ?_;rintro e w1 ⟨rfl,hm1⟩;have hcc:=hcl.out _ hm1;go_wp2_with fail;go_ret2;exact⟨rfl,hm1⟩
    ·obtain⟨x2,hx2⟩:∃x,ds[2]? =some x:=⟨ds[2]'(by simp only[cw]at hl;omega),List.getElem?_eq_getElem _⟩;have hg:ds.getD 2 0=x2:=by rw[List.getD_eq_getElem?_getD,hx2];rfl
     have hmd:decide ((8:Int)<x2)=true:=decide_eq_true (hg▸hb.2);obtain⟨sb,so,cap,rfl,hcl⟩:∃sb so cap,av=.slice (some ⟨sb,so,none⟩) ds.length cap∧∀w',Mod [] w w'→w'.cell? ⟨sb,so+2,none⟩=some (.int .u64 x2):=by
      rcases hA with⟨_,rfl⟩|⟨sb,so,cap,rfl,h2,h3,h4⟩
      ·cases hx2
      ·obtain⟨hj,rfl⟩:=List.getElem?_eq_some_iff.1 hx2;exact⟨sb,so,cap,rfl,fun w' hm=>(Ty.bg hm h2 (by simp)).trans (h4 2 hj).1⟩
     have hcl:=zh hcl;have hlt2:(2:Int)<ds.length:=by simp only[cw]at hl;omega
     generalize(ds.length:Nat)=L at*;have har:=zh (ng (k:=6) (by omega) w);rw[show cw 6=L from hl.symm]at har;clear hb hx2 hg hl;go_enter Tryz.func8,Tryz.ntmps8;go_wp2_with fail;refine har.out.mono ?_;rintro e w1 ⟨rfl,hm1⟩;have hcc:=hcl.out _ hm1;go_wp2_with fail;go_ret2;exact⟨rfl,hm1⟩
   ·rw[if_neg hb]at he;exact absurd rfl he
theorem jN {k:Int} {r1 r2:Int} {s':HS} {ta:Option Addr} {tm tc:Nat} (hA:cR w av ds) (hk:iz k ds=0) (hz:r2≠0→r1=0) (hS:af F W (aB a c s::cs) w)
  (hop:∀w' cb,Mod [] w w'→af F W (aB a c s::aj cb (dh a p (.slice ta tm tc) av d)::cs) w'→Calls Tryz.prog 26 #[.pointer (some ⟨cb,0,none⟩),.int .i64 k] w' fun e w''=>e=.returned (.tuple #[.int .u64 r1,.int .i64 r2])∧af F W (aB a c s'::aj cb (dh a p (.slice ta tm tc) av d)::cs) w''):
  Calls Tryz.prog 8 #[.pointer (some ⟨a.hb,0,none⟩),.int .i64 p,.slice ta tm tc,.int .i64 k,av,.int .u64 d] w fun e w'=>e=.returned (.tuple #[.int .u64 r1,.int .i64 r2])∧af F W (aB a c s'::cs) w':=by
 have hln:=fun ty w1=>hA.len ty w1
 have hSH:=zh hS;have hz:=zh hz;have hop:=zh hop;unfold iz at hk;by_cases hk1:k<1∨11<k
 ·rw[if_pos hk1]at hk;cases hk
 rw[if_neg hk1]at hk;have hk':1≤k∧k≤11:=by omega
 by_cases hl:(ds.length:Int)≠cw k
 ·rw[if_pos hl]at hk;cases hk
 rw[if_neg hl]at hk;have hl:(ds.length:Int)=cw k:=Classical.not_not.1 hl;by_cases hb:(k=5∨k=6)∧8<ds.getD 2 0
 ·rw[if_pos hb]at hk;cases hk
 clear hk hk1 hS;by_cases h5:k=5
 ·subst h5;have hb:¬8<ds.getD 2 0:=fun h=>hb ⟨.inl rfl,h⟩
  obtain⟨x2,hx2⟩:∃x,ds[2]? =some x:=⟨ds[2]'(by simp only[cw]at hl;omega),List.getElem?_eq_getElem _⟩;have hg:ds.getD 2 0=x2:=by rw[List.getD_eq_getElem?_getD,hx2];rfl
  have hmd:decide ((8:Int)<x2)=false:=decide_eq_false (hg▸hb);obtain⟨sb,so,cap,hav,hcl⟩:∃sb so cap,av=.slice (some ⟨sb,so,none⟩) ds.length cap∧∀w',Mod [] w w'→w'.cell? ⟨sb,so+2,none⟩=some (.int .u64 x2):=by
   rcases hA with⟨_,rfl⟩|⟨sb,so,cap,rfl,h2,h3,h4⟩
   ·cases hx2
   ·obtain⟨hj,rfl⟩:=List.getElem?_eq_some_iff.1 hx2;exact⟨sb,so,cap,rfl,fun w' hm=>(Ty.bg hm h2 (by simp)).trans (h4 2 hj).1⟩
  have hcl:=zh hcl;have hlt2:(2:Int)<ds.length:=by simp only[cw]at hl;omega
  generalize(ds.length:Nat)=L at*;have har:=zh (ng (k:=5) (by omega) w);rw[show cw 5=L from hl.symm]at har;subst hav;clear hb hx2 hg hl hA;go_enter Tryz.func8,Tryz.ntmps8;go_wp2_with fail;refine har.out.mono ?_;rintro e w1 ⟨rfl,hm1⟩;have hop2:=hop.out _ w1.heap.size (hm1.alloc (.cells #[.pointer (some ⟨a.hb,0,none⟩),.int .i64 p,.slice ta tm tc,.slice (some ⟨sb,so,none⟩) L cap,.int .u64 d] 82)) ((hSH.out.then hm1).alloc (.cells #[.pointer (some ⟨a.hb,0,none⟩),.int .i64 p,.slice ta tm tc,.slice (some ⟨sb,so,none⟩) L cap,.int .u64 d] 82)).swap;have hop2:=zh hop2;have hcc:=hcl.out _ hm1;clear hSH hm1 hop;go_wp2_with fail;refine hop2.out.mono ?_;rintro e w2 ⟨rfl,hS2⟩;have hS2:=zh (hS2.erase 1);clear hop2;by_cases he:r2=0
  ·have h1:(r2==0)=true:=by simp[he]
   subst he;go_wp2_with fail;go_ret2;exact⟨rfl,hS2.out⟩
  ·have h1:(r2==0)=false:=by simp[he]
   have h2:(r2 != 0)=true:=by simp[he]
   have hz:=hz.out he;subst hz;clear he;go_wp2_with fail;go_ret2;exact⟨rfl,hS2.out⟩
 by_cases h6:k=6
 ·subst h6;have hb:¬8<ds.getD 2 0:=fun h=>hb ⟨.inr rfl,h⟩
  obtain⟨x2,hx2⟩:∃x,ds[2]? =some x:=⟨ds[2]'(by simp only[cw]at hl;omega),List.getElem?_eq_getElem _⟩;have hg:ds.getD 2 0=x2:=by rw[List.getD_eq_getElem?_getD,hx2];rfl
  have hmd:decide ((8:Int)<x2)=false:=decide_eq_false (hg▸hb);obtain⟨sb,so,cap,hav,hcl⟩:∃sb so cap,av=.slice (some ⟨sb,so,none⟩) ds.length cap∧∀w',Mod [] w w'→w'.cell? ⟨sb,so+2,none⟩=some (.int .u64 x2):=by
   rcases hA with⟨_,rfl⟩|⟨sb,so,cap,rfl,h2,h3,h4⟩
   ·cases hx2
   ·obtain⟨hj,rfl⟩:=List.getElem?_eq_some_iff.1 hx2;exact⟨sb,so,cap,rfl,fun w' hm=>(Ty.bg hm h2 (by simp)).trans (h4 2 hj).1⟩
  have hcl:=zh hcl;have hlt2:(2:Int)<ds.length:=by simp only[cw]at hl;omega
  generalize(ds.length:Nat)=L at*;have har:=zh (ng (k:=6) (by omega) w);rw[show cw 6=L from hl.symm]at har;subst hav;clear hb hx2 hg hl hA;go_enter Tryz.func8,Tryz.ntmps8;go_wp2_with fail;refine har.out.mono ?_;rintro e w1 ⟨rfl,hm1⟩;have hop2:=hop.out _ w1.heap.size (hm1.alloc (.cells #[.pointer (some ⟨a.hb,0,none⟩),.int .i64 p,.slice ta tm tc,.slice (some ⟨sb,so,none⟩) L cap,.int .u64 d] 82)) ((hSH.out.then hm1).alloc (.cells #[.pointer (some ⟨a.hb,0,none⟩),.int .i64 p,.slice ta tm tc,.slice (some ⟨sb,so,none⟩) L cap,.int .u64 d] 82)).swap;have hop2:=zh hop2;have hcc:=hcl.out _ hm1;clear hSH hm1 hop;go_wp2_with fail;refine hop2.out.mono ?_;rintro e w2 ⟨rfl,hS2⟩;have hS2:=zh (hS2.erase 1);clear hop2;by_cases he:r2=0
  ·have h1:(r2==0)=true:=by simp[he]
   subst he;go_wp2_with fail;go_ret2;exact⟨rfl,hS2.out⟩
  ·have h1:(r2==0)=false:=by simp[he]
   have h2:(r2 != 0)=true:=by simp[he]
   have hz:=hz.out he;subst hz;clear he;go_wp2_with fail;go_ret2;exact⟨rfl,hS2.out⟩
 have z5:(k==5)=false:=by simp only[beq_eq_false_iff_ne];exact h5
 have z6:(k==6)=false:=by simp only[beq_eq_false_iff_ne];exact h6
 have har:=zh (ng hk' w);rw[←hl]at har;obtain⟨aa,am,ac,rfl⟩:=hA.slice;generalize(ds.length:Nat)=L at*;clear hb h5 h6 hk' hl hA;go_enter Tryz.func8,Tryz.ntmps8;go_wp2_with fail;refine har.out.mono ?_;rintro e w1 ⟨rfl,hm1⟩;have hop2:=hop.out _ w1.heap.size (hm1.alloc (.cells #[.pointer (some ⟨a.hb,0,none⟩),.int .i64 p,.slice ta tm tc,.slice aa am ac,.int .u64 d] 82)) ((hSH.out.then hm1).alloc (.cells #[.pointer (some ⟨a.hb,0,none⟩),.int .i64 p,.slice ta tm tc,.slice aa am ac,.int .u64 d] 82)).swap;have hop2:=zh hop2
 skip
 clear hSH hm1 hop;go_wp2_with fail;refine hop2.out.mono ?_;rintro e w2 ⟨rfl,hS2⟩;have hS2:=zh (hS2.erase 1);clear hop2;by_cases he:r2=0
 ·have h1:(r2==0)=true:=by simp[he]
  subst he;go_wp2_with fail;go_ret2;exact⟨rfl,hS2.out⟩
 ·have h1:(r2==0)=false:=by simp[he]
  have h2:(r2 != 0)=true:=by simp[he]
  have hz:=hz.out he;subst hz;clear he;go_wp2_with fail;go_ret2;exact⟨rfl,hS2.out⟩
end
noncomputable def nK (c:HC) (s:HS) (p t d k:Int) (ds:List Int):Int×Int×HS:=
 let x:=fun i=>ds.getD i 0
 if k=1 then(iU c s p t d,gd c s p t d)else if k=2 then(0,mx c s p (x 0))else if k=3 then(kP c s p (x 0) (aA (x 1)),jR c s p (x 0) (aA (x 1)))
 else if k=4 then(0,mH c s p (x 0) (aA (x 1)) (x 2))else if k=5 then(ch (fJ c s p (x 0) (aA (x 1)) (x 2)),fK c s p (x 0) (aA (x 1)) (x 2))
 else if k=6 then(0,fZ c s p (x 0) (aA (x 1)) (aX (x 3) (x 2).toNat))else if k=7 then(0,mz c s p (x 0) (aA (x 1)) (x 2) (aA (x 3)) (aA (x 4)))
 else if k=8 then(0,l6 c s p (x 0) (aA (x 1)))else if k=9 then(0,mn c s p (x 0) (aA (x 1)))else if k=10 then(0,mw c s p (x 0) (aA (x 1)))else(0,ma c s p (x 0))
theorem tS {l:List Int} (h:(l.length:Int)=1):∃x0,l=[x0]:=by
 match l,h with
 | [x0],_=>exact⟨_,rfl⟩
theorem qM {l:List Int} (h:(l.length:Int)=2):∃x0 x1,l=[x0,x1]:=by
 match l,h with
 | [x0,x1],_=>exact⟨_,_,rfl⟩
theorem zx {l:List Int} (h:(l.length:Int)=3):∃x0 x1 x2,l=[x0,x1,x2]:=by
 match l,h with
 | [x0,x1,x2],_=>exact⟨_,_,_,rfl⟩
theorem Hm {l:List Int} (h:(l.length:Int)=4):∃x0 x1 x2 x3,l=[x0,x1,x2,x3]:=by
 match l,h with
 | [x0,x1,x2,x3],_=>exact⟨_,_,_,_,rfl⟩
theorem Hn {l:List Int} (h:(l.length:Int)=5):∃x0 x1 x2 x3 x4,l=[x0,x1,x2,x3,x4]:=by
 match l,h with
 | [x0,x1,x2,x3,x4],_=>exact⟨_,_,_,_,_,rfl⟩
theorem EP {k:Int} {ds:List Int} (h:iz k ds=0):(1≤k∧k≤11)∧(ds.length:Int)=cw k∧((k=5∨k=6)→ds.getD 2 0≤8):=by
 unfold iz at h;by_cases h1:k<1∨11<k
 ·rw[if_pos h1]at h;cases h
 rw[if_neg h1]at h;by_cases h2:(ds.length:Int)≠cw k
 ·rw[if_pos h2]at h;cases h
 rw[if_neg h2]at h;by_cases h3:(k=5∨k=6)∧8<ds.getD 2 0
 ·rw[if_pos h3]at h;cases h
 ·exact⟨by omega,Classical.not_not.1 h2,fun h4=>by have:¬8<ds.getD 2 0:=fun h5=>h3 ⟨h4,h5⟩;omega⟩
section
variable {F:List Nat} {W w:World} {cs:List ai} {a:HA} {c:HC} {k0:Nat} {s:HS} {p d:Int} {tv av:Value} {ds ts:List Int}
theorem tw {k:Int} (hc:c.Ok) (hI:az c k0 s) (hk:k0≤900) (hst:s.st p=1) (d0:0≤d) (d1:d≤18446744073709551615) (hr:w.ownsRow 0 3 1 tv ts.length (ts.map (.int .i64))) (hA:cR w av ds) (hsep:k=4→∀sb so m cap,av=.slice (some ⟨sb,so,none⟩) m cap→sb<W.heap.size∧sb∉F) (he:iz k ds=0) (hS:af F W (aB a c s::cs) w):
  Calls Tryz.prog 8 #[.pointer (some ⟨a.hb,0,none⟩),.int .i64 p,tv,.int .i64 k,av,.int .u64 d] w fun e w'=>e=.returned (.tuple #[.int .u64 (nK c s p (kn ts (aA (ds.getD 0 0))) d k ds).1,.int .i64 (nK c s p (kn ts (aA (ds.getD 0 0))) d k ds).2.1])∧
   af F W (aB a c (nK c s p (kn ts (aA (ds.getD 0 0))) d k ds).2.2::cs) w':=by
 obtain⟨hk1,hl,hb⟩:=EP he;obtain⟨ta,tm,tc,rfl⟩:=cx hr;rcases tI hk1 with rfl|rfl|rfl|rfl|rfl|rfl|rfl|rfl|rfl|rfl|rfl
 ·obtain⟨x0,rfl⟩:=tS hl;exact jN hA he (fun h=>if_neg h) hS fun w' cb hm h=>CK hc hI hk d0 d1 hst (aG hr hm (by simp)) (hA.mod hm) h
 ·obtain⟨x0,rfl⟩:=tS hl;exact jN hA he (fun _=>rfl) hS fun w' cb hm h=>E6 hc hI hk (hA.mod hm) h
 ·obtain⟨x0,x1,rfl⟩:=qM hl;exact jN hA he (fun h=>if_neg h) hS fun w' cb hm h=>FL hc hI hk (hA.mod hm) h
 ·obtain⟨x0,x1,x2,rfl⟩:=zx hl;exact jN hA he (fun _=>rfl) hS fun w' cb hm h=>FX hc hI hk (hA.mod hm) (hsep rfl) h
 ·obtain⟨x0,x1,x2,rfl⟩:=zx hl;have h0:=(hA.pos (j:=2) rfl).1;have h8:x2≤8:=hb (.inl rfl);obtain⟨m,rfl⟩:=Int.eq_ofNat_of_zero_le h0;refine jN hA he (fun h=> ?_) hS fun w' cb hm h=>Ey hc hI hk (by omega) (hA.mod hm) h
  show ch (fJ c s p x0 (aA x1) m)=0;unfold fJ;rw[if_neg (show¬(fK c s p x0 (aA x1) m).1=0 from h)];rfl
 ·obtain⟨x0,x1,x2,x3,rfl⟩:=Hm hl;have h0:=(hA.pos (j:=2) rfl).1;have h8:x2≤8:=hb (.inr rfl);obtain⟨m,rfl⟩:=Int.eq_ofNat_of_zero_le h0;exact jN hA he (fun _=>rfl) hS fun w' cb hm h=>Dd hc hI hk (m:=m) (by omega) (hA.mod hm) h
 ·obtain⟨x0,x1,x2,x3,x4,rfl⟩:=Hn hl;exact jN hA he (fun _=>rfl) hS fun w' cb hm h=>DT hc hI hk (hA.mod hm) h
 ·obtain⟨x0,x1,rfl⟩:=qM hl;exact jN hA he (fun _=>rfl) hS fun w' cb hm h=>Ad hc hI hk (hA.mod hm) h
 ·obtain⟨x0,x1,rfl⟩:=qM hl;exact jN hA he (fun _=>rfl) hS fun w' cb hm h=>Cy hc hI hk (hA.mod hm) h
 ·obtain⟨x0,x1,rfl⟩:=qM hl;exact jN hA he (fun _=>rfl) hS fun w' cb hm h=>DX hc hI hk (hA.mod hm) h
 ·obtain⟨x0,rfl⟩:=tS hl;exact jN hA he (fun _=>rfl) hS fun w' cb hm h=>AM hc hI hk (hA.mod hm) h
end
end Go.Proofs.YtdehaommhbjakaaGreat
