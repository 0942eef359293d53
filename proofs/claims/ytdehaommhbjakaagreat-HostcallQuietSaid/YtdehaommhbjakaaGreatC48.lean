/- Joined contracts. No conditions. -/
import Derived.Test.YtdehaommhbjakaaGreatC47
set_option maxHeartbeats 8000000
set_option maxRecDepth 20000
namespace Go.Proofs.YtdehaommhbjakaaGreat
open RowKit Stg
open Ty (aw ax)
section
variable {F:List Nat} {W w:World} {cs:List ai} {a:HA} {c:HC} {s:HS}
theorem vy (hS:af F W (aB a c s::cs) w) (len:Int) (v:Value) (fs:List Ty.aM) (hF:aw w v fs) (hn: -9223372036854775808≤len) (hn2:len≤9223372036854775807):
  Calls Tryz.prog 11 #[.pointer (some ⟨a.hb,0,none⟩),.agg #[.int .i64 len,v]] w fun e w'=>e=.returned (.tuple #[.int .i64 (Ty.kg s.R (len,fs)),.int .i64 (Ty.iW s.R (len,fs))])∧af F W (aB a c (iO s (len,fs))::cs) w':=by
 obtain⟨va,vl,vc,rfl⟩:=Ty.aw.slice hF;obtain⟨B,hB,hS0⟩:=eE hS;have hBH:=zh hB;have hFH:=zh hF;have hwk:=zh fun w' (hm:Mod [] w w')=>oD (hm.at (hS0.block 0 rfl) (by simp))
 have hm0:=zh ((Mod.refl [] w).alloc (.cells #[.int .i64 len,.slice va vl vc] 54));have hS1:=zh ((hS0.alloc (.cells #[.int .i64 len,.slice va vl vc] 54)));have hnH:=zh (And.intro hn hn2);clear hS hS0 hB hF hn hn2;go_enter Tryz.func11,Tryz.ntmps11;go_wp2_with fail;refine(hwk.out _ hm0.out).mono ?_;rintro e w1 ⟨rfl,hm⟩;have hS2:=zh (hS1.out.then hm);have hm1:=zh (hm0.out.ag hm);clear hwk hS1 hm0 hm;go_wp2_with fail;generalize w.heap.size=bx at*;obtain⟨fa,hl,hput,hne⟩:=hS2.out.dJ 3 rfl;have k1:=GW.cells (S:=fa) (hS2.out.block 1 rfl) (hne 1 _ _ rfl);have k2:=GW.cells (S:=fa) (hS2.out.block 0 rfl) (hne 0 _ _ rfl);have hlH:=zh fun w' (hm:Mod [] w1 w')=>Ty.Am (hl w' hm) len (.slice va vl vc) fs ((hFH.out.mod hm1.out).mod hm) hnH.out.1 hnH.out.2
 have hputH:=zh hput;clear hl hput hne;refine bV fa (by kernel_rfl) (by kernel_rfl) ?_;refine sq 5 ?_;refine cE 37 #[.pointer (some ⟨a.rt,0,none⟩),.agg #[.int .i64 len,.slice va vl vc]] (.tuple #[.int .i64 (Ty.kg s.R (len,fs)),.int .i64 (Ty.iW s.R (len,fs))]) rfl Tryz.call37 rfl rfl hlH.out ?_;refine sq 4 ?_;refine au fun w2 aP=> ?_
 have hS3:=zh (hputH.out w2 _ aP);clear k1 k2 hlH hputH aP hS2;go_wp2_with fail;go_ret2;refine⟨rfl,?_⟩;exact cz (s:=iO s (len,fs)) (B:=B) hBH.out (hS3.out.erase 0)
def tT (c:HC) (s:HS) (p:Int):Array Value:=#[.int .i64 (aF c s p).b,.int .i64 (aF c s p).o,.int .i64 (aF c s p).r,.int .i64 (b5 s.evs p),.int .i64 (gO s.miss p)]
theorem wA (hS:af F W (aB a c s::cs) w) (p:Int):Calls Tryz.prog 7 #[.pointer (some ⟨a.hb,0,none⟩),.int .i64 p] w fun e w'=>e=.returned (.agg (tT c s p))∧Mod [] w w':=by
 obtain⟨B,hB,hS0⟩:=eE hS;have hwk:=zh fun w' (hm:Mod [] w w')=>oD (hm.at (hS0.block 0 rfl) (by simp))
 have hmg:=zh fun w' (hm:Mod [] w w')=>FU ((hS0.then hm).part 5 rfl).choose_spec.1 p
 have hre:=zh fun w' (hm:Mod [] w w')=>vz ((hS0.then hm).part 6 rfl).choose_spec.1 p
 have hmi:=zh fun w' (hm:Mod [] w w')=>Cu ((hS0.then hm).part 6 rfl).choose_spec.1 p
 have hm0:=zh ((Mod.refl [] w).alloc (.cells #[.int .i64 0,.int .i64 0,.int .i64 0,.int .i64 0,.int .i64 0] 34));have hS1:=zh (hS0.alloc (.cells #[.int .i64 0,.int .i64 0,.int .i64 0,.int .i64 0,.int .i64 0] 34));unfold tT;generalize aF c s p=q at*;generalize b5 s.evs p=x1 at*;generalize gO s.miss p=x2 at*;obtain⟨qb,qo,qr⟩:=q;simp only at hmg⊢;clear hS hS0 hB;go_enter Tryz.func7,Tryz.ntmps7;go_wp2_with fail;refine(hwk.out _ hm0.out).mono ?_;rintro e w1 ⟨rfl,hm⟩;have hS2:=zh (hS1.out.then hm);have hm1:=zh (hm0.out.ag hm);have c1:=ae (hS2.out.block 1 rfl);clear hwk hS1 hm0 hm;go_wp2_with fail;refine(hmg.out _ hm1.out).mono ?_;rintro e w2 ⟨rfl,hm⟩;have hS3:=zh ((hS2.out.then hm).alloc (.cells #[.int .i64 qb,.int .i64 qo,.int .i64 qr] 45));have hm2:=zh ((hm1.out.ag hm).alloc (.cells #[.int .i64 qb,.int .i64 qo,.int .i64 qr] 45));clear hmg hS2 hm1 hm c1;go_wp2_with fail;generalize w2.alloc (.cells #[.int .i64 qb,.int .i64 qo,.int .i64 qr] 45)=W4 at*;generalize hR:w.heap.size=R at*;generalize w2.heap.size=Q at*;obtain⟨fv,⟨hbv,rfl⟩,hput,hne⟩:=hS3.out.mD 1 rfl;have k1:=GW.cells (S:=[R]) (hS3.out.block 0 rfl) (hne 0 _ _ rfl);have k2:=GW.cells (S:=[R]) (hS3.out.block 2 rfl) (hne 1 _ _ rfl);have hre:=zh fun w' (hm:Mod [] W4 w')=>(show Calls Tryz.prog 23 #[.pointer (some ⟨a.gb,0,none⟩),.int .i64 p] w' (fun e w''=>e=.returned (.int .i64 x1)∧Mod [] w' w'')from(hre.out w' (hm2.out.ag hm)).mono fun e w'' h=>⟨h.1,by rw[h.2];exact Mod.refl _ _⟩)
 have hmi:=zh fun w' (hm:Mod [] W4 w')=>(show Calls Tryz.prog 24 #[.pointer (some ⟨a.gb,0,none⟩),.int .i64 p] w' (fun e w''=>e=.returned (.int .i64 x2)∧Mod [] w' w'')from(hmi.out w' (hm2.out.ag hm)).mono fun e w'' h=>⟨h.1,by rw[h.2];exact Mod.refl _ _⟩)
 have hbvH:=zh hbv;have hRH:=zh hR;clear hput hne hbv hR;refine bV [R] (by kernel_rfl) (by kernel_rfl) ?_;refine sq 11 ?_;refine cX 23 #[.pointer (some ⟨a.gb,0,none⟩),.int .i64 p] (.int .i64 x1) rfl Tryz.call23 rfl rfl hre.out ?_;refine sq 5 ?_;refine cX 24 #[.pointer (some ⟨a.gb,0,none⟩),.int .i64 p] (.int .i64 x2) rfl Tryz.call24 rfl rfl hmi.out ?_;refine sq 1 ?_;refine cQ (p:=⟨R,0,none⟩) (u:=.agg #[.int .i64 qb,.int .i64 qo,.int .i64 qr,.int .i64 x1,.int .i64 x2]) (fun w'=>w'.setCells R 0 #[.int .i64 qb,.int .i64 qo,.int .i64 qr,.int .i64 x1,.int .i64 x2].toList) (fun w'=>Mod [] w w'∧w'.heap[R]? =some (.cells #[.int .i64 qb,.int .i64 qo,.int .i64 qr,.int .i64 x1,.int .i64 x2] 34 (0,0))∧Mod [R] W4 w') rfl rfl rfl rfl rfl (fun w' hw=> ?_) (fun w' hw=> ?_) (fun w' h=>ah.of h.2.2) ?_
 ·exact run_storeAt_mid (P:=Tryz.prog) w' R 0 34 #[.int .i64 qb,.int .i64 qo,.int .i64 qr,.int .i64 x1,.int .i64 x2] (eC (hw.at hbvH.out (by simp)) rfl) (by kernel_rfl) (by simp[Value.oneCell'])
 ·exact⟨Mod.setCells (.inr (by rw[hRH.out];exact Nat.le_refl _)) _ _ _ (hm2.out.ag hw),dK (hw.at hbvH.out (by simp)) rfl,Mod.setCells (.inl (by simp)) _ _ _ (hw.mono (by simp))⟩
 refine au fun w5 hw5=> ?_
 have h5:=zh hw5.1;have h6:=zh hw5.2.1;clear k1 k2 hre hmi hw5 hS3 hm2;go_wp2_with fail;refine bodyPost_ret (results_cell_row Tryz.results7 _ _ R 34 _ _ _ rfl h6.out Tryz.underlying34 rfl (by kernel_rfl)) rfl ?_;exact⟨rfl,h5.out⟩
theorem DN (hb:w.heap[a.hb]? =some (jX a)):Calls Tryz.prog 19 #[.pointer (some ⟨a.hb,0,none⟩)] w fun e w'=>e=.returned (.pointer (some ⟨a.gb,0,none⟩))∧Mod [] w w':=by
 have hwk:=zh (oD hb);have hbH:=zh hb;clear hb;go_enter Tryz.func19,Tryz.ntmps19;go_wp2_with fail;refine hwk.out.mono ?_;rintro e w1 ⟨rfl,hm⟩;have c1:=ae (hm.at hbH.out (by simp));have hmH:=zh hm;clear hwk hm hbH;go_wp2_with fail;go_ret;exact⟨rfl,hmH.out⟩
theorem vf (hS:af F W (aB a c s::cs) w):Calls Tryz.prog 6 #[.pointer (some ⟨a.hb,0,none⟩)] w fun e w'=>e=.returned (.int .u64 (ir s.evs))∧Mod [] w w':=by
 have hau:=zh (DN ((eE hS).choose_spec.2.block 0 rfl));have hSH:=zh hS;clear hS;go_enter Tryz.func6,Tryz.ntmps6;go_wp2_with fail;refine hau.out.mono ?_;rintro e w1 ⟨rfl,hm⟩;obtain⟨B,hB,hS1⟩:=eE (hSH.out.then hm);have hdg:=zh (Dl (hS1.part 6 rfl).choose_spec.1);have hmH:=zh hm;clear hau hm hS1 hB hSH;go_wp2_with fail;refine hdg.out.mono ?_;rintro e w2 ⟨rfl,rfl⟩;clear hdg;go_wp2_with fail;go_ret;exact⟨rfl,hmH.out⟩
end
end Go.Proofs.YtdehaommhbjakaaGreat
namespace Go.Proofs.YtdehaommhbjakaaGreat
open RowKit Stg
attribute [local go_sem] Oper.semAt_some
abbrev ue:=(Int×Tb.bP)×Value×Value
def nD (s:HS) (q:Nat) (W:World) (x:ue):Prop:=
 W.ownsRow q 5 1 x.2.1 (bH s x.1.1.toNat).length (aR (bH s x.1.1.toNat))∧W.ownsRow q 222 4 x.2.2 (Bw.aW s.L x.1.1).length (flat Bw.cZ (Bw.aW s.L x.1.1))
theorem nD.mod {s:HS} {q:Nat} {W W':World} {x:ue} (h:nD s q W x) (hm:Mod [] W W'):nD s q W' x:=⟨aG h.1 hm (by simp),aG h.2 hm (by simp)⟩
theorem nD.grown {s:HS} {q:Nat} {W W':World} {x:ue} {row:Option Nat} (h:nD s q W x) (hg:W.grownBy W' row) (hr:∀r,row=some r→∃o:Obj,W.heap[r]? =some o∧∀cs fr,o≠ .cells cs 5 fr∧o≠ .cells cs 222 fr):nD s q W' x:=by
 refine⟨Tb.sP h.1 fun g cs fr hg' hc=> ?_,Tb.sP h.2 fun g cs fr hg' hc=> ?_⟩
 ·refine(hg.block g (aL hc) fun e=> ?_).trans hc;obtain⟨o,ho,hno⟩:=hr g e.symm;rw[hc]at ho;cases ho;exact(hno _ _).1 rfl
 ·refine(hg.block g (aL hc) fun e=> ?_).trans hc;obtain⟨o,ho,hno⟩:=hr g e.symm;rw[hc]at ho;cases ho;exact(hno _ _).2 rfl
end Go.Proofs.YtdehaommhbjakaaGreat
namespace Go.Proofs.YtdehaommhbjakaaGreat
open RowKit Stg
section
variable {c:HC} {k:Nat} {s:HS}
theorem Ab {p:Int} (h1:1≤p) (h2:p≤64) (h:s.st p=0):(fw s p).1=0∧(fw s p).2.st p=1∧(fw s p).2.R=s.R:=by
 unfold fw;rw[if_neg (by omega),if_neg (by rw[h];simp)];refine⟨rfl,?_,rfl⟩;simp[eJ]
theorem Et (R:List Ty.Ty) (t:Ty.Ty):(Ty.da R t).length≤R.length+1:=by unfold Ty.da;split<;>simp
end
end Go.Proofs.YtdehaommhbjakaaGreat
namespace Go.Proofs.YtdehaommhbjakaaGreat
open RowKit Stg
def jl (s:HS):Nat→HS
 |0=>s
 |k+1=>(fw (jl s k) (k+1)).2
theorem vJ {s:HS} (h:∀q,s.st q=0):∀k:Nat,k≤64→(∀q:Int,1≤q→q≤k→(jl s k).st q=1)∧∀q:Int,(k:Int)<q→(jl s k).st q=0
 |0,_=>⟨fun q h1 h2=>by omega,fun q _=>h q⟩
 |k+1,hk=>by
  obtain⟨h1,h2⟩:=vJ h k (by omega);have h0:=h2 ((k:Int)+1) (by omega);have e:(jl s (k+1)).st=eJ (jl s k).st ((k:Int)+1) 1:=by
   show(fw (jl s k) (k+1)).2.st=_;unfold fw;rw[if_neg (by omega),if_neg (by rw[h0];simp)]
  rw[e];refine⟨fun q q1 q2=> ?_,fun q q1=> ?_⟩
  ·unfold eJ;split
   ·rfl
   ·exact h1 q q1 (by omega)
  ·unfold eJ;rw[if_neg (by omega)];exact h2 q (by omega)
theorem vi {c:HC} {s:HS} (hI:az c 0 s):∀k:Nat,az c k (jl s k)
 |0=>hI
 |k+1=>wj (vi hI k) _
theorem CV (s:HS) (L:List Ty.Ty):(dQ s L).st=s.st:=by
 unfold dQ
 induction L generalizing s with
 |nil=>rfl
 |cons t L ih=>exact(ih (iO s t)).trans rfl
theorem BO (s:HS) (L:List Ty.Ty):(dQ s L).R.length≤s.R.length+L.length:=by
 unfold dQ
 induction L generalizing s with
 |nil=>exact Nat.le_refl _
 |cons t L ih=>
  have h1:=ih (iO s t);have h2:(iO s t).R.length≤s.R.length+1:=Et s.R t;simp only[List.foldl_cons,List.length_cons];omega
theorem GG:(Tryz.prog.info? 3).map (fun i=>(i.zero,i.size,i.bytes))=some (some (.int .i64 0),1,8):=by kernel_rfl
theorem Ak {fn:Func} {t u v x:Tmp} (h:fn.results=#[.tmp t,.tmp u,.tmp v,.tmp x]) (tmps:Array Value) (P:Program) (w:World):
  (results fn tmps).run P w=.ok (.tuple #[tmps.getD t undef,tmps.getD u undef,tmps.getD v undef,tmps.getD x undef]) w:=by
 simp[results,h]
structure zq (c:HC) (s:HS):Prop where
 ok:c.Ok
 inv:az c 3 s
 st:∀p:Int,1≤p→p≤3→s.st p=1
theorem Ff {W w:World} (hM:Mod [] W w) (cv tv:Value) (xs ys:List Int) (hx:Ty.eQ W cv xs) (hy:Ty.eQ W tv ys):
  Calls Tryz.prog 5 #[cv,tv] w fun e w'=>∃(a:HA) (ra:RA) (c:HC) (s:HS) (gv:Value) (ts:List Int) (es:List ai),e=.returned (.tuple #[.pointer (some ⟨a.hb,0,none⟩),.pointer (some ⟨ra.rb,0,none⟩),gv,.bool true])∧zq c s∧ts.length=3∧
   af [] W (aB a c s::gV ra c s::aT gv ts.length 3 1 (ts.map (.int .i64))::es) w':=by
 have hxH:=zh hx;have hyH:=zh hy;have hSH:=zh ((af.empty W).then hM);clear hx hy hM;go_enter Tryz.func5,Tryz.ntmps5;go_wp2_with fail;refine(Ty.zj hSH.out cv xs 12 (by omega) (hxH.out.mod hSH.out.mod (by simp))).mono ?_;rintro e w2 ⟨tc,A0,B0,rfl,hS2⟩;have hS2:=zh hS2;clear hSH;go_wp2_with fail;refine(DA hS2.out (by omega)).mono ?_;rintro e w3 ⟨cf,rfl,hcm,hS3⟩;have hS3:=zh (hS3.alloc (.cells (iA cf) 47));have hcR:(0≤cf.first∧cf.first≤4294967295)∧(cf.b≤9223372036854775807∧cf.o≤9223372036854775807∧cf.r≤9223372036854775807):=by unfold iX at hcm;omega
 have hnew:=zh fun w' cs (h:af [] W cs w')=>yJ h cf hcm.ok hcR.1 hcR.2
 have hmk:=zh fun w' ds qs sb L (h:af [] W (ds++qs) w') hL hT=>En h cf hcm.ok hcR.1 hcR.2 (sb:=sb) (L:=L) hL hT
 have hcO:=oL hcm.ok hcR.1 hcR.2;clear hS2 hcm hcR;generalize eZ cf=c at*;have hI0:=sZ hcO;obtain⟨n,size,first,cap,b,o,r,cA,stack⟩:=cf;unfold iA at hS3 hnew hmk⊢;simp only at hS3 hnew hmk⊢;go_wp2_with fail;refine(hnew.out _ _ hS3.out).mono ?_;rintro e w4 ⟨a,rfl,hS4⟩;have hS4:=zh hS4;clear hS3 hnew;go_wp2_with fail;refine(Ty.zj hS4.out tv ys 40 (by omega) (hyH.out.mod hS4.out.mod (by simp))).mono ?_;rintro e w5 ⟨tl,A,B,rfl,hS5⟩;have hS5:=zh hS5;clear hS4;go_wp2_with fail;refine(Ex hS5.out).mono ?_;rintro e w6 ⟨sb,L,ds,rfl,hL,hT,hS6⟩;have hT:=zh hT;have c1:=ae (hS6.block (ds.length+1) (by rw[List.getElem?_append_right (by omega),Nat.add_sub_cancel_left];rfl));have hS6:=zh hS6;clear hS5;go_wp2_with fail;refine(hmk.out _ ds _ sb L hS6.out hL hT.out).mono ?_;rintro e w7 ⟨ra,rfl,hS7⟩;have hS7:af [] W (aB a c (bL c)::((gV ra c (dQ (bL c) L)::ds)++_)) w7:=af.ahead (ds:=gV ra c (dQ (bL c) L)::ds) hS7;generalize hes:[aj w3.heap.size (.cells #[.int .i64 n,.int .i64 size,.int .u32 first,.int .i64 cap,.int .i64 b,.int .i64 o,.int .i64 r,.int .i64 cA,.int .i64 stack] 47 (0,0)),Ty.cO tc (0+12) A0 B0]=es at hS7;have hS7:=zh hS7;have hI1:=zh fun k=>uY hI0 (L.take k)
 have hst0:∀q,(dQ (bL c) L).st q=0:=fun q=>by rw[CV];rfl
 obtain⟨i0,hi0,hz0,hz1,hz2⟩:=info_parts GG;clear hS6 hmk c1 hes;go_wp2_with fail;go_loopw [14,13] (fun i g wr=>∃(k:Nat) (gv:Value) (ts:List Int),k≤3∧i=.int .i64 k∧g=gv∧ts.length=k∧af [] W (aB a c (dQ (bL c) (L.take k))::aT gv ts.length 3 1 (ts.map (.int .i64))::((gV ra c (dQ (bL c) L)::ds)++es)) wr) (fun i _ _=>3-(intOf i).toNat)
 case atStart=>
  exact⟨0,.slice none 0 0,[],by omega,rfl,rfl,rfl,(hS7.out.add (c:=aT (.slice none 0 0) 0 3 1 []) (f:=[]) (Mod.refl [] _) ⟨World.ownsRow_nil _ _ _ _,rfl⟩ (by simp)).swap⟩
 case round=>
  obtain⟨k,gv,ts,hk,rfl,rfl,hts,hS⟩:=hrel;have hb1:ts.length+1≤maxLen:=by unfold maxLen;omega
  have hb2:(ts.length+1)*8≤140737488355328:=by omega
  replace hts:=zh hts;clear hS7;by_cases hk3:k<3
  ·have hkL:k<L.length:=by omega
   obtain⟨j,xq,hj,hx⟩:=hT.out.aQ;obtain⟨ta,tm,tcc,q0,q1,q2⟩:=hx k hkL;have hb0:wr.heap[sb]? =some (.cells xq 54 (0,0)):=hS.block (j+3) ((List.getElem?_append_left (l₂:=es) (List.getElem?_eq_some_iff.1 hj).1).trans hj);have g0:wr.cell? ⟨sb,k*2,none⟩=some (.int .i64 L[k].1):=by rw[ae hb0];exact q0
   have g1:wr.cell? ⟨sb,k*2+1,none⟩=some (.slice ta tm tcc):=by rw[ae hb0];exact q1
   have hF:=q2 [_,_,_] es _ hS;have hMd:=hT.out.made L[k] (List.getElem_mem hkL);have hbd:=Ty.uK hMd;have hre:Ty.iW (dQ (bL c) (L.take k)).R L[k]=0:=EE hMd (by have h:=BO (bL c) (L.take k);rw[List.length_take]at h;have h0:(bL c).R.length=0:=rfl;omega);have hde:=zh (vy hS L[k].1 _ L[k].2 hF (by omega) (by omega));have hnx:=zh (uL (bL c) hkL);clear hS hj hx q0 q1 q2 hb0 hF hMd hbd;go_wp2_with fail;refine hde.out.mono ?_;rintro e w8 ⟨rfl,hS8⟩;rw[show(iO (dQ (bL c) (L.take k)) (L[k].1,L[k].2))=dQ (bL c) (L.take (k+1))from hnx.out.symm]at hS8;rw[show Ty.iW (dQ (bL c) (L.take k)).R (L[k].1,L[k].2)=0 from hre];generalize Ty.kg (dQ (bL c) (L.take k)).R (L[k].1,L[k].2)=tg at*;have hrow:=zh ((hS8.row 1 rfl).alloc (.cells #[.int .i64 tg] 3));have hnw:=zh (ny w8 (.int .i64 tg) 3);have hS9:=zh ((hS8.alloc (.cells #[.int .i64 tg] 3)).erase 0);obtain⟨ga,gl,gc,rfl⟩:=cx hrow.out;clear hS8 hde g0 g1 hre;go_wp2_with (at_builtin;refine dO _ rfl _ _ 28 rfl 3 i0 (.int .i64 0) 1 8 Tryz.underlying28 hi0 hz0 hz1 hz2 rfl (by decide) (.slice ga gl gc) ts.length _ rfl hrow.out ⟨w8.heap.size,0,none⟩ 1 1 [.int .i64 tg] rfl rfl hnw.out (by simp[Value.oneCell']) hb1 hb2 ?_;intro v' w9 hown hgrow hfr;obtain⟨gg,cg,rfl,_,_⟩:=cW hown (by omega);have hS10:=zh (hS9.out.grown 1 rfl hown hgrow hfr);clear hown hgrow hfr);go_roundw
   case rel=>exact⟨k+1,_,ts++[tg],by omega,by go_num,rfl,by simp[hts.out],by rw[List.length_append,List.map_append];exact hS10.out⟩
   case measure=>simp[intOf];omega
  ·have hd:decide ((k:Int)<3)=false:=by simp;omega
   rw[List.take_of_length_le (by omega)]at hS;have hk4:=zh (show k=3 by omega);clear hk hk3;have hIA:=hI1.out 3;rw[List.take_of_length_le (by omega)]at hIA;have hS:=zh hS;generalize dQ (bL c) L=s0 at*;obtain⟨ga,gl,gc,hgv⟩:=cx (hS.out.row 1 rfl);cases hgv;go_wp2_with fail;go_loopw [17] (fun i wr=>∃k:Nat,k≤3∧i=.int .i64 ((k:Int)+1)∧af [] W (aB a c (jl s0 k)::gV ra c (jl s0 k)::aT (.slice ga gl gc) ts.length 3 1 (ts.map (.int .i64))::(ds++es)) wr) (fun i _=>4-(intOf i).toNat)
   case atStart=>exact⟨0,by omega,rfl,hS.out.out 2 rfl |>.out 1 rfl⟩
   case round=>
    obtain⟨k,hk,rfl,hS'⟩:=hrel;clear hS;have hS:=zh hS';clear hS';have hIk:=vi hIA k;have hsN:=vJ hst0 k (by omega);by_cases hk3:k<3
    ·have hd:decide ((k:Int)+1≤3)=true:=by simp;omega
     have h1:=zh (xU hIk (by omega) (p:=(k:Int)+1) hS.out);have h2:=zh fun w' cs (h:af [] W (gV ra c (jl s0 k)::cs) w')=>Ct hIk (by omega) h ((k:Int)+1)
     rw[(Ab (p:=(k:Int)+1) (by omega) (by omega) (hsN.2 _ (by omega))).1]at h1 h2;clear hS hIk hsN;go_wp2_with fail;refine h1.out.mono ?_;rintro e w8 ⟨rfl,hS1⟩;have hS2:=zh hS1.swap;clear h1 hS1;go_wp2_with fail;refine(h2.out _ _ hS2.out).mono ?_;rintro e w9 ⟨rfl,hS3⟩;have hS4:=zh hS3.swap;clear h2 hS2 hS3;go_wp2_with fail;go_roundw
     case rel=>exact⟨k+1,by omega,by go_num,hS4.out⟩
     case measure=>simp[intOf];omega
    ·obtain rfl:k=3:=by omega
     have hB:zq c (jl s0 3):=⟨hcO,hIk,fun p h1 h2=>hsN.1 p h1 (by omega)⟩;have hts3:=hts.out.trans hk4.out;clear hsN hIk;go_wp2_with fail;refine bodyPost_ret (Ak rfl _ _ _) rfl ?_;exact⟨a,ra,c,jl s0 3,.slice ga gl gc,ts,ds++es,rfl,hB,hts3,hS.out⟩
end Go.Proofs.YtdehaommhbjakaaGreat
namespace Go.Proofs.YtdehaommhbjakaaGreat
open RowKit Stg
def kB (b:Bool):Cf:=if b then⟨1,64,1,20,64,2,0,1,0⟩else⟨1,64,1,99,64,1,0,1,0⟩
def je (b:Bool):Nat:=if b then 4 else 20
def qT (b:Bool):Ty.Ty:=(0,[(6,if b then 4 else 20)])
def cH (b:Bool):HC:=eZ (kB b)
def br (b:Bool):HS:=iO (bL (cH b)) (qT b)
def aP (b:Bool):HS:=(fw (br b) 1).2
def b9:Int:=72057594054705152
def tQ (b:Bool):HS:={aP b with T:=Tb.dp 1 (aP b).T 1 1 0 (if b then 16 else 32) 0,mem:=(aP b).mem.set (Tb.bT (aP b).T.g.F 0) (List.replicate (je b) 0)}
def cM (b:Bool):HS:=eK (cH b) (tQ b) ⟨1,1,b9,1,0⟩
theorem zf (b:Bool):bE (kB b):=by cases b<;>(unfold bE kB;simp)
theorem qF (b:Bool):(0≤(kB b).first∧(kB b).first≤4294967295)∧((kB b).b≤9223372036854775807∧(kB b).o≤9223372036854775807∧(kB b).r≤9223372036854775807):=by cases b<;>(unfold kB;simp)
theorem nt (b:Bool):(cH b).Ok:=oL (zf b) (qF b).1 (qF b).2
theorem zg (b:Bool):Ty.kg (bL (cH b)).R (qT b)=1∧Ty.iW (bL (cH b)).R (qT b)=0:=by cases b<;>exact⟨by kernel_rfl,by kernel_rfl⟩
theorem FI {c:HC} (hc:c.Ok) {s:HS} (h:iq c s=[]):im c s=dc 0 c.size:=by
 unfold im bA;rw[h];exact xG hc.s1
theorem yF (b:Bool):im (cH b) (aP b)=[(0,64)]:=by
 rw[FI (nt b) (by show iq (cH b) (bL (cH b))=[];exact oh (cH b))];cases b<;>kernel_rfl
theorem sw (b:Bool):cS (cH b) (aP b) 1 1=0:=by
 unfold cS;rw[yF];cases b<;>kernel_rfl
theorem CM (b:Bool):bJ (cH b) (aP b) 1=(0,if b then 16 else 32):=by
 unfold bJ;rw[yF];cases b<;>kernel_rfl
theorem vS (b:Bool):fM (cH b) (aP b) 1 1 0=b9:=by
 unfold fM;rw[if_pos (sw b)];cases b<;>kernel_rfl
theorem qe (b:Bool):gd (cH b) (aP b) 1 1 0=(0,cM b):=by
 have h1:df (cH b) (aP b) 1 1 0=tQ b:=by
  unfold df;rw[if_pos (sw b),CM];cases b<;>kernel_rfl
 have h2:act (cH b) (aP b) 1 1 b9 (u64 1) (0,tQ b)=(0,cM b):=by cases b<;>kernel_rfl
 unfold gd;rw[vS,sw,h1];exact h2
theorem Bm (b:Bool):iU (cH b) (aP b) 1 1 0=b9:=by
 unfold iU;rw[qe,if_pos rfl,vS]
theorem oq:0≤b9∧b9≤18446744073709551615:=by unfold b9;omega
theorem yI (b:Bool):az (cH b) 0 (br b):=inv_def (sZ (nt b)) (qT b)
theorem yX (b:Bool):az (cH b) 1 (aP b):=wj (yI b) 1
theorem yP (b:Bool):az (cH b) 3 (cM b):=by
 have:=Au (nt b) (yX b) 1 1 0;rw[qe]at this;exact this
structure Hw (b:Bool) (s:HS):Prop where
 R:s.R=(cM b).R
 T:s.T=(cM b).T
 L:s.L=(cM b).L
 st:s.st=(cM b).st
theorem zk (b:Bool):(cM b).st 1=1:=by cases b<;>kernel_rfl
theorem Fs (b:Bool):room (cH b) (cM b) 1=true:=by cases b<;>kernel_rfl
theorem y4 (b:Bool):aV (cM b) 1 b9 1=0∧aV (cM b) 1 b9 2=0:=by cases b<;>exact⟨by kernel_rfl,by kernel_rfl⟩
theorem yB (b:Bool):fQ (cM b) b9=je b:=by cases b<;>kernel_rfl
theorem xZ (b:Bool):dY (cM b) b9=List.replicate (je b) 0:=by cases b<;>kernel_rfl
theorem FA (b:Bool):(cM b).mem.length=1:=by cases b<;>kernel_rfl
theorem Hw.refl (b:Bool):Hw b (cM b):=⟨rfl,rfl,rfl,rfl⟩
theorem Hw.eK {b:Bool} {s:HS} (h:Hw b s) (c:HC) (e:Ev):Hw b (eK c s e):=by
 unfold Go.Proofs.YtdehaommhbjakaaGreat.eK;split<;>exact⟨h.R,h.T,h.L,h.st⟩
theorem Hw.acc {b:Bool} {s:HS} (h:Hw b s):aV s 1 b9 1=0∧aV s 1 b9 2=0:=by
 have e:∀a,aV s 1 b9 a=aV (cM b) 1 b9 a:=fun a=>by unfold aV a8;rw[h.T,h.L]
 rw[e,e];exact y4 b
theorem Hw.size {b:Bool} {s:HS} (h:Hw b s):fQ s b9=je b:=by
 rw[←yB b];unfold fQ bI ja a8;rw[h.T,h.R]
theorem sY (c:HC) (s:HS) (e:Ev):(eK c s e).mem=s.mem:=by
 unfold eK;split<;>rfl
theorem EO (b:Bool) (off:Int) (bs:List Int):
  (fZ (cH b) (cM b) 1 b9 off bs).1=(if cY off bs.length (je b)=false then 7 else 0)∧Hw b (fZ (cH b) (cM b) 1 b9 off bs).2∧
  dY (fZ (cH b) (cM b) 1 b9 off bs).2 b9=if cY off bs.length (je b)=false then List.replicate (je b) 0 else ca (List.replicate (je b) 0) off.toNat bs:=by
 unfold fZ act;rw[if_neg (by simp[zk]),if_neg (by simp[Fs])];unfold dX;rw[if_neg (by simp[(y4 b).2]),yB];split
 ·refine⟨rfl,(Hw.refl b).eK _ _,?_⟩;unfold dY bH;rw[sY];exact xZ b
 ·refine⟨rfl,Hw.eK (s:=dw (cM b) b9 off bs) ⟨rfl,rfl,rfl,rfl⟩ _ _,?_⟩;unfold dY bH;rw[sY];unfold dw;simp only;rw[List.getD_eq_getElem?_getD,List.getElem?_set_self (by rw[FA];decide)];simp only[Option.getD_some];rw[xZ]
theorem Hw.load {b:Bool} {s:HS} (h:Hw b s) (off n:Int):
  (fK (cH b) s 1 b9 off n).1=(if n<0 then 1 else if cY off n (je b)=false then 7 else 0)∧Hw b (fK (cH b) s 1 b9 off n).2∧dY (fK (cH b) s 1 b9 off n).2 b9=dY s b9:=by
 have hst:s.st 1=1:=by rw[h.st];exact zk b
 have hE:fx s 1 b9 off n=if n<0 then 1 else if cY off n (je b)=false then 7 else 0:=by
  unfold fx;rw[if_neg (by simp[h.acc.1]),h.size]
 unfold fK gB;rw[if_neg (by simp[hst]),hE];generalize(if n<0 then(1:Int)else if cY off n (je b)=false then 7 else 0)=e;split
 ·rename_i h0;exact⟨h0.symm,h,rfl⟩
 ·refine⟨rfl,h.eK _ _,?_⟩;unfold dY bH;rw[sY]
end Go.Proofs.YtdehaommhbjakaaGreat
namespace Go.Proofs.YtdehaommhbjakaaGreat
open RowKit Stg
theorem uT {w:World} {ab:Nat} {ds:List Int} {T:TypeId} (hb:w.heap[ab]? =some (.cells (ds.map (.int .u64)).toArray T (0,0))) (hl:ds.length≤maxLen) (hr:∀x∈ds,0≤x∧x≤18446744073709551615):cR w (.slice (some ⟨ab,0,none⟩) ds.length ds.length) ds:=by
 refine .inr ⟨ab,0,ds.length,rfl,aL hb,hl,fun i hi=>⟨?_,hr _ (List.getElem_mem hi)⟩⟩;rw[ae hb,Nat.zero_add];simp[hi]
theorem Hj {x0 x1 v:Int} {m:Nat} (h:m≤8):iz 6 [x0,x1,(m:Int),v]=0:=by
 unfold iz;rw[if_neg (by omega),if_neg (by simp[cw]),if_neg];rintro⟨_,h2⟩;have:(8:Int)<(m:Int):=h2;omega
section
variable {F:List Nat} {W w:World} {cs:List ai} {a:HA} {c:HC} {k:Nat} {s:HS}
theorem B8 (hc:c.Ok) (hI:az c k s) (hk:k≤900) {p d t:Int} (hst:s.st p=1) {ab tb:Nat} (d0:0≤d) (d1:d≤18446744073709551615) (he:(gd c s p t d).1=0)
  (hS:af F W (aB a c s::aj ab (.cells #[.int .u64 0] 31 (0,0))::aj tb (.cells #[.int .i64 t] 3 (0,0))::cs) w):
  Calls Tryz.prog 8 #[.pointer (some ⟨a.hb,0,none⟩),.int .i64 p,.slice (some ⟨tb,0,none⟩) 1 1,.int .i64 1,.slice (some ⟨ab,0,none⟩) 1 1,.int .u64 d] w fun e w'=>e=.returned (.tuple #[.int .u64 (iU c s p t d),.int .i64 0])∧
   af F W (aB a c (gd c s p t d).2::aj ab (.cells #[.int .u64 0] 31 (0,0))::aj tb (.cells #[.int .i64 t] 3 (0,0))::cs) w':=by
 have h:=tw (k:=1) (ts:=[t]) (ds:=[0]) (tv:=.slice (some ⟨tb,0,none⟩) 1 1) (av:=.slice (some ⟨ab,0,none⟩) 1 1) hc hI hk hst d0 d1
  ⟨rfl,.inr ⟨tb,1,_,rfl,Nat.zero_le _,hS.block 2 rfl,Nat.le_refl _,by simp[maxLen],rfl,rfl⟩⟩ (uT (ds:=[0]) (hS.block 1 rfl) (by simp[maxLen]) (by simp)) (fun h=>absurd h (by omega)) (by decide) hS
 refine h.mono ?_;rintro e w' ⟨rfl,h2⟩;have e1:nK c s p (kn [t] (aA (List.getD [0] 0 0))) d 1 [0]=(iU c s p t d,gd c s p t d):=rfl;rw[e1]at h2⊢;exact⟨by simp only[he],h2⟩
theorem BP (hc:c.Ok) (hI:az c k s) (hk:k≤900) {p d x0 x1 v:Int} {ab m:Nat} (hst:s.st p=1) (d0:0≤d) (d1:d≤18446744073709551615) (hm8:m≤8) (r0:0≤x0∧x0≤18446744073709551615) (r1:0≤x1∧x1≤18446744073709551615) (rv:0≤v∧v≤18446744073709551615)
  (hS:af F W (aB a c s::aj ab (.cells #[.int .u64 x0,.int .u64 x1,.int .u64 m,.int .u64 v] 31 (0,0))::cs) w):
  Calls Tryz.prog 8 #[.pointer (some ⟨a.hb,0,none⟩),.int .i64 p,.slice none 0 0,.int .i64 6,.slice (some ⟨ab,0,none⟩) 4 4,.int .u64 d] w fun e w'=>e=.returned (.tuple #[.int .u64 0,.int .i64 (fZ c s p x0 (aA x1) (aX v m)).1])∧
   af F W (aB a c (fZ c s p x0 (aA x1) (aX v m)).2::aj ab (.cells #[.int .u64 x0,.int .u64 x1,.int .u64 m,.int .u64 v] 31 (0,0))::cs) w':=by
 refine tw (k:=6) (ts:=[]) (ds:=[x0,x1,(m:Int),v]) (tv:=.slice none 0 0) hc hI hk hst d0 d1 (World.ownsRow_nil _ _ _ _) (uT (ds:=[x0,x1,(m:Int),v]) (hS.block 1 rfl) (by simp[maxLen]) ?_) (fun h=>absurd h (by omega)) (Hj hm8) hS;intro x hx;simp only[List.mem_cons,List.not_mem_nil,or_false]at hx;rcases hx with rfl|rfl|rfl|rfl
 ·exact r0
 ·exact r1
 ·omega
 ·exact rv
end
theorem EG (w:World):Calls Tryz.prog 4 #[] w fun e w'=>e=.returned (.bool true)∧Mod [] w w':=by
 have hnew0:=yJ (af.empty w) (kB true) (zf true) (qF true).1 (qF true).2;have hnew0:Calls Tryz.prog 10 #[.agg #[.int .i64 1,.int .i64 64,.int .u32 1,.int .i64 20,.int .i64 64,.int .i64 2,.int .i64 0,.int .i64 1,.int .i64 0]] w fun e w'=>∃a:HA,e=.returned (.tuple #[.pointer (some ⟨a.hb,0,none⟩),.int .i64 0])∧af [] w [aB a (cH true) (bL (cH true))] w':=hnew0
 have hnew:=zh hnew0;clear hnew0;go_enter Tryz.func4,Tryz.ntmps4;go_wp2_with fail;refine hnew.out.mono ?_;rintro e w1 ⟨a,rfl,hS⟩;have hS:=zh (hS.then ((Mod.refl [] w1).alloc (.cells #[.int .i64 6,.int .i64 4] 51)));have hF:=Ty.fG (an w1 (.cells #[.int .i64 6,.int .i64 4] 51));have hde:=zh (vy hS.out 0 _ _ hF (by omega) (by omega));clear hnew hF;go_wp2_with fail;refine hde.out.mono ?_;rintro e w2 ⟨rfl,hS2⟩;have hS2:af [] w [aB a (cH true) (br true)] w2:=hS2;have hS2:=zh hS2;clear hde hS;rw[show Ty.kg (bL (cH true)).R (0,[(6,4)])=1 from(zg true).1,show Ty.iW (bL (cH true)).R (0,[(6,4)])=0 from(zg true).2];go_wp2_with fail;refine(xU (s:=br true) (yI true) (by omega) hS2.out).mono ?_;rintro e w3 ⟨rfl,hS3⟩;have hS3:af [] w [aB a (cH true) (aP true)] w3:=hS3;have hS4:=((hS3.alloc (.cells #[.int .i64 1] 3)).alloc (.cells #[.int .u64 0] 31)).out 2 rfl;have hal:=B8 (nt true) (yX true) (by omega) (p:=1) (t:=1) (d:=0) rfl (by omega) (by omega) (by rw[qe]) hS4;rw[Bm,qe]at hal;have hal:=zh hal;clear hS2 hS3 hS4;go_wp2_with fail;have hal2:=hal.out;rw[World.size_alloc]at hal2;have hal2:=zh hal2;clear hal;refine hal2.out.mono ?_;rintro e w4 ⟨rfl,hS5⟩;have hS6:=(((hS5.erase 1).erase 1).alloc (.cells #[.int .u64 b9,.int .u64 1,.int .u64 2,.int .u64 66051] 31)).swap;have hst:=BP (nt true) (yP true) (by omega) (p:=1) (d:=0) (x0:=b9) (x1:=1) (v:=66051) (m:=2) rfl (by omega) (by omega) (by omega) oq (by omega) (by omega) hS6;obtain⟨t1,t2,t3⟩:=EO true 1 (aX 66051 2);rw[show aA 1=1 from rfl,t1]at hst;have hst:=zh hst;have t2:=zh t2;have t3:=zh t3;clear hal2 hS5 hS6 t1;go_wp2_with fail;refine hst.out.mono ?_;rintro e w5 ⟨rfl,hS7⟩;rw[show(if cY 1 (aX 66051 2).length (je true)=false then(7:Int)else 0)=0 by kernel_rfl];have hI4:=As oq.1 oq.2 (yP true) 1 1 (kD 66051 2);have hS8:=hS7.erase 1;obtain⟨u1,u2,u3⟩:=t2.out.load 0 4;have hlb:fJ (cH true) (fZ (cH true) (cM true) 1 b9 1 (aX 66051 2)).2 1 b9 0 4=[0,3,2,0]:=by
  unfold fJ;rw[u1,if_pos (by kernel_rfl),t3.out];kernel_rfl
 have hld:=yp (nt true) hI4 (by omega) (p:=1) (o:=b9) (off:=0) (n:=4) oq.1 oq.2 hS8;rw[hlb,u1,show(if(4:Int)<0 then(1:Int)else if cY 0 4 (je true)=false then 7 else 0)=0 by kernel_rfl]at hld;have hld:=zh hld;clear hst hS7 hS8 hI4 u1 u2 u3 hlb t2 t3;go_wp2_with fail;refine hld.out.mono ?_;rintro e w6 ⟨v,rfl,hS9⟩;have hrow:=hS9.row 0 rfl;have hm:=zh hS9.mod;clear hld hS9;rcases hrow.2 with⟨hn,h0⟩|⟨g,cap,cur,hsl,q2,q3,q4,q5,q6,q7⟩
 ·simp at h0
 ·cases hsl;have hcv:=fun dst hd=>run_convert_bytes_arg (P:=Tryz.prog) w6 56 5 Tryz.underlying56 Tryz.underlying5 g 0 4 cap [0,3,2,0] rfl (fun i hi=>by
   rw[Nat.zero_add,hrow.cellAt i (by simpa using hi)];have:i=0∨i=1∨i=2∨i=3:=by omega
   rcases this with rfl|rfl|rfl|rfl<;>rfl) dst hd
  have hcv:=hcv 9 Tryz.underlying9;clear hrow q2 q3 q4 q5 q6 q7;go_wp2_with fail;go_ret;have hs:((strOfNums [0,3,2,0]).toList== [0,3,2,0])=true:=by kernel_rfl
  exact⟨congrArg (fun b=>Ending.returned (.bool b)) hs,hm.out⟩
end Go.Proofs.YtdehaommhbjakaaGreat
namespace Go.Proofs.YtdehaommhbjakaaGreat
open RowKit Stg
theorem A5 {x:Int} (_: -128≤x) (_:x≤127):IntKind.i64.wrap (x.tmod 14)=x.tmod 14:=by
 have:=Int.tmod_lt_of_pos x (show(0:Int)<14 by omega);have:=Int.lt_tmod_of_pos x (show(0:Int)<14 by omega);simp[IntKind.wrap,IntKind.signed,IntKind.bits];omega
theorem Bu (cv tv:Value) (xs ys:List Int) (call:Int) (av:Value) (ds:List Int) (p:Int) (W:World) (hx:Ty.eQ W cv xs) (hy:Ty.eQ W tv ys) (hA:cR W av ds) (c0: -128≤call) (c1:call≤127) (p0:0≤p) (_:p≤255):
  Calls Tryz.prog 3 #[cv,tv,.int .i8 call,av,.int .u8 p] W fun e w'=>e=.returned (.bool true)∧Mod [] W w':=by
 have hln:=fun ty w1=>hA.len ty w1
 have hAH:=zh hA;have hbe:=zh (Ff (Mod.refl [] W) cv tv xs ys hx hy);have haw:=zh fun w=>EG w
 have hsep:∀sb so m cap,av=.slice (some ⟨sb,so,none⟩) m cap→sb<W.heap.size∧sb∉([]:List Nat):=fun sb so m cap h=>by
  rcases hA with⟨rfl,_⟩|⟨_,_,_,rfl,h2,_⟩
  ·cases h
  ·cases h;exact⟨h2,by simp⟩
 have hsep:=zh hsep;obtain⟨aa,am,ac,haa⟩:=hA.slice;subst haa;clear hx hy hA;by_cases hlen:8<ds.length
 ·have hd:decide ((8:Int)<ds.length)=true:=by simp;omega
  go_enter Tryz.func3,Tryz.ntmps3;go_wp2_with fail;refine(haw.out _).mono ?_;rintro e w1 ⟨rfl,hm⟩;go_wp2_with fail;go_ret;exact⟨rfl,hm⟩
 have hd:decide ((8:Int)<ds.length)=false:=by simp;omega
 obtain⟨k,hk⟩:∃k,call.tmod 14=k:=⟨_,rfl⟩;obtain⟨q,hq⟩:∃q,p.tmod 3=q:=⟨_,rfl⟩;have hq1:0≤q∧q≤2:=by
  have:=Int.tmod_lt_of_pos p (show(0:Int)<3 by omega);have:=Int.tmod_nonneg 3 p0;omega
 have hkw:=A5 c0 c1;rw[hk]at hkw;have hqw:IntKind.i64.wrap q=q:=by simp[IntKind.wrap,IntKind.signed,IntKind.bits];omega
 have hdsl:=hlen;clear c0 c1 p0 hlen;generalize hlL:(ds.length:Nat)=dl at*;have hlL:=zh hlL;go_enter Tryz.func3,Tryz.ntmps3;go_wp2_with fail;refine hbe.out.mono ?_;rintro e w1 ⟨a,ra,c,s,gv,ts,es,rfl,hB,hts,hS⟩;have hm1:=hS.mod;have hAw:=zh (hAH.out.mod hm1);obtain⟨ga,gl,gc,rfl⟩:=cx (hS.row 2 rfl);have hS:=zh hS;have hB:=zh hB;clear hbe hm1;go_wp2_with fail;refine(vf hS.out).mono ?_;rintro e w2 ⟨rfl,hm2⟩;have hS2:=zh (hS.out.then hm2);clear hS hm2;go_wp2_with fail;refine(wA hS2.out (1+q)).mono ?_;rintro e w3 ⟨rfl,hm3⟩;have hS3:=zh (hS2.out.then hm3);clear hS2 hm3;obtain⟨u,hu⟩:∃u,tT c s (1+q)=u:=⟨_,rfl⟩;rw[hu];have huH:=zh hu;have huz:u.size=5:=by rw[←hu];rfl
 clear hu;obtain⟨x0,x1,x2,x3,x4,hux⟩:∃x0 x1 x2 x3 x4,u=#[.int .i64 x0,.int .i64 x1,.int .i64 x2,.int .i64 x3,.int .i64 x4]:=⟨_,_,_,_,_,huH.out.symm⟩;subst hux;clear huz;have hS4:=zh ((hS3.out.alloc (.cells #[.int .i64 x0,.int .i64 x1,.int .i64 x2,.int .i64 x3,.int .i64 x4] 34)).swap);clear hS3;go_wp2_with fail;have hst:=hB.out.st (1+q) (by omega) (by omega);by_cases he:iz k ds=0
 ·have hdo:=zh (tw (k:=k) (p:=1+q) (d:=0) (av:=.slice aa am ac) hB.out.ok hB.out.inv (by omega) hst (by omega) (by omega) (hS4.out.row 3 rfl) (hAH.out.mod hS4.out.mod) (fun _=>hsep.out) he hS4.out);refine hdo.out.mono ?_;rintro e w4 ⟨rfl,hS5⟩;have hm5:=zh hS5.mod;have hck:=zh fun w' (hm:Mod [] W w')=>xe (k:=k) (hAH.out.mod hm)
  rw[he]at hck;clear hdo hst hS4 hS5 he;generalize(nK c s (1+q) _ 0 k ds).1=dv;generalize(nK c s (1+q) _ 0 k ds).2.1=de;go_wp2_with fail;refine(hck.out _ hm5.out).mono ?_;rintro e w5 ⟨rfl,hm6⟩;have hm7:=zh (hm5.out.ag hm6);clear hm5 hm6 hck;go_wp2_with fail;refine(haw.out _).mono ?_;rintro e w6 ⟨rfl,hm8⟩;have hm9:=hm7.out.ag hm8;go_wp2_with fail;go_ret;exact⟨rfl,hm9⟩
 ·have hdo:=zh (Cn (k:=k) (p:=1+q) (d:=0) (hAH.out.mod hS4.out.mod) (some ⟨a.hb,0,none⟩) gl gc ga he);refine hdo.out.mono ?_;rintro e w4 ⟨rfl,hm4⟩;have hS5:=zh (hS4.out.then hm4);have hm5:=hS5.out.mod;have hck:=zh fun w' (hm:Mod [] W w')=>xe (k:=k) (hAH.out.mod hm)
  have hez:(iz k ds==0)=false:=by simp only[beq_eq_false_iff_ne];exact he
  generalize iz k ds=ce at*;clear hdo hst hS4 he;go_wp2_with fail;refine(hck.out _ hm5).mono ?_;rintro e w5 ⟨rfl,hm6⟩;have hS6:=zh (hS5.out.then hm6);clear hm5 hm6 hS5 hm4;go_wp2_with fail;have k1:=GW.cells (S:=[]) (hS6.out.block 1 rfl) (by simp);have z0:(ce==ce)=true:=by simp
  have hSH:=zh fun w' (hm:Mod [] w5 w')=>hS6.out.then hm
  have huz:=huH.out;refine aS (by kernel_rfl) (by kernel_rfl) ?_;refine sq 0 ?_;refine b7 4 #[] (.bool true) rfl Tryz.call4 rfl rfl (fun w' hm=>haw.out w') ?_;refine sq 4 ?_;refine b7 9 #[.int .i64 k,.slice aa am ac] (.int .i64 ce) rfl Tryz.call9 rfl rfl (fun w' hm=>hck.out _ (hSH.out w' hm).mod) ?_;refine sq 8 ?_;refine b7 6 #[.pointer (some ⟨a.hb,0,none⟩)] (.int .u64 (ir s.evs)) rfl Tryz.call6 rfl rfl (fun w' hm=>vf (hSH.out w' hm)) ?_;refine sq 9 ?_;refine b7 7 #[.pointer (some ⟨a.hb,0,none⟩),.int .i64 (1+q)] (.agg #[.int .i64 x0,.int .i64 x1,.int .i64 x2,.int .i64 x3,.int .i64 x4]) rfl Tryz.call7 rfl rfl (fun w' hm=>by rw[←huz];exact wA (hSH.out w' hm) (1+q)) ?_;simp only[Act.put,sA,sB,sC];have hbb:∀x:Int,(x==x)=true:=fun x=>by simp
  refine sq 4 ?_;refine au fun w6 hw6=> ?_
  have hm9:=hS6.out.mod.ag hw6;clear k1 z0 hSH huz hS6 hck hAH hAw haw hbb;go_wp2_with fail;go_ret;exact⟨by simp,hm9⟩
end Go.Proofs.YtdehaommhbjakaaGreat
