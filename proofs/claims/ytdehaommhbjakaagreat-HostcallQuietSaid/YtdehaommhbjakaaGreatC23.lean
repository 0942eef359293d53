/- Joined contracts. No conditions. -/
import Derived.Test.YtdehaommhbjakaaGreatC22
set_option maxHeartbeats 2000000
set_option maxRecDepth 20000
namespace Go.Proofs.YtdehaommhbjakaaGreat
open RowKit Stg
theorem G2:∀x:Fin 256,bits .or .u8 (x.1:Int) 128=((x.1%128+128:Nat):Int):=by decide+kernel
theorem Fq (n:Int):bits .or .u8 (n%256) 128=n%128+128:=by
 have h2:=G2 ⟨(n%256).toNat,by omega⟩;simp only at h2;rw[show(((n%256).toNat:Nat):Int)=n%256 by omega]at h2;rw[h2];omega
def aR (bs:List Int):List Value:=bs.map (.int .u8)
theorem eN (bs:List Int):(aR bs).length=bs.length:=by simp[aR]
theorem uZ (bs:List Int) (b:Int):aR (bs++[b])=aR bs++[.int .u8 b]:=by simp[aR]
theorem og (bs:List Int):∀u∈aR bs,u.oneCell'=true:=by
 intro u hu;obtain⟨b,_,rfl⟩:=List.mem_map.1 hu;rfl
theorem kL:(Tryz.prog.info? 5).map (fun i=>(i.zero,i.size,i.bytes))=some (some (.int .u8 0),1,1):=by kernel_rfl
theorem rD {w:World} {sb so cap n:Nat} {bs:List Int} (h:cI w (.slice (some ⟨sb,so,none⟩) n cap) bs):∀j u,(aR bs)[j]? =some u→w.cell? ((⟨sb,so,none⟩:Addr).add j)=some u:=by
 intro j u hu;rcases h with⟨h,_⟩|⟨sb',so',cap',h,h2,h3,h4⟩
 ·simp at h
 ·simp at h;obtain⟨⟨rfl,rfl⟩,_,_⟩:=h;obtain⟨hj,_⟩:=List.getElem?_eq_some_iff.1 hu;rw[eN]at hj;rw[Ty.eT,(h4 j hj).2];unfold aR at hu;rw[List.getElem?_map,List.getElem?_eq_getElem hj]at hu;simpa using hu
theorem cI.mod {w w':World} {v:Value} {bs:List Int} (h:cI w v bs) (hm:Mod [] w w'):cI w' v bs:=by
 rcases h with h|⟨sb,so,cap,rfl,h2,h3,h4⟩
 ·exact .inl h
 ·exact .inr ⟨sb,so,cap,rfl,hm.lt h2,h3,fun i hi=>⟨(h4 i hi).1,(Ty.bg hm h2 (by simp)).trans (h4 i hi).2⟩⟩
theorem wb (v:Value) (bs:List Int) (hl:bs.length≤100000000) (w:World) (h:cI w v bs):
  Calls Tryz.prog 89 #[v] w fun e w'=>∃v',e=.returned v'∧w'.ownsRow w.heap.size 5 1 v' bs.length (aR bs)∧Mod [] w w':=by
 obtain⟨i0,hi0,hz0,hz1,hz2⟩:=info_parts kL;rcases h with⟨rfl,rfl⟩|⟨sb,so,cap,rfl,g2,g3,g4⟩
 ·have hnil:=fun w=>Lib.run_eql_slice_nil (P:=Tryz.prog) w 56 5 none 0 0 0 0 Tryz.underlying56
  go_enter Tryz.func89,Tryz.ntmps89;go_wp2_with fail;go_ret;exact⟨_,rfl,World.ownsRow_nil _ _ _ _,Mod.refl _ _⟩
 ·have hown:(w.alloc (.cells #[] 5 (0,0))).ownsRow w.heap.size 5 1 (.slice (some ⟨w.heap.size,0,none⟩) 0 0) 0 []:=World.ownsRow_made w #[] 0 (Nat.le_refl _) (Nat.zero_le _) rfl;have hmA:=(Mod.refl [] w).alloc (.cells #[] 5 (0,0));have hF:cI (w.alloc (.cells #[] 5 (0,0))) (.slice (some ⟨sb,so,none⟩) bs.length cap) bs:=cI.mod (.inr ⟨sb,so,cap,rfl,g2,g3,g4⟩) hmA;have hcs:=zh (rD hF);clear g4 hF;have h63:0+bs.length≤maxLen:=by unfold maxLen;omega
  have hby:(0+bs.length)*1≤140737488355328:=by omega
  have hfl:(aR bs).length=bs.length*1:=by rw[eN];omega
  have hfl:=zh hfl;have hnil:=fun w=>Lib.run_eql_slice_nil (P:=Tryz.prog) w 56 5 (some ⟨sb,so,none⟩) bs.length cap 0 0 Tryz.underlying56
  go_enter Tryz.func89,Tryz.ntmps89;go_wp2_with (at_builtin;refine dO _ rfl _ _ 56 rfl 5 i0 (.int .u8 0) 1 1 Tryz.underlying56 hi0 hz0 hz1 hz2 rfl (by decide) (.slice (some ⟨w.heap.size,0,none⟩) 0 0) 0 [] rfl (aE hown (Nat.zero_le _)) ⟨sb,so,none⟩ bs.length cap (aR bs) rfl hfl.out hcs.out (og bs) h63 hby ?_;intro v' w1 hown1 hgrow hfr;simp only[Nat.zero_add,List.nil_append]at hown1;have hown1:=zh hown1;have hgrow:=zh hgrow;have hfr:=zh hfr);go_ret;refine⟨_,rfl,cy hown1.out fun g hg=> ?_,hmA.grown hgrow.out fun k hk=>.inr ?_⟩
  ·rcases hfr.out g hg with h|h
   ·have h':some w.heap.size=some g:=h;have:=Option.some.inj h';omega
   ·simp at h;omega
  ·have hk':some w.heap.size=some k:=hk;have:=Option.some.inj hk';omega
theorem dW {w:World} {v:Value} {n:Nat} {xs:List Value} {b sz:Nat} {e:TypeId} (h:w.ownsRow b e sz v n xs):∃a m c,v=.slice a m c:=by
 rcases dr h with⟨rfl,_⟩|⟨_,_,rfl,_⟩<;>exact⟨_,_,_,rfl⟩
theorem nz (v:Value) (bs:List Int) (hl:bs.length≤10000000) (n:Nat) (hn:n<18446744073709551616) (w:World) (h:cI w v bs):
  Calls Tryz.prog 135 #[v,.int .u64 n] w fun e w'=>∃v',e=.returned v'∧w'.ownsRow w.heap.size 5 1 v' (bs++c6 n).length (aR (bs++c6 n))∧Mod [] w w':=by
 obtain⟨i0,hi0,hz0,hz1,hz2⟩:=info_parts kL;have hcl:=zh (wb v bs (by omega) w h);have hle:=l8 hn;obtain⟨E,hE⟩:∃E,c6 n=E:=⟨_,rfl⟩;rw[hE]at hle⊢;have hEH:=zh hE;clear h hE;go_enter Tryz.func135,Tryz.ntmps135;go_wp2_with fail;refine hcl.out.mono ?_;rintro e w1 ⟨v1,rfl,hr1,hm1⟩;have hr1H:=zh hr1;have hm1H:=zh hm1;clear hr1 hm1 hcl;go_wp2_with fail;go_loopw [1,5] (fun nv ov wr=>∃(m:Nat) (pre:List Int),m<18446744073709551616∧nv=.int .u64 m∧E=pre++c6 m∧wr.ownsRow w.heap.size 5 1 ov (bs++pre).length (aR (bs++pre))∧Mod [] w wr) (fun nv _ _=>(intOf nv).toNat)
 case atStart=>exact⟨n,[],hn,rfl,hEH.out.symm,by rw[List.append_nil];exact hr1H.out,hm1H.out⟩
 case round=>
  obtain⟨m,pre,hm,rfl,hp,hr,hmod⟩:=hrel;have hpl:pre.length≤10:=by rw[hp]at hle;simp at hle;omega
  obtain⟨n',hn'⟩:∃n',n'=(bs++pre).length:=⟨_,rfl⟩;have hn2:n'≤10000010:=by rw[hn'];simp;omega
  rw[←hn']at hr;have hrH:=zh hr;have hmodH:=zh hmod;have hpH:=zh hp;have hnH:=zh hn';obtain⟨oa,ol,oc,rfl⟩:=dW hr;by_cases hge:128≤m
  ·have hnx:=sd (n:=m) (by omega);have hor:=Fq (m:Int);have hgei:decide ((m:Int)≥128)=true:=by rw[decide_eq_true_eq];omega
   have hn6:=ny wr (.int .u8 ((m:Int)%128+128)) 5;have hn6H:=zh hn6;have hr6H:=zh (aG hrH.out ((Mod.refl [] wr).alloc (.cells #[.int .u8 ((m:Int)%128+128)] 5)) (by simp));have hm6H:=zh (hmodH.out.alloc (.cells #[.int .u8 ((m:Int)%128+128)] 5));have hnxH:=zh hnx;clear hn6 hnx hr hmod hp hn';go_wp2_with (at_builtin;refine dO _ rfl _ _ 56 rfl 5 i0 (.int .u8 0) 1 1 Tryz.underlying56 hi0 hz0 hz1 hz2 rfl (by decide) (.slice oa ol oc) n' (aR (bs++pre)) rfl (aE hr6H.out (Nat.zero_le _)) ⟨wr.heap.size,0,none⟩ 1 1 [.int .u8 ((m:Int)%128+128)] rfl rfl hn6H.out (by simp[Value.oneCell']) (by unfold maxLen;omega) (by omega) ?_;intro v7 w7 hown7 hgrow7 hfr7;have hown7:=zh hown7;have hgrow7:=zh hgrow7;have hfr7:=zh hfr7);go_roundw
   case rel=>
    refine⟨m/128,pre++[((m%128+128:Nat):Int)],by omega,by go_num,by rw[hpH.out,hnxH.out];simp,?_,hm6H.out.grown hgrow7.out fun k hk=>.inr (hr6H.out.lt k hk).1⟩;have h1:=hown7.out;rw[hnH.out, ←List.append_assoc,uZ,List.length_append]at*;refine cy (by simpa using h1) fun g hg=> ?_
    rcases hfr7.out g hg with h|h
    ·exact(hr6H.out.lt g h).1
    ·have:=hm6H.out.size;omega
   case measure=>simp[intOf];omega
  ·have hnx:=nY (n:=m) (by omega);have hgei:decide ((m:Int)≥128)=false:=by rw[decide_eq_false_iff_not];omega
   have hmod256:(m:Int)%256=m:=by omega
   have hn6:=ny wr (.int .u8 ((m:Int))) 5;have hn6H:=zh hn6;have hr6H:=zh (aG hrH.out ((Mod.refl [] wr).alloc (.cells #[.int .u8 ((m:Int))] 5)) (by simp));have hm6H:=zh (hmodH.out.alloc (.cells #[.int .u8 ((m:Int))] 5));have hnxH:=zh hnx;clear hn6 hnx hr hmod hp hn';go_wp2_with (at_builtin;refine dO _ rfl _ _ 56 rfl 5 i0 (.int .u8 0) 1 1 Tryz.underlying56 hi0 hz0 hz1 hz2 rfl (by decide) (.slice oa ol oc) n' (aR (bs++pre)) rfl (aE hr6H.out (Nat.zero_le _)) ⟨wr.heap.size,0,none⟩ 1 1 [.int .u8 (m:Int)] rfl rfl hn6H.out (by simp[Value.oneCell']) (by unfold maxLen;omega) (by omega) ?_;intro v7 w7 hown7 hgrow7 hfr7;have hown7:=zh hown7;have hgrow7:=zh hgrow7;have hfr7:=zh hfr7);go_ret;refine⟨_,rfl,?_,hm6H.out.grown hgrow7.out fun k hk=>.inr (hr6H.out.lt k hk).1⟩;have h1:=hown7.out;rw[hnH.out]at h1;rw[hpH.out,hnxH.out, ←List.append_assoc,uZ,List.length_append];refine cy (by simpa using h1) fun g hg=> ?_
   rcases hfr7.out g hg with h|h
   ·exact(hr6H.out.lt g h).1
   ·have:=hm6H.out.size;omega
def iB (e:Ev):Array Value:=#[.int .i64 e.p,.int .i64 e.op,.int .u64 e.h,.int .u64 e.arg,.int .i64 e.err]
theorem BR {e:Ev} (h:e.ok) (w:World):Calls Tryz.prog 134 #[.agg (iB e)] w fun r w'=>r=.returned (.int .i64 0)∧Mod [] w w':=by
 obtain⟨p,op,hh,arg,err⟩:=e;obtain⟨h1,h2, -, -,h5⟩:=h;simp only at h1 h2 h5;unfold iB;simp only;have p1:decide (p<1)=false:=by rw[decide_eq_false_iff_not];omega
 have p2:decide (p>64)=false:=by rw[decide_eq_false_iff_not];omega
 have e1:decide (err<0)=false:=by rw[decide_eq_false_iff_not];omega
 have e2:decide (err>29)=false:=by rw[decide_eq_false_iff_not];omega
 rcases h2 with h2|rfl|rfl
 ·have o1:decide (op≥1)=true:=by rw[decide_eq_true_eq];omega
  have o2:decide (op≤11)=true:=by rw[decide_eq_true_eq];omega
  go_enter Tryz.func134,Tryz.ntmps134;go_wp2;go_ret;exact⟨rfl,(Mod.refl _ _).alloc _⟩
 ·go_enter Tryz.func134,Tryz.ntmps134;go_wp2;go_ret;exact⟨rfl,(Mod.refl _ _).alloc _⟩
 ·go_enter Tryz.func134,Tryz.ntmps134;go_wp2;go_ret;exact⟨rfl,(Mod.refl _ _).alloc _⟩
theorem wJ (e:Ev) (w:World):Calls Tryz.prog 75 #[.agg (iB e)] w fun r w'=>r=.returned (.bool e.counts)∧Mod [] w w':=by
 obtain⟨p,op,hh,arg,err⟩:=e;unfold iB Ev.counts;simp only;by_cases a:op=32
 ·subst a;go_enter Tryz.func75,Tryz.ntmps75;go_wp2;go_ret;exact⟨by simp,(Mod.refl _ _).alloc _⟩
 ·by_cases b:op=33
  ·subst b;go_enter Tryz.func75,Tryz.ntmps75;go_wp2;go_ret;exact⟨by simp,(Mod.refl _ _).alloc _⟩
  ·have z1:(op != 32)=true:=by simpa using a
   have z2:(op != 33)=true:=by simpa using b
   have z3:(decide (op≠32)&&decide (op≠33))=true:=by simp[a,b]
   rw[z3];clear a b z3;go_enter Tryz.func75,Tryz.ntmps75;go_wp2;go_ret;exact⟨rfl,(Mod.refl _ _).alloc _⟩
theorem mU {w:World} {b n:Nat} {v:Value} {bs:List Int} (h:w.ownsRow b 5 1 v n (aR bs)) (hn:n=bs.length) (hx:∀x∈bs,0≤x∧x≤255) (hl:bs.length≤100000000):cI w v bs:=by
 rcases dr h with⟨rfl,h2,h3⟩|⟨g,cap,rfl,_,hlt,_,_,hc⟩
 ·refine .inl ⟨rfl,?_⟩;have:=congrArg List.length h3;rw[eN]at this;exact List.length_eq_zero_iff.1 this
 ·subst hn;refine .inr ⟨g,0,cap,rfl,hlt,by unfold maxLen;omega,fun i hi=>⟨hx _ (List.getElem_mem hi),?_⟩⟩;rw[Nat.zero_add,hc i (by omega)];unfold aR;rw[List.getElem?_map,List.getElem?_eq_getElem hi];rfl
def fN (e:Ev):List Nat:=[e.p.toNat,e.op.toNat,e.h.toNat,e.arg.toNat,e.err.toNat]
def ek (e:Ev) (k:Nat):List Int:=((fN e).take k).flatMap c6
theorem ye (e:Ev):ek e 5=iM e:=by simp[ek,fN,iM,List.append_assoc]
theorem CL (e:Ev) {k:Nat} (hk:k<5):ek e (k+1)=ek e k++c6 ((fN e)[k]'(by simpa[fN]using hk)):=by
 have hl:k<(fN e).length:=by simpa[fN]using hk
 have h:(fN e).take (k+1)=(fN e).take k++[(fN e)[k]]:=by rw[List.take_add_one,List.getElem?_eq_getElem hl];rfl
 unfold ek;rw[h,List.flatMap_append];simp
theorem Fg (e:Ev) {k:Nat} (hk:k≤5):(ek e k).Sublist (iM e):=by
 rw[←ye];unfold ek;have h5:(fN e).take 5=(fN e).take k++((fN e).take 5).drop k:=by
  have h:=List.take_append_drop k ((fN e).take 5);rw[List.take_take,Nat.min_eq_left hk]at h;exact h.symm
 rw[h5,List.flatMap_append];exact List.sublist_append_left _ _
theorem G6 (a b c d e:Int) (w:World):(Instr.index 238 (.agg #[.int .u64 a,.int .u64 b,.int .u64 c,.int .u64 d,.int .u64 e]) (.int .i64 0)).run Tryz.prog w=.ok (.int .u64 a) w:=by
 simp[Instr.index,run_underlying Tryz.underlying238,asIntOf,go_sem]
theorem G1 (a b c d e:Int) (w:World):(Instr.index 238 (.agg #[.int .u64 a,.int .u64 b,.int .u64 c,.int .u64 d,.int .u64 e]) (.int .i64 1)).run Tryz.prog w=.ok (.int .u64 b) w:=by
 simp[Instr.index,run_underlying Tryz.underlying238,asIntOf,go_sem]
theorem G9 (a b c d e:Int) (w:World):(Instr.index 238 (.agg #[.int .u64 a,.int .u64 b,.int .u64 c,.int .u64 d,.int .u64 e]) (.int .i64 2)).run Tryz.prog w=.ok (.int .u64 c) w:=by
 simp[Instr.index,run_underlying Tryz.underlying238,asIntOf,go_sem]
theorem GZ (a b c d e:Int) (w:World):(Instr.index 238 (.agg #[.int .u64 a,.int .u64 b,.int .u64 c,.int .u64 d,.int .u64 e]) (.int .i64 3)).run Tryz.prog w=.ok (.int .u64 d) w:=by
 simp[Instr.index,run_underlying Tryz.underlying238,asIntOf,go_sem]
theorem He (a b c d e:Int) (w:World):(Instr.index 238 (.agg #[.int .u64 a,.int .u64 b,.int .u64 c,.int .u64 d,.int .u64 e]) (.int .i64 4)).run Tryz.prog w=.ok (.int .u64 e) w:=by
 simp[Instr.index,run_underlying Tryz.underlying238,asIntOf,go_sem]
def s8 (w:World) (e:Ev) (r:Ending) (w':World):Prop:=∃v,r=.returned (.tuple #[v,.int .i64 0])∧w'.ownsRow w.heap.size 5 1 v (iM e).length (aR (iM e))∧Mod [] w w'
theorem xu {e:Ev} (h:e.ok) (w:World):Calls Tryz.prog 74 #[.agg (iB e)] w (s8 w e):=by
 have hck:=zh fun w=>BR h w
 have hb:=zh h;have hall:=zh (ye e);have hnext:=zh fun k (hk:k<5)=>CL e hk
 have hlen:=zh (vK h);have hbytes:=zh (uO h);obtain⟨p,op,hh,arg,err⟩:=e;obtain⟨h1,h2,h3,h4,h5⟩:=h;simp only at h1 h2 h3 h4 h5;obtain⟨p,rfl⟩:=Int.eq_ofNat_of_zero_le (show 0≤p by omega);obtain⟨op,rfl⟩:=Int.eq_ofNat_of_zero_le (show 0≤op by omega);obtain⟨hh,rfl⟩:=Int.eq_ofNat_of_zero_le (show 0≤hh by omega);obtain⟨arg,rfl⟩:=Int.eq_ofNat_of_zero_le (show 0≤arg by omega);obtain⟨err,rfl⟩:=Int.eq_ofNat_of_zero_le (show 0≤err by omega);unfold iB at hck⊢;simp only at hck⊢;go_enter Tryz.func74,Tryz.ntmps74;go_wp2_with fail;refine(hck.out _).mono ?_;rintro r w1 ⟨rfl,hm1⟩;have hbx:=hm1.at (an w (.cells #[.int .i64 p,.int .i64 op,.int .u64 hh,.int .u64 arg,.int .i64 err] 100)) (by simp);have kx:=ae hbx;have hm1H:=zh (((Mod.refl [] w).alloc (.cells #[.int .i64 p,.int .i64 op,.int .u64 hh,.int .u64 arg,.int .i64 err] 100)).ag hm1);clear hm1 hbx hck;go_wp2_with fail;clear kx;go_loopw [27,5] (fun i ov wr=>∃k:Nat,k≤5∧i=.int .i64 k∧Mod [] w wr∧wr.ownsRow w.heap.size 5 1 ov (ek ⟨p,op,hh,arg,err⟩ k).length (aR (ek ⟨p,op,hh,arg,err⟩ k))) (fun i _ _=>5-(intOf i).toNat)
 case atStart=>exact⟨0,by omega,rfl,hm1H.out,World.ownsRow_nil _ _ _ _⟩
 case round=>
  obtain⟨k,hk,rfl,hm,hr⟩:=hrel;have hmH:=zh hm;have hrH:=zh hr;obtain⟨oa,ol,oc,rfl⟩:=dW hr;clear hm hr;by_cases hlt:k<5
  ·have hnx:=hnext.out k hlt;have hle:(ek ⟨p,op,hh,arg,err⟩ k).length≤50∧∀x∈ek ⟨p,op,hh,arg,err⟩ k,0≤x∧x≤255:=by
    have hsub:(ek ⟨p,op,hh,arg,err⟩ k).Sublist (iM ⟨p,op,hh,arg,err⟩):=Fg _ (by omega);exact⟨Nat.le_trans hsub.length_le hlen.out.2,fun x hx=>hbytes.out x (hsub.subset hx)⟩
   have hB:=zh (mU hrH.out rfl hle.2 (by omega));have hleH:=zh hle;clear hle;have hcase:k=0∨k=1∨k=2∨k=3∨k=4:=by omega
   rcases hcase with rfl|rfl|rfl|rfl|rfl
   ·have hix:=fun w=>G6 ↑p ↑op ↑hh ↑arg ↑err w
    have hnx:ek ⟨p,op,hh,arg,err⟩ 1=ek ⟨p,op,hh,arg,err⟩ 0++c6 p:=by have:=hnext.out 0 (by omega);simpa[fN]using this
    have hnxH:=zh hnx;clear hnx;simp only[show((0:Nat):Int)=0 from rfl];go_wp2_with fail;refine(nz _ _ (by have:=hleH.out.1;omega) p (by omega) wr hB.out).mono ?_;rintro r w2 ⟨v2,rfl,hr2,hm2⟩;rw[←hnxH.out]at hr2;obtain⟨a2,l2,c2,rfl⟩:=dW hr2;have hr2H:=zh (aE hr2 hmH.out.size);have hm2H:=zh (hmH.out.ag hm2);clear hr2 hm2;go_wp2_with fail;go_roundw
    case rel=>exact⟨1,by omega,by go_num,hm2H.out,hr2H.out⟩
    case measure=>simp[intOf]
   ·have hix:=fun w=>G1 ↑p ↑op ↑hh ↑arg ↑err w
    have hnx:ek ⟨p,op,hh,arg,err⟩ 2=ek ⟨p,op,hh,arg,err⟩ 1++c6 op:=by have:=hnext.out 1 (by omega);simpa[fN]using this
    have hnxH:=zh hnx;clear hnx;simp only[show((1:Nat):Int)=1 from rfl];go_wp2_with fail;refine(nz _ _ (by have:=hleH.out.1;omega) op (by omega) wr hB.out).mono ?_;rintro r w2 ⟨v2,rfl,hr2,hm2⟩;rw[←hnxH.out]at hr2;obtain⟨a2,l2,c2,rfl⟩:=dW hr2;have hr2H:=zh (aE hr2 hmH.out.size);have hm2H:=zh (hmH.out.ag hm2);clear hr2 hm2;go_wp2_with fail;go_roundw
    case rel=>exact⟨2,by omega,by go_num,hm2H.out,hr2H.out⟩
    case measure=>simp[intOf]
   ·have hix:=fun w=>G9 ↑p ↑op ↑hh ↑arg ↑err w
    have hnx:ek ⟨p,op,hh,arg,err⟩ 3=ek ⟨p,op,hh,arg,err⟩ 2++c6 hh:=by have:=hnext.out 2 (by omega);simpa[fN]using this
    have hnxH:=zh hnx;clear hnx;simp only[show((2:Nat):Int)=2 from rfl];go_wp2_with fail;refine(nz _ _ (by have:=hleH.out.1;omega) hh (by omega) wr hB.out).mono ?_;rintro r w2 ⟨v2,rfl,hr2,hm2⟩;rw[←hnxH.out]at hr2;obtain⟨a2,l2,c2,rfl⟩:=dW hr2;have hr2H:=zh (aE hr2 hmH.out.size);have hm2H:=zh (hmH.out.ag hm2);clear hr2 hm2;go_wp2_with fail;go_roundw
    case rel=>exact⟨3,by omega,by go_num,hm2H.out,hr2H.out⟩
    case measure=>simp[intOf]
   ·have hix:=fun w=>GZ ↑p ↑op ↑hh ↑arg ↑err w
    have hnx:ek ⟨p,op,hh,arg,err⟩ 4=ek ⟨p,op,hh,arg,err⟩ 3++c6 arg:=by have:=hnext.out 3 (by omega);simpa[fN]using this
    have hnxH:=zh hnx;clear hnx;simp only[show((3:Nat):Int)=3 from rfl];go_wp2_with fail;refine(nz _ _ (by have:=hleH.out.1;omega) arg (by omega) wr hB.out).mono ?_;rintro r w2 ⟨v2,rfl,hr2,hm2⟩;rw[←hnxH.out]at hr2;obtain⟨a2,l2,c2,rfl⟩:=dW hr2;have hr2H:=zh (aE hr2 hmH.out.size);have hm2H:=zh (hmH.out.ag hm2);clear hr2 hm2;go_wp2_with fail;go_roundw
    case rel=>exact⟨4,by omega,by go_num,hm2H.out,hr2H.out⟩
    case measure=>simp[intOf]
   ·have hix:=fun w=>He ↑p ↑op ↑hh ↑arg ↑err w
    have hnx:ek ⟨p,op,hh,arg,err⟩ 5=ek ⟨p,op,hh,arg,err⟩ 4++c6 err:=by have:=hnext.out 4 (by omega);simpa[fN]using this
    have hnxH:=zh hnx;clear hnx;simp only[show((4:Nat):Int)=4 from rfl];go_wp2_with fail;refine(nz _ _ (by have:=hleH.out.1;omega) err (by omega) wr hB.out).mono ?_;rintro r w2 ⟨v2,rfl,hr2,hm2⟩;rw[←hnxH.out]at hr2;obtain⟨a2,l2,c2,rfl⟩:=dW hr2;have hr2H:=zh (aE hr2 hmH.out.size);have hm2H:=zh (hmH.out.ag hm2);clear hr2 hm2;go_wp2_with fail;go_roundw
    case rel=>exact⟨5,by omega,by go_num,hm2H.out,hr2H.out⟩
    case measure=>simp[intOf]
  ·obtain rfl:k=5:=by omega
   have hf:=hrH.out;rw[hall.out]at hf;have hfH:=zh hf;clear hf;go_wp2_with fail;exact bodyPost_ret (v:=.tuple #[.slice oa ol oc,.int .i64 0]) (by simp[results,Tryz.results74,go_sem]) rfl ⟨_,rfl,hfH.out,hmH.out⟩
theorem zc (v:Int):∀(k i:Nat),i<k→(aX v k)[i]? =some (v/256^i%256)
 |0,_,h=>by omega
 |k+1,0,_=>by simp[aX]
 |k+1,i+1,h=>by
  rw[aX,List.getElem?_cons_succ,zc (v/256) k i (by omega),Int.ediv_ediv_of_nonneg (by omega),Int.pow_succ,Int.mul_comm]
def nI (v:Int) (k:Nat):Array Value:=((List.range 8).map fun i=>Value.int .u8 (if i<k then v/256^i%256 else 0)).toArray
theorem lE (v:Int) {k:Nat} (_hk:k<8):(nI v k).setIfInBounds k (.int .u8 (v/256^k%256))=nI v (k+1):=by
 unfold nI;apply Array.ext_getElem?;intro i;by_cases hi:i<8
 ·by_cases e:k=i
  ·subst e;simp[hi]
  ·rw[Array.getElem?_setIfInBounds_ne e];simp only[List.getElem?_toArray,List.getElem?_map,List.getElem?_range hi,Option.map_some];by_cases h:i<k
   ·rw[if_pos h,if_pos (by omega)]
   ·rw[if_neg h,if_neg (by omega)]
 ·rw[Array.getElem?_eq_none (by simp;omega),Array.getElem?_eq_none (by simp;omega)]
theorem DQ (v:Int) {w:World} {b:Nat} {T:TypeId} (h:w.heap[b]? =some (.cells (nI v 8) T (0,0))):cI w (.slice (some ⟨b,0,none⟩) 8 8) (aX v 8):=by
 have hl:=aZ v 8;refine .inr ⟨b,0,8,by rw[hl],aL h,by rw[hl];decide,fun i hi=> ?_⟩;rw[hl]at hi;have h2:=zc v 8 i hi;rw[List.getElem?_eq_getElem (by rw[hl];exact hi)]at h2;have h2:=Option.some.inj h2;refine⟨kD v 8 _ (List.getElem_mem _),?_⟩;rw[Nat.zero_add,ae h,h2];simp[nI,hi]
def mB (prev:Int) (rec:List Int):Int:=iP (iP 14695981039346656037 (aX prev 8)) rec
theorem xO (prev:Int) (p0:0≤prev) (p1:prev≤18446744073709551615) {v:Value} {bs:List Int} {w:World} (h:cI w v bs):
  Calls Tryz.prog 78 #[.int .u64 prev,v] w fun e w'=>e=.returned (.int .u64 (mB prev bs))∧Mod [] w w':=by
 have hH:=zh h;clear h;have h0:=zh (an w (.cells #[.int .u8 0,.int .u8 0,.int .u8 0,.int .u8 0,.int .u8 0,.int .u8 0,.int .u8 0,.int .u8 0] 240));have hm0:=zh ((Mod.refl [] w).alloc (.cells #[.int .u8 0,.int .u8 0,.int .u8 0,.int .u8 0,.int .u8 0,.int .u8 0,.int .u8 0,.int .u8 0] 240));go_enter Tryz.func78,Tryz.ntmps78;go_wp2_with fail;go_loopw [7] (fun i wr=>∃k:Nat,k≤8∧i=.int .i64 k∧Mod [] w wr∧wr.heap[w.heap.size]? =some (.cells (nI prev k) 240 (0,0))) (fun i _=>8-(intOf i).toNat)
 case atStart=>exact⟨0,by omega,rfl,hm0.out,h0.out⟩
 case round=>
  obtain⟨k,hk,rfl,hm,hb⟩:=hrel;have hmH:=zh hm;have hbH:=zh hb;have hcb:=ae hb;have hfb:=ay hb;clear hm hb;have hcase:k=0∨k=1∨k=2∨k=3∨k=4∨k=5∨k=6∨k=7∨k=8:=by omega
  rcases hcase with rfl|rfl|rfl|rfl|rfl|rfl|rfl|rfl|rfl
  ·simp only[show((0:Nat):Int)=0 from rfl];have hst:=zh (lE prev (k:=0) (by omega));go_wp2_with fail;go_roundw
   case rel=>exact⟨1,by omega,by go_num,hmH.out.setCell (.inr (Nat.le_refl _)) _,(aq hbH.out).trans (by rw[←hst.out];first|(simp;done)|(simp;congr 2;omega))⟩
   case measure=>simp[intOf]
  ·simp only[show((1:Nat):Int)=1 from rfl];have hst:=zh (lE prev (k:=1) (by omega));go_wp2_with fail;go_roundw
   case rel=>exact⟨2,by omega,by go_num,hmH.out.setCell (.inr (Nat.le_refl _)) _,(aq hbH.out).trans (by rw[←hst.out];first|(simp;done)|(simp;congr 2;omega))⟩
   case measure=>simp[intOf]
  ·simp only[show((2:Nat):Int)=2 from rfl];have hst:=zh (lE prev (k:=2) (by omega));go_wp2_with fail;go_roundw
   case rel=>exact⟨3,by omega,by go_num,hmH.out.setCell (.inr (Nat.le_refl _)) _,(aq hbH.out).trans (by rw[←hst.out];first|(simp;done)|(simp;congr 2;omega))⟩
   case measure=>simp[intOf]
  ·simp only[show((3:Nat):Int)=3 from rfl];have hst:=zh (lE prev (k:=3) (by omega));go_wp2_with fail;go_roundw
   case rel=>exact⟨4,by omega,by go_num,hmH.out.setCell (.inr (Nat.le_refl _)) _,(aq hbH.out).trans (by rw[←hst.out];first|(simp;done)|(simp;congr 2;omega))⟩
   case measure=>simp[intOf]
  ·simp only[show((4:Nat):Int)=4 from rfl];have hst:=zh (lE prev (k:=4) (by omega));go_wp2_with fail;go_roundw
   case rel=>exact⟨5,by omega,by go_num,hmH.out.setCell (.inr (Nat.le_refl _)) _,(aq hbH.out).trans (by rw[←hst.out];first|(simp;done)|(simp;congr 2;omega))⟩
   case measure=>simp[intOf]
  ·simp only[show((5:Nat):Int)=5 from rfl];have hst:=zh (lE prev (k:=5) (by omega));go_wp2_with fail;go_roundw
   case rel=>exact⟨6,by omega,by go_num,hmH.out.setCell (.inr (Nat.le_refl _)) _,(aq hbH.out).trans (by rw[←hst.out];first|(simp;done)|(simp;congr 2;omega))⟩
   case measure=>simp[intOf]
  ·simp only[show((6:Nat):Int)=6 from rfl];have hst:=zh (lE prev (k:=6) (by omega));go_wp2_with fail;go_roundw
   case rel=>exact⟨7,by omega,by go_num,hmH.out.setCell (.inr (Nat.le_refl _)) _,(aq hbH.out).trans (by rw[←hst.out];first|(simp;done)|(simp;congr 2;omega))⟩
   case measure=>simp[intOf]
  ·simp only[show((7:Nat):Int)=7 from rfl];have hst:=zh (lE prev (k:=7) (by omega));go_wp2_with fail;go_roundw
   case rel=>exact⟨8,by omega,by go_num,hmH.out.setCell (.inr (Nat.le_refl _)) _,(aq hbH.out).trans (by rw[←hst.out];first|(simp;done)|(simp;congr 2;omega))⟩
   case measure=>simp[intOf]
  ·simp only[show((8:Nat):Int)=8 from rfl];have hB:=zh (DQ prev hbH.out);have hH2:=zh (hH.out.mod hmH.out);go_wp2_with fail;refine(sn hB.out _).mono ?_;rintro e w2 ⟨rfl,rfl⟩;go_wp2_with fail;refine(sn hH2.out _).mono ?_;rintro e w3 ⟨rfl,rfl⟩;go_wp2_with fail;go_ret;exact⟨rfl,hmH.out⟩
def DE (w:World) (n:Nat) (e:Ending) (w':World):Prop:=∃v bs,e=.returned v∧w'.ownsRow w.heap.size 5 1 v bs.length (aR bs)∧(∀x∈bs,0≤x∧x≤255)∧bs.length≤n∧Mod [] w w'
theorem Gq {v:Value} {bs:List Int} {w:World} (h:cI w v bs) (hl0:0<bs.length) (hl:bs.length≤1000) (hx:∀x∈bs,0≤x∧x≤255):
  Calls Tryz.prog 79 #[.slice none 0 0,v] w (DE w (bs.length+10)):=by
 obtain⟨i0,hi0,hz0,hz1,hz2⟩:=info_parts kL;have hln:=fun ty w=>h.len ty w
 have hH:=zh h;have hxH:=zh hx;have hput:=zh fun w=>nz (.slice none 0 0) [] (by simp) bs.length (by omega) w (.inl ⟨rfl,rfl⟩)
 have hle:=l8 (n:=bs.length) (by omega);have hby:=mN (n:=bs.length) (by omega);obtain⟨E,hE⟩:∃E,c6 bs.length=E:=⟨_,rfl⟩;rw[hE]at hle hby;simp only[hE,List.nil_append]at hput;have hbyH:=zh hby;clear h hx hE hby;obtain⟨sa,sl,sc,rfl⟩:∃a l c,v=.slice a l c:=by
  rcases hH.out with⟨rfl,_⟩|⟨_,_,_,rfl,_⟩<;>exact⟨_,_,_,rfl⟩
 go_enter Tryz.func79,Tryz.ntmps79;go_wp2_with fail;refine(hput.out _).mono ?_;rintro e w1 ⟨v1,rfl,hr1,hm1⟩;obtain⟨oa,ol,oc,rfl⟩:=dW hr1;have hr1H:=zh hr1;have hm1H:=zh hm1;obtain⟨n1,hn1⟩:∃n1,E.length=n1:=⟨_,rfl⟩;rw[hn1]at hle;have hn1H:=zh hn1;clear hr1 hm1 hput hn1;rcases hH.out with⟨hv,rfl⟩|⟨sb,so,cap,hv,g2,g3,g4⟩
 ·simp at hl0
 ·have hcs:=zh (rD (hv▸hH.out.mod hm1H.out));cases hv;have hr1n:=zh (show w1.ownsRow 0 5 1 (.slice oa ol oc) n1 (aR E) by rw[←hn1H.out];exact aE hr1H.out (Nat.zero_le _));have hb1:n1+bs.length≤maxLen:=by unfold maxLen;omega
  have hb2:(n1+bs.length)*1≤140737488355328:=by omega
  have hfl:=zh (show(aR bs).length=bs.length*1 by rw[eN];omega);clear g4;go_wp2_with (at_builtin;refine dO _ rfl _ _ 56 rfl 5 i0 (.int .u8 0) 1 1 Tryz.underlying56 hi0 hz0 hz1 hz2 rfl (by decide) (.slice oa ol oc) n1 (aR E) rfl hr1n.out ⟨sb,so,none⟩ bs.length sc (aR bs) rfl hfl.out hcs.out (og bs) hb1 hb2 ?_;intro v' w2 hown hgrow hfr;have hownH:=zh hown;have hgrowH:=zh hgrow;have hfrH:=zh hfr;clear hown hgrow hfr);go_ret;refine⟨_,E++bs,rfl,?_,fun x hx=> ?_,?_,?_⟩
  ·have:=hownH.out;rw[show aR (E++bs)=aR E++aR bs by simp[aR],List.length_append,hn1H.out];refine cy this fun g hg=> ?_
   rcases hfrH.out g hg with h|h
   ·exact(hr1H.out.lt g h).1
   ·have:=hm1H.out.size;omega
  ·rcases List.mem_append.1 hx with h|h
   ·exact hbyH.out x h
   ·exact hxH.out x h
  ·rw[List.length_append,hn1H.out];omega
  ·exact hm1H.out.grown hgrowH.out fun k hk=>.inr (hr1H.out.lt k hk).1
theorem rK (n:Nat) (hn:n≤2000000) (w:World):
  ∃w',(Instr.makeSlice 56 (.int .i64 n) (.int .i64 n)).run Tryz.prog w=.ok (.slice (some ⟨w.heap.size,0,none⟩) n n) w'∧w'.ownsRow w.heap.size 5 1 (.slice (some ⟨w.heap.size,0,none⟩) n n) n (aR (List.replicate n 0))∧Mod [] w w':=by
 obtain⟨i0,hi,hz0,hz1,hz2⟩:=info_parts kL;obtain⟨w',h1,h2,h3⟩:=run_makeSlice_full (P:=Tryz.prog) w w.heap.size 56 5 i0 (.int .u8 0) 1 Tryz.underlying56 hi hz0 hz1 .i64 .i64 n (by omega) (by rw[hz2];omega) (by unfold maxLen;omega) (Nat.le_refl _);have e:=vR (f:=fun x:Int=>[Value.int .u8 x]) (m:=1) (fun _=>rfl) (by omega) 0 (Value.int .u8 0).cells rfl n;rw[e]at h2;refine⟨w',h1,?_,(Mod.refl [] w).grown h3 (by simp)⟩;have e2:flat (fun x:Int=>[Value.int .u8 x]) (List.replicate n 0)=aR (List.replicate n 0):=by unfold flat aR;exact List.map_eq_flatMap.symm
 rw[←e2];exact h2
def Fp (w:World) (e:Ending) (w':World):Prop:=∃v xs,e=.returned v∧w'.ownsRow w.heap.size 5 1 v 8 xs∧xs.length=8∧(∀u∈xs,u.oneCell'=true)∧Mod [] w w'
theorem FP (d:Int) (d0:0≤d) (d1:d≤18446744073709551615) (w:World):Calls Tryz.prog 80 #[.int .u64 d] w (Fp w):=by
 obtain⟨w1,h1,h2,h3⟩:=rK 8 (by omega) w;have h2H:=zh h2;have h3H:=zh h3;have h1:(Instr.makeSlice 56 (.int .i64 8) (.int .i64 8)).run Tryz.prog w=.ok (.slice (some ⟨w.heap.size,0,none⟩) 8 8) w1:=h1;clear h2 h3;go_enter Tryz.func80,Tryz.ntmps80;go_wp2_with fail;go_loopw [8] (fun i wr=>∃k:Nat,k≤8∧i=.int .i64 k∧Mod [] w wr∧∃xs,wr.ownsRow w.heap.size 5 1 (.slice (some ⟨w.heap.size,0,none⟩) 8 8) 8 xs∧xs.length=8∧∀u∈xs,u.oneCell'=true) (fun i _=>8-(intOf i).toNat)
 case atStart=>exact⟨0,by omega,rfl,h3H.out,_,h2H.out,by simp[aR],og _⟩
 case round=>
  obtain⟨k,hk,rfl,hm,xs,hr,hl,hx⟩:=hrel;have hmH:=zh hm;have hrH:=zh hr;have hlH:=zh hl;have h1H:=zh hx;have hgeH:=zh (Nat.le_refl w.heap.size);have hfb:=hr.frozenAt;have hcase:k=0∨k=1∨k=2∨k=3∨k=4∨k=5∨k=6∨k=7∨k=8:=by omega
  clear hm hr hl hx h1;rcases hcase with rfl|rfl|rfl|rfl|rfl|rfl|rfl|rfl|rfl
  ·simp only[show((0:Nat):Int)=0 from rfl];have hck:=(hrH.out.cellAt 0 (by omega)).trans (List.getElem?_eq_getElem (by rw[hlH.out];omega));go_wp2_with fail;go_roundw
   case rel=>exact⟨1,by omega,by go_num,hmH.out.setCell (.inr hgeH.out) _,_,(hrH.out.stored 0 _).1,by simp[hlH.out],fun u hu=>by rcases List.mem_or_eq_of_mem_set hu with h|rfl;exact h1H.out u h;rfl⟩
   case measure=>simp[intOf]
  ·simp only[show((1:Nat):Int)=1 from rfl];have hck:=(hrH.out.cellAt 1 (by omega)).trans (List.getElem?_eq_getElem (by rw[hlH.out];omega));go_wp2_with fail;go_roundw
   case rel=>exact⟨2,by omega,by go_num,hmH.out.setCell (.inr hgeH.out) _,_,(hrH.out.stored 1 _).1,by simp[hlH.out],fun u hu=>by rcases List.mem_or_eq_of_mem_set hu with h|rfl;exact h1H.out u h;rfl⟩
   case measure=>simp[intOf]
  ·simp only[show((2:Nat):Int)=2 from rfl];have hck:=(hrH.out.cellAt 2 (by omega)).trans (List.getElem?_eq_getElem (by rw[hlH.out];omega));go_wp2_with fail;go_roundw
   case rel=>exact⟨3,by omega,by go_num,hmH.out.setCell (.inr hgeH.out) _,_,(hrH.out.stored 2 _).1,by simp[hlH.out],fun u hu=>by rcases List.mem_or_eq_of_mem_set hu with h|rfl;exact h1H.out u h;rfl⟩
   case measure=>simp[intOf]
  ·simp only[show((3:Nat):Int)=3 from rfl];have hck:=(hrH.out.cellAt 3 (by omega)).trans (List.getElem?_eq_getElem (by rw[hlH.out];omega));go_wp2_with fail;go_roundw
   case rel=>exact⟨4,by omega,by go_num,hmH.out.setCell (.inr hgeH.out) _,_,(hrH.out.stored 3 _).1,by simp[hlH.out],fun u hu=>by rcases List.mem_or_eq_of_mem_set hu with h|rfl;exact h1H.out u h;rfl⟩
   case measure=>simp[intOf]
  ·simp only[show((4:Nat):Int)=4 from rfl];have hck:=(hrH.out.cellAt 4 (by omega)).trans (List.getElem?_eq_getElem (by rw[hlH.out];omega));go_wp2_with fail;go_roundw
   case rel=>exact⟨5,by omega,by go_num,hmH.out.setCell (.inr hgeH.out) _,_,(hrH.out.stored 4 _).1,by simp[hlH.out],fun u hu=>by rcases List.mem_or_eq_of_mem_set hu with h|rfl;exact h1H.out u h;rfl⟩
   case measure=>simp[intOf]
  ·simp only[show((5:Nat):Int)=5 from rfl];have hck:=(hrH.out.cellAt 5 (by omega)).trans (List.getElem?_eq_getElem (by rw[hlH.out];omega));go_wp2_with fail;go_roundw
   case rel=>exact⟨6,by omega,by go_num,hmH.out.setCell (.inr hgeH.out) _,_,(hrH.out.stored 5 _).1,by simp[hlH.out],fun u hu=>by rcases List.mem_or_eq_of_mem_set hu with h|rfl;exact h1H.out u h;rfl⟩
   case measure=>simp[intOf]
  ·simp only[show((6:Nat):Int)=6 from rfl];have hck:=(hrH.out.cellAt 6 (by omega)).trans (List.getElem?_eq_getElem (by rw[hlH.out];omega));go_wp2_with fail;go_roundw
   case rel=>exact⟨7,by omega,by go_num,hmH.out.setCell (.inr hgeH.out) _,_,(hrH.out.stored 6 _).1,by simp[hlH.out],fun u hu=>by rcases List.mem_or_eq_of_mem_set hu with h|rfl;exact h1H.out u h;rfl⟩
   case measure=>simp[intOf]
  ·simp only[show((7:Nat):Int)=7 from rfl];have hck:=(hrH.out.cellAt 7 (by omega)).trans (List.getElem?_eq_getElem (by rw[hlH.out];omega));go_wp2_with fail;go_roundw
   case rel=>exact⟨8,by omega,by go_num,hmH.out.setCell (.inr hgeH.out) _,_,(hrH.out.stored 7 _).1,by simp[hlH.out],fun u hu=>by rcases List.mem_or_eq_of_mem_set hu with h|rfl;exact h1H.out u h;rfl⟩
   case measure=>simp[intOf]
  ·simp only[show((8:Nat):Int)=8 from rfl];go_wp2_with fail;go_ret;exact⟨_,xs,rfl,hrH.out,hlH.out,h1H.out,hmH.out⟩
end Go.Proofs.YtdehaommhbjakaaGreat
