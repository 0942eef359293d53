/- Joined contracts. No conditions. -/
import Derived.Test.YtdehaommhbjakaaGreatC11
set_option maxHeartbeats 4000000
set_option maxRecDepth 10000
namespace Go.Proofs.YtdehaommhbjakaaGreat.Ty
open RowKit Stg
def nr (fs:List aM):Nat→List Value
 |0=>[]
 |k+1=>nr fs k++(dS fs k (k+1)).toList
theorem FC (fs:List aM) (i:Nat):dS fs i fs.length=dS fs i (i+1):=by
 unfold dS;have e:(0≤(i:Int)∧(i:Int).toNat<fs.length∧(i:Int).toNat<fs.length)=(0≤(i:Int)∧(i:Int).toNat<i+1∧(i:Int).toNat<fs.length):=by
  apply propext;constructor<;>rintro⟨h1,h2,h3⟩<;>exact⟨h1,by omega,h3⟩
 simp only[e]
theorem Ce:(Tryz.prog.info? 211).map (fun i=>(i.zero,i.size,i.bytes))=some (some (.agg #[.int .i64 0,.int .i64 0,.int .i64 0]),3,24):=by kernel_rfl
theorem GC (w:World) (a b c:Value) (T:TypeId):∀j u,[a,b,c][j]? =some u→(w.alloc (.cells #[a,b,c] T)).cell? ((⟨w.heap.size,0,none⟩:Addr).add j)=some u:=by
 intro j u h;have hadd:(⟨w.heap.size,0,none⟩:Addr).add j=⟨w.heap.size,j,none⟩:=by unfold Addr.add;split<;>simp_all
 rw[hadd,ae (an w _)];simpa using h
theorem BI (v:Value) (fs:List aM) (w:World) (h:aw w v fs) (hg:Good fs) (hl:fs.length≤100):
  Calls Tryz.prog 147 #[.agg #[.int .i64 0,v]] w fun e w'=>∃pv,e=.returned (.tuple #[pv,.int .i64 (jQ fs)])∧Mod [] w w'∧w'.ownsRow 0 211 3 pv fs.length (nr fs fs.length):=by
 obtain⟨i0,hi0,hz0,hz1,hz2⟩:=info_parts Ce;have hln:=fun ty w=>h.len ty w
 have q0:=an w (.cells #[.int .i64 0,v] 54);have hm0:=(Mod.refl [] w).alloc (.cells #[.int .i64 0,v] 54);have h':=h.mod hm0;go_enter Tryz.func147,Tryz.ntmps147;go_wp2_with fail;generalize w.alloc (.cells #[.int .i64 0,v] 54)=W at*;go_loopw [4,8,9,10] (fun pv en mo i wr=>∃k:Nat,k≤fs.length∧i=.int .i64 k∧en=.int .i64 (bu (fs.take k)).1∧mo=.int .i64 (bu (fs.take k)).2∧Mod [] W wr∧wr.ownsRow 0 211 3 pv k (nr fs k)∧∀x,pv.ownBlock=some x→W.heap.size≤x) (fun _ _ _ i _=>fs.length-(intOf i).toNat)
 case atStart=>exact⟨0,by omega,rfl,rfl,rfl,Mod.refl _ _,World.ownsRow_nil _ _ _ _,by simp[Value.ownBlock]⟩
 case round=>
  obtain⟨k,hk,rfl,rfl,rfl,hm,hrow,hfrs⟩:=hrel;have r0:=hm.at q0 (by simp);have cb:=ae r0;by_cases hlt:k<fs.length
  ·rcases h' with⟨_,rfl⟩|⟨sb,so,cap,rfl,g2,g3,g4⟩
   ·simp at hlt
   ·have c1:=(bg hm g2 (by simp)).trans (g4 k hlt).1;have c2:=(bg hm g2 (by simp)).trans (g4 k hlt).2;obtain⟨g1,g21,g31,g41,g51⟩:=jh (hg fs[k] (List.getElem_mem hlt));obtain⟨b1,b2,b3,b4⟩:=oo fs hg k hk;have hsn:bu (fs.take (k+1))=lL (bu (fs.take k)) fs[k]:=by rw[jJ fs hlt,mV]
    have hoh:=rX hlt;have hpc:nr fs (k+1)=nr fs k++(dS fs k (k+1)).toList:=rfl;rw[hoh]at hpc;clear g4 hoh h;generalize fs[k]=f at*;generalize bu (fs.take k)=s at*;obtain⟨en,mo⟩:=s;obtain⟨fk,fc⟩:=f;simp only at g1 g21 b1 b2 b3 b4 c1 c2;have hu:=jI (n:=en) (k:=cu (fk,fc)) (by omega);have hpcH:=zh hpc;clear hpc;go_wp2_with fail;refine(wh fk fc g1 g21 _).mono ?_;rintro e w1 ⟨rfl,hm1⟩;go_wp2_with fail;refine(yb en (cu (fk,fc)) (by omega) (by omega) (by omega) (by omega) _).mono ?_;rintro e w2 ⟨rfl,hm2⟩;have r2:=hm2.at (hm1.at r0 (by simp)) (by simp);have c1:=(bg hm2 (hm1.lt (hm.lt g2)) (by simp)).trans ((bg hm1 (hm.lt g2) (by simp)).trans c1);have hrow2:=aG (aG hrow hm1 (by simp)) hm2 (by simp);have hm2:=(hm.ag hm1).ag hm2;have cb2:=ae r2;clear hm hm1 r0 cb c2 hrow;have hst:lL (en,mo) (fk,fc)=(dj en (cu (fk,fc))+wid (fk,fc),max mo (cu (fk,fc))):=rfl;rw[hst]at hsn;generalize hz:dj en (cu (fk,fc))=z at*;generalize hwd:wid (fk,fc)=wd at*;generalize hal:cu (fk,fc)=al at*;clear hst hz hwd hal;have h63:k+1≤maxLen:=by unfold maxLen;omega
    have hby:(k+1)*24≤140737488355328:=by omega
    have hsnH:=zh hsn;clear hsn;go_wp2_with (first|(at_builtin;refine dO _ rfl _ _ 251 rfl 211 i0 (.agg #[.int .i64 0,.int .i64 0,.int .i64 0]) 3 24 Tryz.underlying251 hi0 hz0 hz1 hz2 rfl (by decide) u4 k (nr fs k) rfl (hrow2.alloc _) ⟨w2.heap.size,0,none⟩ 1 1 [.int .i64 z,.int .i64 wd,.int .i64 fk] rfl rfl (GC _ _ _ _ _) (by simp[Value.oneCell']) h63 hby ?_;intro v' w3 hown3 hgrow hfr));have hm3:Mod [] W w3:=(hm2.alloc _).grown hgrow (fun j hj=>.inr (hfrs j hj));have hfr3:∀x,v'.ownBlock=some x→W.heap.size≤x:=fun x hx=>by
     rcases hfr x hx with h|h
     ·exact hfrs x h
     ·have:=hm2.size;simp at h;omega
    go_roundw
    case rel=>
     refine⟨k+1,by omega,by go_num,by rw[hsnH.out],by rw[hsnH.out];congr 1;omega,hm3,?_,hfr3⟩;rw[hpcH.out];exact hown3
    case measure=>simp[intOf];omega
  ·obtain rfl:k=fs.length:=by omega
   obtain⟨b1,b2,b3,b4⟩:=pD fs hg;have hsz:jQ fs=dj (bu fs).1 (bu fs).2:=rfl;clear hg h;rw[List.take_length];generalize bu fs=s at*;obtain⟨en,mo⟩:=s;simp only at b1 b2 b3 b4 hsz;have hszH:=zh hsz;clear hsz;go_wp2_with fail;refine(yb en mo (by omega) (by omega) (by omega) (by omega) _).mono ?_;rintro e w1 ⟨rfl,hm1⟩;go_wp2_with fail;go_ret2;exact⟨u4,by rw[hszH.out];rfl,(hm0.ag hm).ag hm1,aG hrow hm1 (by simp)⟩
theorem r9 (len:Int) (v:Value) (fs:List aM) (w:World) (h:aw w v fs) (hn: -9223372036854775808≤len) (hn2:len≤9223372036854775807):
  Calls Tryz.prog 93 #[.agg #[.int .i64 len,v]] w fun e w'=>e=.returned (.int .i64 (bS len fs))∧Mod [] w w':=by
 have q0:=an w (.cells #[.int .i64 len,v] 54);have hm0:=(Mod.refl [] w).alloc (.cells #[.int .i64 len,v] 54);have h':=h.mod hm0;have hln:=fun ty w=>h.len ty w
 have hsm:=h.small;have hE:bS len fs=if len<0 then 3 else if 65536<len then 4 else if kY len fs then 3 else if 32<fs.length then 4 else if iG fs≠0 then iG fs else if 65536<cC len fs then 4 else 0:=rfl
 by_cases t1:len<0
 ·rw[if_pos t1]at hE;rw[hE];clear hE h h';go_enter Tryz.func93,Tryz.ntmps93;go_wp2_with fail;go_ret;exact⟨rfl,hm0⟩
 ·rw[if_neg t1]at hE;by_cases t2:65536<len
  ·rw[if_pos t2]at hE;rw[hE];clear hE h h';go_enter Tryz.func93,Tryz.ntmps93;go_wp2_with fail;go_ret;exact⟨rfl,hm0⟩
  ·rw[if_neg t2]at hE;by_cases t3:kY len fs
   ·rw[if_pos t3]at hE;rw[hE];clear hE h h';rcases t3 with⟨t3,t4⟩|⟨t3,t4⟩
    ·subst t3;rw[t4]at hln;go_enter Tryz.func93,Tryz.ntmps93;go_wp2_with fail;go_ret;exact⟨rfl,hm0⟩
    ·have t5:¬(len=0):=by omega
     go_enter Tryz.func93,Tryz.ntmps93;go_wp2_with fail;go_ret;exact⟨rfl,hm0⟩
   ·rw[if_neg t3]at hE;by_cases t4:32<fs.length
    ·rw[if_pos t4]at hE;rw[hE];clear hE h h';by_cases t5:len=0
     ·subst t5;have t6:((fs.length:Int)==0)=false:=by simp only[beq_eq_false_iff_ne];omega
      clear t3;go_enter Tryz.func93,Tryz.ntmps93;go_wp2_with fail;go_ret;exact⟨rfl,hm0⟩
     ·exact absurd (.inr ⟨by omega,by omega⟩) t3
    ·rw[if_neg t4]at hE;have hEH:=zh hE;clear hE;by_cases t5:len=0
     ·subst t5;have t6:((fs.length:Int)==0)=false:=by
       simp only[beq_eq_false_iff_ne];intro e;exact t3 (.inl ⟨rfl,by omega⟩)
      have t7:(0:Int)<0→fs.length=1:=fun h=>absurd h (by omega)
      clear t3;go_enter Tryz.func93,Tryz.ntmps93;go_wp2_with fail;have hT:=zh (t7);clear t6;generalize w.alloc (.cells #[.int .i64 (0),v] 54)=W at*;go_loopw [3] (fun i wr=>∃k:Nat,k≤fs.length∧i=.int .i64 k∧Mod [] W wr∧Good (fs.take k)) (fun i _=>fs.length-(intOf i).toNat)
      case atStart=>exact⟨0,by omega,rfl,Mod.refl _ _,by simp[Good]⟩
      case round=>
       obtain⟨k,hk,rfl,hm,hgk⟩:=hrel;have cb:=ae (hm.at q0 (by simp));by_cases hlt:k<fs.length
       ·rcases h' with⟨_,rfl⟩|⟨sb,so,cap,rfl,g2,g3,g4⟩
        ·simp at hlt
        ·have c1:=(bg hm g2 (by simp)).trans (g4 k hlt).1;have c2:=(bg hm g2 (by simp)).trans (g4 k hlt).2;have hfe:=pE hlt hgk;have hgs:=p5 hlt hgk;clear g4 hgk h;generalize fs[k]=f at*;obtain⟨fk,fc⟩:=f;simp only at c1 c2;by_cases a1:fk<1
         ·have he:bM (fk,fc)=8:=by simp[bM,a1]
          have hfe:=hfe (by rw[he];decide);rw[he]at hfe;clear hgs he;go_wp2_with fail;go_ret;refine⟨?_,hm0.ag (hm.alloc _)⟩;rw[hEH.out,hfe,if_pos (by decide)];rfl
         ·by_cases a2:6<fk
          ·have he:bM (fk,fc)=8:=by simp[bM,a2]
           have hfe:=hfe (by rw[he];decide);rw[he]at hfe;clear hgs he;go_wp2_with fail;go_ret;refine⟨?_,hm0.ag (hm.alloc _)⟩;rw[hEH.out,hfe,if_pos (by decide)];rfl
          ·by_cases a3:fk=6
           ·subst a3;by_cases a4:fc<1
            ·have he:bM (6,fc)=3:=by simp[bM,a4]
             have hfe:=hfe (by rw[he];decide);rw[he]at hfe;clear hgs he;go_wp2_with fail;go_ret;refine⟨?_,hm0.ag (hm.alloc _)⟩;rw[hEH.out,hfe,if_pos (by decide)];rfl
            ·by_cases a5:65536<fc
             ·have he:bM (6,fc)=4:=by simp[bM,a4,a5]
              have hfe:=hfe (by rw[he];decide);rw[he]at hfe;clear hgs he;go_wp2_with fail;go_ret;refine⟨?_,hm0.ag (hm.alloc _)⟩;rw[hEH.out,hfe,if_pos (by decide)];rfl
             ·have he:bM (6,fc)=0:=by simp[bM,a4,a5]
              have hgs:=hgs he;clear hfe he;go_wp2_with fail;go_roundw
              case rel=>exact⟨k+1,by omega,by go_num,hm.alloc _,hgs⟩
              case measure=>simp[intOf];omega
           ·by_cases a4:fc=0
            ·subst a4;have he:bM (fk,0)=0:=by simp[bM,a1,a2,a3]
             have hgs:=hgs he;clear hfe he;go_wp2_with fail;go_roundw
             case rel=>exact⟨k+1,by omega,by go_num,hm.alloc _,hgs⟩
             case measure=>simp[intOf];omega
            ·have he:bM (fk,fc)=3:=by simp[bM,a1,a2,a3,a4]
             have a5:(fc != 0)=true:=by simpa using a4
             have a6:(fc==0)=false:=by simpa using a4
             have hfe:=hfe (by rw[he];decide);rw[he]at hfe;clear hgs he;go_wp2_with fail;go_ret;refine⟨?_,hm0.ag (hm.alloc _)⟩;rw[hEH.out,hfe,if_pos (by decide)];rfl
       ·obtain rfl:k=fs.length:=by omega
        rw[List.take_length]at hgk;have hr:=hm.at q0 (by simp);have hfirst:=nP hgk;clear h;have hP:=zh (BI v fs _ (h'.mod hm) hgk (by omega));have hs0:cC 0 fs=jQ fs:=by simp[cC]
        go_wp2_with fail;refine hP.out.mono ?_;rintro e w1 ⟨pv,rfl,hm1,_⟩;rw[hs0]at hEH;by_cases hbig:65536<jQ fs
        ·go_wp2_with fail;go_ret;refine⟨?_,(hm0.ag hm).ag hm1⟩;rw[hEH.out,hfirst,if_neg (by simp),if_pos hbig];rfl
        ·go_wp2_with fail;go_ret;refine⟨?_,(hm0.ag hm).ag hm1⟩;rw[hEH.out,hfirst,if_neg (by simp),if_neg (by omega)];rfl
     ·have t60:fs.length=1:=by
       by_cases e:fs.length=1
       ·exact e
       ·exact absurd (.inr ⟨by omega,e⟩) t3
      have t7:0<len→fs.length=1:=fun _=>t60
      have t8:0<len:=by omega
      have t9:=zh t7;have t6:((fs.length:Int)==1)=true:=by simp[t60]
      clear t3 t7 t60;go_enter Tryz.func93,Tryz.ntmps93;go_wp2_with fail;have hT:=zh (t9.out);clear t6;generalize w.alloc (.cells #[.int .i64 (len),v] 54)=W at*;go_loopw [3] (fun i wr=>∃k:Nat,k≤fs.length∧i=.int .i64 k∧Mod [] W wr∧Good (fs.take k)) (fun i _=>fs.length-(intOf i).toNat)
      case atStart=>exact⟨0,by omega,rfl,Mod.refl _ _,by simp[Good]⟩
      case round=>
       obtain⟨k,hk,rfl,hm,hgk⟩:=hrel;have cb:=ae (hm.at q0 (by simp));by_cases hlt:k<fs.length
       ·rcases h' with⟨_,rfl⟩|⟨sb,so,cap,rfl,g2,g3,g4⟩
        ·simp at hlt
        ·have c1:=(bg hm g2 (by simp)).trans (g4 k hlt).1;have c2:=(bg hm g2 (by simp)).trans (g4 k hlt).2;have hfe:=pE hlt hgk;have hgs:=p5 hlt hgk;clear g4 hgk h;generalize fs[k]=f at*;obtain⟨fk,fc⟩:=f;simp only at c1 c2;by_cases a1:fk<1
         ·have he:bM (fk,fc)=8:=by simp[bM,a1]
          have hfe:=hfe (by rw[he];decide);rw[he]at hfe;clear hgs he;go_wp2_with fail;go_ret;refine⟨?_,hm0.ag (hm.alloc _)⟩;rw[hEH.out,hfe,if_pos (by decide)];rfl
         ·by_cases a2:6<fk
          ·have he:bM (fk,fc)=8:=by simp[bM,a2]
           have hfe:=hfe (by rw[he];decide);rw[he]at hfe;clear hgs he;go_wp2_with fail;go_ret;refine⟨?_,hm0.ag (hm.alloc _)⟩;rw[hEH.out,hfe,if_pos (by decide)];rfl
          ·by_cases a3:fk=6
           ·subst a3;by_cases a4:fc<1
            ·have he:bM (6,fc)=3:=by simp[bM,a4]
             have hfe:=hfe (by rw[he];decide);rw[he]at hfe;clear hgs he;go_wp2_with fail;go_ret;refine⟨?_,hm0.ag (hm.alloc _)⟩;rw[hEH.out,hfe,if_pos (by decide)];rfl
            ·by_cases a5:65536<fc
             ·have he:bM (6,fc)=4:=by simp[bM,a4,a5]
              have hfe:=hfe (by rw[he];decide);rw[he]at hfe;clear hgs he;go_wp2_with fail;go_ret;refine⟨?_,hm0.ag (hm.alloc _)⟩;rw[hEH.out,hfe,if_pos (by decide)];rfl
             ·have he:bM (6,fc)=0:=by simp[bM,a4,a5]
              have hgs:=hgs he;clear hfe he;go_wp2_with fail;go_roundw
              case rel=>exact⟨k+1,by omega,by go_num,hm.alloc _,hgs⟩
              case measure=>simp[intOf];omega
           ·by_cases a4:fc=0
            ·subst a4;have he:bM (fk,0)=0:=by simp[bM,a1,a2,a3]
             have hgs:=hgs he;clear hfe he;go_wp2_with fail;go_roundw
             case rel=>exact⟨k+1,by omega,by go_num,hm.alloc _,hgs⟩
             case measure=>simp[intOf];omega
            ·have he:bM (fk,fc)=3:=by simp[bM,a1,a2,a3,a4]
             have a5:(fc != 0)=true:=by simpa using a4
             have a6:(fc==0)=false:=by simpa using a4
             have hfe:=hfe (by rw[he];decide);rw[he]at hfe;clear hgs he;go_wp2_with fail;go_ret;refine⟨?_,hm0.ag (hm.alloc _)⟩;rw[hEH.out,hfe,if_pos (by decide)];rfl
       ·obtain rfl:k=fs.length:=by omega
        rw[List.take_length]at hgk;have hr:=hm.at q0 (by simp);have hfirst:=nP hgk;clear h;have hone:=hT.out t8;rcases h'.mod hm with⟨_,rfl⟩|⟨sb,so,cap,rfl,g2,g3,g4⟩
        ·simp at hone
        ·have c1:=(g4 0 (by omega)).1;have c2:=(g4 0 (by omega)).2;have hgf:=jh (hgk fs[0] (List.getElem_mem (by omega)));have hst:cC len fs=len*wid fs[0]:=by
          unfold cC;rw[if_pos t8,oX hone]
         clear g4 hgk h';generalize fs[0]=f at*;obtain⟨fk,fc⟩:=f;simp only[Nat.zero_mul,Nat.add_zero]at c1 c2;obtain⟨f1,f2,f3,f4,_⟩:=hgf;have hmul:len*wid (fk,fc)≤65536*65536:=Int.mul_le_mul (by omega) f4 (by omega) (by omega);have hmul0:0≤len*wid (fk,fc):=Int.mul_nonneg (by omega) (by omega);rw[hst]at hEH;have hcm:wid (fk,fc)*len=len*wid (fk,fc):=Int.mul_comm _ _;have hw:wrap64 (len*wid (fk,fc))=len*wid (fk,fc):=by
          generalize len*wid (fk,fc)=z at*;unfold wrap64;omega
         have h10:0<fs.length:=by omega
         clear hone hst hT t9;go_wp2_with fail;refine(wh fk fc f1 f2 _).mono ?_;rintro e w1 ⟨rfl,hm1⟩;have cb:=ae (hm1.at hr (by simp));generalize wid (fk,fc)=wd at*;rw[←hcm]at hEH hw;clear hcm;by_cases hbig:65536<wd*len
         ·go_wp2_with fail;go_ret;refine⟨?_,(hm0.ag hm).ag hm1⟩;rw[hEH.out,hfirst,if_neg (by simp),if_pos hbig];rfl
         ·go_wp2_with fail;go_ret;refine⟨?_,(hm0.ag hm).ag hm1⟩;rw[hEH.out,hfirst,if_neg (by simp),if_neg (by omega)];rfl
def da (R:List Ty) (t:Ty):List Ty:=if bS t.1 t.2=0∧t∉R∧R.length<255 then R++[t]else R
def kg (R:List Ty) (t:Ty):Int:=if bS t.1 t.2≠0 then 0 else if t∈R then R.idxOf t+1 else if R.length<255 then R.length+1 else 0
def iW (R:List Ty) (t:Ty):Int:=if bS t.1 t.2≠0 then bS t.1 t.2 else if t∈R then 0 else if R.length<255 then 0 else 4
def iy (R:List Ty) (t:Ty):Value:=.tuple #[.int .i64 (kg R t),.int .i64 (iW R t)]
theorem yq {R:List Ty} {t:Ty} (h:bS t.1 t.2≠0):da R t=R∧iy R t=.tuple #[.int .i64 0,.int .i64 (bS t.1 t.2)]:=by
 simp[da,iy,kg,iW,h]
theorem vQ {R:List Ty} {t:Ty} (h:bS t.1 t.2=0) (hm:t∈R):da R t=R∧iy R t=.tuple #[.int .i64 (R.idxOf t+1),.int .i64 0]:=by
 simp[da,iy,kg,iW,h,hm]
theorem xy {R:List Ty} {t:Ty} (h:bS t.1 t.2=0) (hm:t∉R) (hl:¬R.length<255):da R t=R∧iy R t=.tuple #[.int .i64 0,.int .i64 4]:=by
 simp[da,iy,kg,iW,h,hm,hl]
theorem yz {R:List Ty} {t:Ty} (h:bS t.1 t.2=0) (hm:t∉R) (hl:R.length<255):da R t=R++[t]∧iy R t=.tuple #[.int .i64 (R.length+1),.int .i64 0]:=by
 simp[da,iy,kg,iW,h,hm,hl]
theorem pR {T:TypeId} {rb:Nat} {R:List Ty} {sv v:Value} {L:List (Ty×Value)} {f:List Nat} {w w':World} {e:Ending} (he:e=.returned v) (h:af f w (pe T rb sv L) w') (h1:L.map (·.1)=R) (h2:∀t∈R,du t) (h3:R.length≤255):bD (dN T rb R) v w f e w':=by
 obtain⟨f',k1,k2,k3⟩:=h.done;exact⟨f',he,⟨sv,L,h1,h2,h3,k1⟩,k2,k3⟩
theorem Dq {T:TypeId} {rb:Nat} {sv:Value} {L:List (Ty×Value)} {w:World} {f:List Nat} (h:aU (pe T rb sv L) w f):sv.ownBlock≠some rb:=by
 obtain⟨f1,g1,⟨_,e1⟩,⟨f2,g2,⟨_,e2⟩,_,_,e3⟩,hd,_⟩:=h;intro e;refine hd rb (by rw[e1];simp) ?_;rw[e3,e2,e];simp
theorem Ay {F:List Nat} {W w:World} {A L:List (Ty×Value)} {x b r:ai} (h:af F W [gh A,x,b,r,gh L] w):af F W [b,r,gh (L++A)] w:=by
 obtain⟨hm,fp,⟨f1,_,a1,⟨f2,_,a2,⟨f3,_,a3,⟨f4,_,a4,⟨f5,_,a5,rfl,d5,rfl⟩,d4,rfl⟩,d3,rfl⟩,d2,rfl⟩,d1,rfl⟩,hf⟩:=h;have d1':∀y∈f1,y∉f3∧y∉f4∧y∉f5:=fun y hy=>by
  have:=d1 y hy;simp only[List.mem_append,not_or]at this;exact⟨this.2.1,this.2.2.1,this.2.2.2.1⟩
 refine⟨hm,f3++(f4++((f5++f1)++[])),⟨f3,_,a3,⟨f4,_,a4,⟨f5++f1,[],⟨fun p hp=> ?_,?_⟩,rfl,by simp,rfl⟩,fun y hy hy2=> ?_,rfl⟩,fun y hy hy2=> ?_,rfl⟩,fun y hy=>hf y ?_⟩
 ·rcases List.mem_append.1 hp with hp|hp
  ·exact a5.1 p hp
  ·exact a1.1 p hp
 ·rw[a5.2,a1.2];simp[kJ]
 ·simp only[List.mem_append,List.not_mem_nil,or_false]at hy2;rcases hy2 with h|h
  ·exact d4 y hy (by simp[h])
  ·exact(d1' y h).2.1 hy
 ·simp only[List.mem_append,List.not_mem_nil,or_false]at hy2;rcases hy2 with h|h|h
  ·exact d3 y hy (by simp[h])
  ·exact d3 y hy (by simp[h])
  ·exact(d1' y h).1 hy
 ·simp only[List.mem_append,List.not_mem_nil,or_false]at hy⊢;rcases hy with h|h|h|h
  ·exact .inr (.inr (.inl h))
  ·exact .inr (.inr (.inr (.inl h)))
  ·exact .inr (.inr (.inr (.inr h)))
  ·exact .inl h
theorem DO {w:World} {v:Value} {n:Nat} {xs:List Value} (h:w.ownsRow 0 54 2 v n xs) {g:Nat} (hg:v.ownBlock=some g):g<w.heap.size:=(h.lt g hg).2
theorem se {F:List Nat} {W w:World} {cs:List ai} (i:Nat) {b:Nat} {xs:Array Value} {T:TypeId} {fr:Nat×Nat} (h:af F W cs w) (hi:cs[i]? =some (aj b (.cells xs T fr))) (o:Nat) (v:Value):
  af F W (cs.set i (aj b (.cells (xs.setIfInBounds o v) T fr))) (w.setCell ⟨b,o,none⟩ v):=by
 obtain⟨f,⟨h1,rfl⟩,hk⟩:=h.part i hi;exact hk _ [b] _ ⟨aq h1,rfl⟩ ((Mod.refl _ _).setCell (.inl (by simp)) v) (fun x hx=>.inl hx)
theorem wg:(Tryz.prog.info? 54).map (fun i=>(i.zero,i.size,i.bytes))=some (some (.agg #[.int .i64 0,.slice none 0 0]),2,32):=by kernel_rfl
theorem oJ {w:World} {v:Value} {n:Nat} {xs:List Value} {b:Nat} (h:w.ownsRow b 51 2 v n xs):∃a m c,v=.slice a m c:=by
 rcases dr h with⟨h,_⟩|⟨g,cap,h,_⟩
 ·exact⟨_,_,_,h⟩
 ·exact⟨_,_,_,h⟩
theorem Am {rb:Nat} {R:List Ty} {w:World} {f:List Nat} (h:(dN 156 rb R).on w f) (len:Int) (v:Value) (fs:List aM) (hF:aw w v fs) (hn: -9223372036854775808≤len) (hn2:len≤9223372036854775807):
  Calls Tryz.prog 37 #[.pointer (some ⟨rb,0,none⟩),.agg #[.int .i64 len,v]] w (bD (dN 156 rb (da R (len,fs))) (iy R (len,fs)) w f):=by
 obtain⟨sv,L,hLR,hok,h255,hH⟩:=h;have hap:=Dq hH;have hrow0:=(af.start hH).row 1 rfl;have hbx:w.heap.size∉sv.ownBlock.toList:=fun hx=>by have:=DO hrow0 (g:=w.heap.size) (by simpa using hx);omega
 have hbxH:=zh hbx;have hS:=(af.start hH).alloc (.cells #[.int .i64 len,v] 54);have hFA:=hF.mod ((Mod.refl [] w).alloc (.cells #[.int .i64 len,v] 54));have hC:=zh (mZ len v fs _ hFA hn hn2);have hlenR:L.length=R.length:=by rw[←hLR,List.length_map]
 have hlenH:=zh hlenR;have hL255:L.length≤255:=by omega
 have hbox:=hS.block 0 rfl;have cbox:=ae hbox;have hSH:=zh hS;have hFH:=zh hFA;have hokH:=zh hok;have hLRH:=zh hLR;have hapH:=zh hap;have br:w.heap.size<(w.alloc (.cells #[.int .i64 len,v] 54)).heap.size:=by simp
 clear hS hFA hF hH hok hLR hap hbox hrow0 hbx hlenR;generalize hR':da R (len,fs)=R';generalize hV':iy R (len,fs)=V';have hR'H:=zh hR';have hV'H:=zh hV';clear hR' hV';go_enter Tryz.func37,Tryz.ntmps37;go_wp2_with fail;generalize w.alloc (.cells #[.int .i64 len,v] 54)=W0 at*;refine hC.out.mono ?_;rintro e w1 ⟨rfl,hm1⟩;have hS1:=zh (hSH.out.then hm1);have hF1:=zh (hFH.out.mod hm1);have hsz:=hm1.size;clear hC hSH hFH hm1 cbox;have hc0:=ae (hS1.out.block 0 rfl);have hc1:=ae (hS1.out.block 1 rfl);by_cases he:bS len fs=0
 ·rw[he];have hI:=zh (Db len v fs w.heap.size w1 hF1.out (hS1.out.block 0 rfl) (hS1.out.row 2 rfl) (pn 3 hS1.out rfl) (by omega));by_cases hm:(len,fs)∈R
  ·obtain⟨k1,k2⟩:=vQ (t:=(len,fs)) he hm;have hi:lO (L.map (·.1)) (len,fs)=R.idxOf (len,fs):=by rw[hLRH.out];exact if_pos hm
   rw[hi]at hI;have hq:=List.idxOf_lt_length_of_mem hm;have eR:=hR'H.out.symm.trans k1;have eV:=hV'H.out.symm.trans k2;subst eR eV;clear hR'H hV'H;clear he k1 k2 hi hm;generalize List.idxOf (len,fs) _=q at*;go_wp2_with fail;refine hI.out.mono ?_;rintro e w2 ⟨rfl,hm2⟩;clear hI;go_wp2_with fail;go_ret2;exact pR rfl ((hS1.out.then hm2).erase 0) hLRH.out hokH.out h255
  ·have hi:lO (L.map (·.1)) (len,fs)= -1:=by rw[hLRH.out];exact vW hm
   rw[hi]at hI;have hmH:=zh hm;clear hi hm;by_cases hl:R.length<255
   ·have hl2:L.length<255:=by have:=hlenH.out;omega
    obtain⟨k1,k2⟩:=yz (t:=(len,fs)) he hmH.out hl;have eR:=hR'H.out.symm.trans k1;have eV:=hV'H.out.symm.trans k2;subst eR eV;clear hR'H hV'H;have hb:=du.bounds (t:=(len,fs)) he;have heH:=zh he;clear he k1 k2;have hfl:fs.length≤32:=hb.2.2;clear hb;go_wp2_with fail;refine hI.out.mono ?_;rintro e w2 ⟨rfl,hm2⟩;have hln:=fun ty w=>fY (ty:=ty) Tryz.underlying63 (hS1.out.row 2 rfl) w
    have hS2:=zh (hS1.out.then hm2);have hF2:=zh (hF1.out.mod hm2);have hb1:=hS2.out.block 1 rfl;have hb0:=hS2.out.block 0 rfl;have hc1:=ae hb1;have hsz2:=hm2.size;clear hI hS1 hF1 hm2;go_wp2_with fail;have k1:=GW.cells (S:=sv.ownBlock.toList) hb1 (by simpa using hapH.out);have k2:=GW.cells (S:=sv.ownBlock.toList) hb0 hbxH.out;clear hc1 hc0 hb1 hb0 hln;refine bY (fun w'=>∃x:GW sv.ownBlock.toList w2,w'=x.1) (fun w'=>Mod [] w2 w') (by kernel_rfl) (by kernel_rfl) (fun _ h=>ah.of (h.mono (by simp))) (Mod.refl _ _).drew ?_;refine sq 6 ?_;refine cD 73 #[.agg #[.int .i64 len,v]] (fun u=>∃a m c,u=.agg #[.int .i64 len,.slice a m c]) (fun u w'=>Mod [] w2 w'∧∃v',u=.agg #[.int .i64 len,v']∧w'.ownsRow w2.heap.size 51 2 v' fs.length (ax fs)) rfl Tryz.call73 rfl rfl ⟨_,none,0,0,rfl⟩ (fun w' hw=>(wc len v fs (by omega) w' (hF2.out.mod hw)).mono fun e w'' ⟨v',he,hr,hm⟩=>⟨_,he,?_,hw.ag hm,v',rfl,aE hr hw.size⟩) (fun v w' h=>ah.of (h.1.mono (by simp))) (fun u hu=> ?_)
    ·obtain⟨a,m,c,rfl⟩:=oJ hr;exact⟨a,m,c,rfl⟩
    obtain⟨a,m,c,rfl⟩:=hu;simp only[Act.put,sA,sB,sC];refine aO (fun s=>.slice (some ⟨s,0,none⟩) 1 1) (.cells #[.int .i64 len,.slice a m c] 54 (0,0)) (fun s w'=>Mod [] w2 w'∧w'.ownsRow w2.heap.size 51 2 (.slice a m c) fs.length (ax fs)∧w'.heap[s]? =some (.cells #[.int .i64 len,.slice a m c] 54 (0,0))) (by intro s s' h;simpa using h) rfl rfl (fun w' hw=> ?_) (fun w' hw=> ?_) (fun s w' h=>ah.of (h.1.mono (by simp))) (fun s=> ?_)
    ·kernel_rfl
    ·obtain⟨h1,v',h2,h3⟩:=hw;simp at h2;subst h2;exact⟨h1.alloc _,aG h3 ((Mod.refl [] w').alloc _) (by simp),an _ _⟩
    simp only[Act.put,sA,sB,sC];obtain⟨i0,hi0,hz0,hz1,hz2⟩:=info_parts wg;refine cP (fun u=>∃g cap,u=.slice (some ⟨g,0,none⟩) (L.length+1) cap) (fun u w'=>Mod sv.ownBlock.toList w2 w'∧af f w [aj rb (.cells #[sv] 156 (0,0)),aT u (L.length+1) 54 2 (flat bZ (L++[((len,fs),.slice a m c)])),gh (L++[((len,fs),.slice a m c)])] w') rfl rfl ⟨_,0,0,rfl⟩ (fun w' hw=> ?_) (fun u w' h=>ah.of h.1) (fun u hu=> ?_)
    ·obtain⟨h1,h2,h3⟩:=hw;have hS3:=hS2.out.add (c:=gh [((len,fs),.slice a m c)]) (f:=kJ [((len,fs),.slice a m c)]) h1 ⟨fun p hp=>by rw[List.mem_singleton.1 hp];exact fW h2 rfl,rfl⟩ (fun x hx=>by
      obtain⟨p,hp,hx⟩:=ln hx;rw[List.mem_singleton.1 hp]at hx;exact(h2.lt x hx).1)
     obtain⟨v',w3,hr,r2,r3,r4⟩:=gG (P:=Tryz.prog) w' 63 63 54 i0 (.agg #[.int .i64 0,.slice none 0 0]) 2 32 Tryz.underlying63 hi0 hz0 hz1 hz2 rfl (by decide) sv L.length (flat bZ L) (hS3.row 3 rfl) ⟨s,0,none⟩ 1 1 [.int .i64 len,.slice a m c] rfl (fun j u hj=>by rw[eT,Nat.zero_add,ae h3];simpa using hj) (by simp[Value.oneCell']) (by unfold maxLen;omega) (by omega);obtain⟨g',cap',rfl,_,_⟩:=cW r2 (by omega);have e:flat bZ L++[.int .i64 len,.slice a m c]=flat bZ (L++[((len,fs),.slice a m c)]):=by rw[lY,mg];rfl
     rw[e]at r2;exact⟨_,w3,eM _ _ 63 rfl rfl rfl hr,⟨g',cap',rfl⟩,(h1.mono (by simp)).grown r3 (fun k hk=>.inl (by simp[hk])),Ay (hS3.grown 3 rfl r2 r3 r4)⟩
    obtain⟨g,cap,rfl⟩:=hu;refine sq 2 ?_;refine dq (p:=⟨rb,0,none⟩) (u:=.slice (some ⟨g,0,none⟩) (L.length+1) cap) (fun w'=>w'.setCell ⟨rb,0,none⟩ (.slice (some ⟨g,0,none⟩) (L.length+1) cap)) rfl rfl (by kernel_rfl) rfl rfl rfl (fun w' hw=> ?_) (fun w' hw=> ?_)
    ·have c1:=ae (hw.2.block 0 rfl);have f1:=ay (hw.2.block 0 rfl);clear k1 k2;go_simp
    ·have hS4:=se 0 hw.2 rfl 0 (.slice (some ⟨g,0,none⟩) (L.length+1) cap);have hcb:=ae (hS4.block 0 rfl);have hln:=fun ty w=>fY (ty:=ty) Tryz.underlying63 (hS4.row 1 rfl) w
     have hS4H:=zh hS4;clear k1 k2 hS4 hw;go_wp2_with fail;go_ret2;have hP:af f w (pe 156 rb (.slice (some ⟨g,0,none⟩) (L.length+1) cap) (L++[((len,fs),.slice a m c)])) (w'.setCell ⟨rb,0,none⟩ (.slice (some ⟨g,0,none⟩) (L.length+1) cap)):=by
      unfold pe;rw[show(L++[((len,fs),Value.slice a m c)]).length=L.length+1 by simp];exact hS4H.out
     refine pR (by simp[←hlenH.out]) hP ?_ (fun t ht=> ?_) ?_
     ·rw[List.map_append,hLRH.out];rfl
     ·rcases List.mem_append.1 ht with h|h
      ·exact hokH.out t h
      ·rw[List.mem_singleton.1 h];exact heH.out
     ·rw[List.length_append];simp;omega
   ·have hl2:¬L.length<255:=by have:=hlenH.out;omega
    obtain⟨k1,k2⟩:=xy (t:=(len,fs)) he hmH.out hl;have eR:=hR'H.out.symm.trans k1;have eV:=hV'H.out.symm.trans k2;subst eR eV;clear hR'H hV'H;clear he k1 k2;go_wp2_with fail;refine hI.out.mono ?_;rintro e w2 ⟨rfl,hm2⟩;have hln:=fun ty w=>fY (ty:=ty) Tryz.underlying63 (hS1.out.row 2 rfl) w
    have hS2:=zh (hS1.out.then hm2);have hc1:=ae (hS2.out.block 1 rfl);clear hI hS1 hm2;go_wp2_with fail;go_ret2;exact pR rfl (hS2.out.erase 0) hLRH.out hokH.out h255
 ·obtain⟨k1,k2⟩:=yq (R:=R) (t:=(len,fs)) he;have eR:=hR'H.out.symm.trans k1;have eV:=hV'H.out.symm.trans k2;subst eR eV;clear hR'H hV'H;have heH:=zh he;have z:(bS len fs==0)=false:=by simp only[beq_eq_false_iff_ne];exact he
  clear he k1 k2;generalize bS len fs=q at*;go_wp2_with fail;go_ret2;exact pR rfl (hS1.out.erase 0) hLRH.out hokH.out h255
def Src (w:World) (v:Value) (m:Nat) (news:List Value):Prop:=
 (v=.slice none 0 0∧m=0∧news=[])∨∃a c,v=.slice (some a) m c∧∀j u,news[j]? =some u→w.cell? (a.add j)=some u
theorem lF {w:World} {b sz n:Nat} {e:TypeId} {v:Value} {xs:List Value} (h:w.ownsRow b e sz v n xs):Src w v n xs:=by
 rcases dr h with⟨h1,h2,h3⟩|⟨g,cap,h1,_⟩
 ·exact .inl ⟨h1,h2,h3⟩
 ·exact .inr ⟨⟨g,0,none⟩,cap,h1,h.cells (g:=g) (by rw[h1];rfl)⟩
theorem l4 {w:World} {v:Value} {fs:List aM} (h:aw w v fs):Src w v fs.length (ax fs):=by
 have h':=h;rcases h with⟨h1,h2⟩|⟨sb,so,cap,rfl,_⟩
 ·subst h2;exact .inl ⟨h1,rfl,rfl⟩
 ·exact .inr ⟨_,cap,rfl,iR h'⟩
theorem ij {P:Program} (w:World) (t ty e:TypeId) (i:TypeInfo) (z:Value) (size bytes:Nat) (ht:P.underlying t=some (.slice e)) (hi:P.info? e=some i) (hz:i.zero=some z)
  (hsize:i.size=size) (hby:i.bytes=bytes) (hzs:z.cells.size=size) (hsz:0<size) (v:Value) (n:Nat) (xs:List Value) (hown:w.ownsRow 0 e size v n xs)
  (u:Value) (m:Nat) (news:List Value) (hu:Src w u m news) (hl:news.length=m*size) (h1:∀u∈news,u.oneCell'=true) (h63:n+m≤maxLen) (hbytes:(n+m)*bytes≤140737488355328):
  ∃v' w',(Builtin.append_ #[t,t] ty #[v,u]).run P w=.ok v' w'∧w'.ownsRow 0 e size v' (n+m) (xs++news)∧w.grownBy w' v.ownBlock∧∀x,v'.ownBlock=some x→v.ownBlock=some x∨w.heap.size≤x:=by
 rcases hu with⟨rfl,rfl,rfl⟩|⟨a,c,rfl,hc⟩
 ·exact⟨v,w,run_append_owned_none w 0 t ty e i size ht hi v n xs hown,by simpa using hown,⟨rfl,rfl,rfl,Nat.le_refl _,fun _ _ _=>rfl⟩,fun x hx=>.inl hx⟩
 ·exact gG (P:=P) w t ty e i z size bytes ht hi hz hsize hby hzs hsz v n xs hown a m c news hl hc h1 h63 hbytes
theorem B4 {w:World} {L:List (Ty×Value)} (h:∀p∈L,aw w p.2 p.1.2):∀u∈flat bZ L,u.oneCell'=true:=by
 intro u hu;obtain⟨p,hp,hu⟩:=List.mem_flatMap.1 hu;simp only[bZ,List.mem_cons,List.not_mem_nil,or_false]at hu;rcases hu with rfl|rfl
 ·rfl
 ·rcases h p hp with⟨h,_⟩|⟨_,_,_,h,_⟩<;>rw[h]<;>rfl
theorem lz {w:World} {s:Nat} {T:TypeId} (h:w.heap[s]? =some (.cells #[] T (0,0))) (b sz:Nat) (hb:b≤s):w.ownsRow b T sz (.slice (some ⟨s,0,none⟩) 0 0) 0 []:=
 ⟨by simp,.inr ⟨s,0,#[],rfl,hb,h,Nat.le_refl _,Nat.zero_le _,by simp,by simp⟩⟩
def jF (W:World) (v:Value) (n:Nat) (xs:List Value) (v':Value) (n':Nat) (ys:List Value) (w:World):Prop:=Mod [] W w∧w.ownsRow W.heap.size 54 2 v n xs∧w.ownsRow W.heap.size 51 2 v' n' ys∧∀x,v.ownBlock=some x→v'.ownBlock≠some x
theorem rl {F:List Nat} {W w:World} {A L:List (Ty×Value)} {x b r r2:ai} (h:af F W [ai.all [gh A,r2],x,b,r,gh L] w):af F W [b,r2,gh (L++A)] w:=by
 obtain⟨hm,fp,⟨f1,_,⟨p1,_,b1,⟨p2,_,b2,rfl,e2,rfl⟩,e1,rfl⟩,⟨f2,_,a2,⟨f3,_,a3,⟨f4,_,a4,⟨f5,_,a5,rfl,d5,rfl⟩,d4,rfl⟩,d3,rfl⟩,d2,rfl⟩,d1,rfl⟩,hf⟩:=h;have d1':∀y,y∈p1∨y∈p2→y∉f3∧y∉f5:=fun y hy=>by
  have:=d1 y (by simpa using hy);simp only[List.mem_append,not_or]at this;exact⟨this.2.1,this.2.2.2.1⟩
 refine⟨hm,f3++(p2++((f5++p1)++[])),⟨f3,_,a3,⟨p2,_,b2,⟨f5++p1,[],⟨fun p hp=> ?_,?_⟩,rfl,by simp,rfl⟩,fun y hy hy2=> ?_,rfl⟩,fun y hy hy2=> ?_,rfl⟩,fun y hy=>hf y ?_⟩
 ·rcases List.mem_append.1 hp with hp|hp
  ·exact a5.1 p hp
  ·exact b1.1 p hp
 ·rw[a5.2,b1.2];simp[kJ]
 ·simp only[List.mem_append,List.not_mem_nil,or_false]at hy2;rcases hy2 with h|h
  ·exact(d1' y (.inr hy)).2 h
  ·exact e1 y h (by simpa using hy)
 ·simp only[List.mem_append,List.not_mem_nil,or_false]at hy2;rcases hy2 with h|h|h
  ·exact(d1' y (.inr h)).1 hy
  ·exact d3 y hy (by simp[h])
  ·exact(d1' y (.inl h)).1 hy
 ·simp only[List.mem_append,List.not_mem_nil,or_false]at hy⊢;rcases hy with h|h|h|h
  ·exact .inr (.inr (.inl h))
  ·exact .inl (.inr h)
  ·exact .inr (.inr (.inr (.inr h)))
  ·exact .inl (.inl h)
theorem sT {w:World} {v:Value} {n:Nat} {xs:List Value} {b:Nat} (h:w.ownsRow b 54 2 v n xs):∃a m c,v=.slice a m c:=by
 rcases dr h with⟨h,_⟩|⟨g,cap,h,_⟩
 ·exact⟨_,_,_,h⟩
 ·exact⟨_,_,_,h⟩
theorem mX {a b:Option Nat} (h:∀x,a=some x→b≠some x):a=none∨a≠b:=by
 cases ha:a with
 |none=>exact .inl rfl
 |some y=>exact .inr fun e=>h y ha e.symm
end Go.Proofs.YtdehaommhbjakaaGreat.Ty
