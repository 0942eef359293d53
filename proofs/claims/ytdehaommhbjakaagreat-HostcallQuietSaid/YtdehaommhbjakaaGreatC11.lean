/- Joined contracts. No conditions. -/
import Derived.Test.YtdehaommhbjakaaGreatC10
set_option maxHeartbeats 4000000
namespace Go.Proofs.YtdehaommhbjakaaGreat.Ty
open RowKit Stg
theorem uz {α:Type} {l m:List α} {k:Nat} (hl:k<l.length) (hm:k<m.length) (h:l.take k=m.take k) (he:l[k]=m[k]):l.take (k+1)=m.take (k+1):=by
 rw[jJ l hl,jJ m hm,h,he]
theorem fF {w:World} {v:Value} {fs:List aM} (h:aw w v fs) {k:Nat} (hk:k<fs.length):∃sb so cap,v=.slice (some ⟨sb,so,none⟩) fs.length cap∧sb<w.heap.size∧w.cell? ⟨sb,so+k*2,none⟩=some (.int .i64 fs[k].1)∧w.cell? ⟨sb,so+k*2+1,none⟩=some (.int .i64 fs[k].2):=by
 rcases h with⟨_,rfl⟩|⟨sb,so,cap,rfl,h2,h3,h4⟩
 ·simp at hk
 ·exact⟨sb,so,cap,rfl,h2,(h4 k hk).1,(h4 k hk).2⟩
theorem Es (v v':Value) (fs fs':List aM) (w:World) (h:aw w v fs) (h':aw w v' fs'):
  Calls Tryz.prog 71 #[v,v'] w fun e w'=>e=.returned (.bool (decide (fs=fs')))∧Mod [] w w':=by
 have hln:=fun ty w=>h.len ty w
 have hln':=fun ty w=>h'.len ty w
 have hs:=h.small;have hs':=h'.small;have hH:=zh h;have hH':=zh h';obtain⟨q,hq⟩:∃q,decide (fs=fs')=q:=⟨_,rfl⟩;rw[hq];have hqH:=zh hq;clear hq h h';by_cases hl:fs.length=fs'.length
 ·simp only[←hl]at hln';have hlH:=zh hl;clear hl;go_enter Tryz.func71,Tryz.ntmps71;go_wp2_with fail;go_loopw [13] (fun i wr=>∃k:Nat,k≤fs.length∧i=.int .i64 k∧Mod [] w wr∧fs.take k=fs'.take k) (fun i _=>fs.length-(intOf i).toNat)
  case atStart=>exact⟨0,by omega,rfl,Mod.refl _ _,by simp⟩
  case round=>
   obtain⟨k,hk,rfl,hm,ht⟩:=hrel;have htH:=zh ht;clear ht;by_cases hk1:k<fs.length
   ·have hk2:k<fs'.length:=by have:=hlH.out;omega
    obtain⟨sb,so,cap,rfl,g1,a1,a2⟩:=fF hH.out hk1;obtain⟨sb',so',cap',rfl,g1',a1',a2'⟩:=fF hH'.out hk2;have a1:=(bg hm g1 (by simp)).trans a1;have a2:=(bg hm g1 (by simp)).trans a2;have a1':=(bg hm g1' (by simp)).trans a1';have a2':=(bg hm g1' (by simp)).trans a2';have k1:=GW.bR (S:=[]) a1 (hm.lt g1) (by simp);have k2:=GW.bR (S:=[]) a2 (hm.lt g1) (by simp);have k3:=GW.bR (S:=[]) a1' (hm.lt g1') (by simp);have k4:=GW.bR (S:=[]) a2' (hm.lt g1') (by simp);have hne:fs[k]≠fs'[k]→fs≠fs':=fun h e=>h (by subst e;rfl)
    have hneH:=zh hne;have htk:=zh fun he=>uz hk1 hk2 htH.out he
    have hle:fs'.length=fs.length:=hlH.out.symm;have hlen':=zh hle;clear a1 a2 a1' a2' hne hle;generalize fs[k]=f at*;generalize fs'[k]=f' at*;obtain⟨f1,f2⟩:=f;obtain⟨f1',f2'⟩:=f';have bad:¬(f1=f1'∧f2=f2')→q=false:=fun hb=>by
     have h1:=hqH.out;rw[decide_eq_false (hneH.out fun e=>hb (by cases e;exact⟨rfl,rfl⟩))]at h1;exact h1.symm
    have badH:=zh bad;clear bad hneH;rw[hlen'.out]at*;clear hlen';by_cases e1:f1=f1'
    ·subst e1;by_cases e2:f2=f2'
     ·subst e2;have z1:(f1==f1)=true:=by simp
      have z2:(f2==f2)=true:=by simp
      clear badH;go_wp2_with fail;refine aS (by kernel_rfl) (by kernel_rfl) ?_;refine sq 9 ?_;refine au fun w7 hm7=> ?_
      clear k1 k2 k3 k4;go_wp2_with fail;go_roundw
      case rel=>exact⟨k+1,by omega,by go_num,hm.ag hm7,htk.out (by first|trivial|rfl)⟩
      case measure=>simp[intOf];omega
     ·have z1:(f1==f1)=true:=by simp
      have z2:(f2==f2')=false:=by simp only[beq_eq_false_iff_ne];exact e2
      have hb:=badH.out (fun h=>e2 h.2);clear badH e2;subst hb;go_wp2_with fail;refine aS (by kernel_rfl) (by kernel_rfl) ?_;refine sq 9 ?_;refine au fun w7 hm7=> ?_
      clear k1 k2 k3 k4;go_wp2_with fail;go_ret;exact⟨rfl,hm.ag hm7⟩
    ·have z1:(f1==f1')=false:=by simp only[beq_eq_false_iff_ne];exact e1
     have hb:=badH.out (fun h=>e1 h.1);clear badH e1;subst hb;go_wp2_with fail;refine aS (by kernel_rfl) (by kernel_rfl) ?_;refine sq 9 ?_;refine au fun w7 hm7=> ?_
     clear k1 k2 k3 k4;go_wp2_with fail;go_ret;exact⟨rfl,hm.ag hm7⟩
   ·have hb:q=true:=by
     rw[←hqH.out,decide_eq_true_eq];have h1:=htH.out;rw[List.take_of_length_le (by omega),List.take_of_length_le (by have:=hlH.out;omega)]at h1;exact h1
    subst hb;go_wp2_with fail;go_ret;exact⟨rfl,hm⟩
 ·have hb:q=false:=by
   rw[←hqH.out,decide_eq_false_iff_not];exact fun e=>hl (by rw[e])
  subst hb;have z1:((fs.length:Int)==(fs'.length:Int))=false:=by simp only[beq_eq_false_iff_ne];omega
  clear hl;go_enter Tryz.func71,Tryz.ntmps71;go_wp2_with fail;go_ret;exact⟨rfl,Mod.refl _ _⟩
theorem fD (fs:List aM):∀u∈ax fs,u.oneCell'=true:=by
 intro u hu;unfold ax at hu;rw[List.mem_flatMap]at hu;obtain⟨f,_,hu⟩:=hu;simp at hu;rcases hu with rfl|rfl<;>rfl
theorem iR {w:World} {sb so cap n:Nat} {fs:List aM} (h:aw w (.slice (some ⟨sb,so,none⟩) n cap) fs):∀j u,(ax fs)[j]? =some u→w.cell? ((⟨sb,so,none⟩:Addr).add j)=some u:=by
 intro j u hu;rcases h with⟨h,_⟩|⟨sb',so',cap',h,h2,h3,h4⟩
 ·simp at h
 ·simp at h;obtain⟨⟨rfl,rfl⟩,rfl,rfl⟩:=h;obtain⟨hj,_⟩:=List.getElem?_eq_some_iff.1 hu;rw[eL]at hj;have hk:j/2<fs.length:=by omega
  obtain⟨e1,e2⟩:=pX fs (j/2) hk;obtain⟨a1,a2⟩:=h4 (j/2) hk;rw[eT];rcases(show j=j/2*2∨j=j/2*2+1 by omega)with h|h
  ·rw[←h]at e1 a1;rw[hu]at e1;rw[a1,Option.some.inj e1]
  ·rw[←h]at e2;rw[show so+j/2*2+1=so+j by omega]at a2;rw[hu]at e2;rw[a2,Option.some.inj e2]
theorem Fe (v:Value) (fs:List aM) (hl:fs.length≤100) (w:World) (h:aw w v fs):
  Calls Tryz.prog 133 #[v] w fun e w'=>∃v',e=.returned v'∧w'.ownsRow w.heap.size 51 2 v' fs.length (ax fs)∧Mod [] w w':=by
 obtain⟨i0,hi0,hz0,hz1,hz2⟩:=info_parts rU;rcases h with⟨rfl,rfl⟩|⟨sb,so,cap,rfl,g2,g3,g4⟩
 ·have hnil:=fun w=>Lib.run_eql_slice_nil (P:=Tryz.prog) w 52 51 none 0 0 0 0 Tryz.underlying52
  go_enter Tryz.func133,Tryz.ntmps133;go_wp2_with fail;go_ret;exact⟨_,rfl,World.ownsRow_nil _ _ _ _,Mod.refl _ _⟩
 ·have hown:(w.alloc (.cells #[] 51 (0,0))).ownsRow w.heap.size 51 2 (.slice (some ⟨w.heap.size,0,none⟩) 0 0) 0 []:=World.ownsRow_made w #[] 0 (Nat.le_refl _) (Nat.zero_le _) rfl;have hmA:=(Mod.refl [] w).alloc (.cells #[] 51 (0,0));have hF:aw (w.alloc (.cells #[] 51 (0,0))) (.slice (some ⟨sb,so,none⟩) fs.length cap) fs:=aw.mod (.inr ⟨sb,so,cap,rfl,g2,g3,g4⟩) hmA;have hcs:=zh (iR hF);clear g4 hF;have h63:0+fs.length≤maxLen:=by unfold maxLen;omega
  have hby:(0+fs.length)*16≤140737488355328:=by omega
  have hfl:(ax fs).length=fs.length*2:=eL fs;have hfl:=zh hfl;have hnil:=fun w=>Lib.run_eql_slice_nil (P:=Tryz.prog) w 52 51 (some ⟨sb,so,none⟩) fs.length cap 0 0 Tryz.underlying52
  go_enter Tryz.func133,Tryz.ntmps133;go_wp2_with (at_builtin;refine dO _ rfl _ _ 52 rfl 51 i0 (.agg #[.int .i64 0,.int .i64 0]) 2 16 Tryz.underlying52 hi0 hz0 hz1 hz2 rfl (by decide) (.slice (some ⟨w.heap.size,0,none⟩) 0 0) 0 [] rfl (aE hown (Nat.zero_le _)) ⟨sb,so,none⟩ fs.length cap (ax fs) rfl hfl.out hcs.out (fD fs) h63 hby ?_;intro v' w1 hown1 hgrow hfr;simp only[Nat.zero_add,List.nil_append]at hown1;have hown1:=zh hown1;have hgrow:=zh hgrow;have hfr:=zh hfr);go_ret;refine⟨_,rfl,cy hown1.out fun g hg=> ?_,hmA.grown hgrow.out fun k hk=>.inr ?_⟩
  ·rcases hfr.out g hg with h|h
   ·have h':some w.heap.size=some g:=h;have:=Option.some.inj h';omega
   ·simp at h;omega
  ·have hk':some w.heap.size=some k:=hk;have:=Option.some.inj hk';omega
theorem wc (len:Int) (v:Value) (fs:List aM) (hl:fs.length≤100) (w:World) (h:aw w v fs):
  Calls Tryz.prog 73 #[.agg #[.int .i64 len,v]] w fun e w'=>∃v',e=.returned (.agg #[.int .i64 len,v'])∧w'.ownsRow w.heap.size 51 2 v' fs.length (ax fs)∧Mod [] w w':=by
 have q0:=aI (o:=.cells #[.int .i64 0,.slice none 0 0] 54) (an w (.cells #[.int .i64 len,v] 54));have q1:=an (w.alloc (.cells #[.int .i64 len,v] 54)) (.cells #[.int .i64 0,.slice none 0 0] 54);rw[World.size_alloc]at q1;have hm0:=((Mod.refl [] w).alloc (.cells #[.int .i64 len,v] 54)).alloc (.cells #[.int .i64 0,.slice none 0 0] 54);have hC:=zh (Fe v fs hl _ (h.mod hm0));clear h;go_enter Tryz.func73,Tryz.ntmps73;go_wp2_with fail;refine hC.out.mono ?_;rintro e w1 ⟨v',rfl,hrow,hm1⟩;obtain⟨va,vn,vc,rfl⟩:=p6 hrow;have q0:=hm1.at q0 (by simp);have q1:=hm1.at q1 (by simp);have hm2:=hm0.ag hm1;have hlt:∀x,(Value.slice va vn vc).ownBlock=some x→w.heap.size+2≤x:=fun x hx=>by
  have:=(hrow.lt x hx).1;simp at this;omega
 have hrow:=zh (aE (base':=w.heap.size) hrow (by simp;omega));have c0:=ae q0;have f0:=ay q0;have c1:=ae q1;have f1:=ay q1;go_wp2_with fail;have q2:=dI (a:=⟨w.heap.size,1,none⟩) (v:=.slice va vn vc) q1 (by show w.heap.size+1≠w.heap.size;omega);have q3:=aq (o:=1) (v:=.slice va vn vc) (aq (o:=0) (v:=.int .i64 len) q2);have hm3:=((hm2.setCell (p:=⟨w.heap.size,1,none⟩) (.inr (Nat.le_refl _)) (.slice va vn vc)).setCell (p:=⟨w.heap.size+1,0,none⟩) (.inr (by show w.heap.size≤w.heap.size+1;omega)) (.int .i64 len)).setCell (p:=⟨w.heap.size+1,1,none⟩) (.inr (by show w.heap.size≤w.heap.size+1;omega)) (.slice va vn vc);have hms:=(((Mod.refl [w.heap.size,w.heap.size+1] w1).setCell (p:=⟨w.heap.size,1,none⟩) (.inl (by simp)) (.slice va vn vc)).setCell (p:=⟨w.heap.size+1,0,none⟩) (.inl (by simp)) (.int .i64 len)).setCell (p:=⟨w.heap.size+1,1,none⟩) (.inl (by simp)) (.slice va vn vc);have hr3:=aG hrow.out hms (fun g hg=>by have:=hlt g hg;simp;omega);have cc:=ae q3;refine bodyPost_ret (v:=.agg #[.int .i64 len,.slice va vn vc]) ?_ rfl ⟨_,rfl,hr3,hm3⟩;simp[results,Tryz.results73,go_sem,cc]
theorem EV (len len':Int) (v v':Value) (fs fs':List aM) (w:World) (h:aw w v fs) (h':aw w v' fs'):
  Calls Tryz.prog 94 #[.agg #[.int .i64 len,v],.agg #[.int .i64 len',v']] w fun e w'=>e=.returned (.bool (decide (len=len'∧fs=fs')))∧Mod [] w w':=by
 have q0:=aI (o:=.cells #[.int .i64 len',v'] 54) (an w (.cells #[.int .i64 len,v] 54));have q1:=an (w.alloc (.cells #[.int .i64 len,v] 54)) (.cells #[.int .i64 len',v'] 54);rw[World.size_alloc]at q1;have hm0:=((Mod.refl [] w).alloc (.cells #[.int .i64 len,v] 54)).alloc (.cells #[.int .i64 len',v'] 54);have hln:=fun ty w=>h.len ty w
 have hln':=fun ty w=>h'.len ty w
 have hs:=h.small;have hs':=h'.small;have hH:=zh h;have hH':=zh h';obtain⟨q,hq⟩:∃q,decide (len=len'∧fs=fs')=q:=⟨_,rfl⟩;rw[hq];have hqH:=zh hq;clear hq h h';by_cases he:len=len'
 ·subst he;have z0:(len==len)=true:=by simp
  by_cases hl:fs.length=fs'.length
  ·simp only[←hl]at hln';have hlH:=zh hl;clear hl;go_enter Tryz.func94,Tryz.ntmps94;go_wp2_with fail;generalize(w.alloc (.cells #[.int .i64 len,v] 54)).alloc (.cells #[.int .i64 len,v'] 54)=W at*;go_loopw [5] (fun i wr=>∃k:Nat,k≤fs.length∧i=.int .i64 k∧Mod [] W wr∧fs.take k=fs'.take k) (fun i _=>fs.length-(intOf i).toNat)
   case atStart=>exact⟨0,by omega,rfl,Mod.refl _ _,by simp⟩
   case round=>
    obtain⟨k,hk,rfl,hm,ht⟩:=hrel;have q0:=hm.at q0 (by simp);have q1:=hm.at q1 (by simp);have hmw:=hm0.ag hm;have c0:=ae q0;have c1:=ae q1;have htH:=zh ht;clear ht;by_cases hk1:k<fs.length
    ·have hk2:k<fs'.length:=by have:=hlH.out;omega
     obtain⟨sb,so,cap,rfl,g1,a1,a2⟩:=fF hH.out hk1;obtain⟨sb',so',cap',rfl,g1',a1',a2'⟩:=fF hH'.out hk2;have a1:=(bg hmw g1 (by simp)).trans a1;have a2:=(bg hmw g1 (by simp)).trans a2;have a1':=(bg hmw g1' (by simp)).trans a1';have a2':=(bg hmw g1' (by simp)).trans a2';have k1:=GW.bR (S:=[]) a1 (hmw.lt g1) (by simp);have k2:=GW.bR (S:=[]) a2 (hmw.lt g1) (by simp);have k3:=GW.bR (S:=[]) a1' (hmw.lt g1') (by simp);have k4:=GW.bR (S:=[]) a2' (hmw.lt g1') (by simp);have k5:=GW.cells (S:=[]) q0 (by simp);have k6:=GW.cells (S:=[]) q1 (by simp);have hne:fs[k]≠fs'[k]→fs≠fs':=fun h e=>h (by subst e;rfl)
     have hneH:=zh hne;have htk:=zh fun he=>uz hk1 hk2 htH.out he
     have hle:fs'.length=fs.length:=hlH.out.symm;have hlen':=zh hle;clear a1 a2 a1' a2' hne hle;generalize fs[k]=f at*;generalize fs'[k]=f' at*;obtain⟨f1,f2⟩:=f;obtain⟨f1',f2'⟩:=f';have bad:¬(f1=f1'∧f2=f2')→q=false:=fun hb=>by
      have h1:=hqH.out;rw[decide_eq_false (fun hx=>hneH.out (fun e=>hb (by cases e;exact⟨rfl,rfl⟩)) hx.2)]at h1;exact h1.symm
     have badH:=zh bad;clear bad hneH;rw[hlen'.out]at*;clear hlen';by_cases e1:f1=f1'
     ·subst e1;by_cases e2:f2=f2'
      ·subst e2;have z1:(f1==f1)=true:=by simp
       have z2:(f2==f2)=true:=by simp
       clear badH;go_wp2_with fail;refine aS (by kernel_rfl) (by kernel_rfl) ?_;refine sq 11 ?_;refine au fun w7 hm7=> ?_
       clear k1 k2 k3 k4 k5 k6;go_wp2_with fail;go_roundw
       case rel=>exact⟨k+1,by omega,by go_num,hm.ag hm7,htk.out (by first|trivial|rfl)⟩
       case measure=>simp[intOf];omega
      ·have z1:(f1==f1)=true:=by simp
       have z2:(f2==f2')=false:=by simp only[beq_eq_false_iff_ne];exact e2
       have hb:=badH.out (fun h=>e2 h.2);clear badH e2;subst hb;go_wp2_with fail;refine aS (by kernel_rfl) (by kernel_rfl) ?_;refine sq 11 ?_;refine au fun w7 hm7=> ?_
       clear k1 k2 k3 k4 k5 k6;go_wp2_with fail;go_ret;exact⟨rfl,hmw.ag hm7⟩
     ·have z1:(f1==f1')=false:=by simp only[beq_eq_false_iff_ne];exact e1
      have hb:=badH.out (fun h=>e1 h.1);clear badH e1;subst hb;go_wp2_with fail;refine aS (by kernel_rfl) (by kernel_rfl) ?_;refine sq 11 ?_;refine au fun w7 hm7=> ?_
      clear k1 k2 k3 k4 k5 k6;go_wp2_with fail;go_ret;exact⟨rfl,hmw.ag hm7⟩
    ·have hb:q=true:=by
      rw[←hqH.out,decide_eq_true_eq];have h1:=htH.out;rw[List.take_of_length_le (by omega),List.take_of_length_le (by have:=hlH.out;omega)]at h1;exact⟨by first|trivial|rfl,h1⟩
     subst hb;go_wp2_with fail;go_ret;exact⟨rfl,hmw⟩
  ·have hb:q=false:=by
    rw[←hqH.out,decide_eq_false_iff_not];exact fun e=>hl (by rw[e.2])
   subst hb;have z1:((fs.length:Int)==(fs'.length:Int))=false:=by simp only[beq_eq_false_iff_ne];omega
   clear hl;go_enter Tryz.func94,Tryz.ntmps94;go_wp2_with fail;go_ret;exact⟨rfl,hm0⟩
 ·have hb:q=false:=by
   rw[←hqH.out,decide_eq_false_iff_not];exact fun e=>he e.1
  subst hb;have z1:(len==len')=false:=by simp only[beq_eq_false_iff_ne];exact he
  clear he;go_enter Tryz.func94,Tryz.ntmps94;go_wp2_with fail;go_ret;exact⟨rfl,hm0⟩
end Go.Proofs.YtdehaommhbjakaaGreat.Ty
namespace Go.Proofs.YtdehaommhbjakaaGreat.Ty
open RowKit Stg
theorem zU {fs:List aM} (h:iG fs=0):Good fs:=by
 induction fs with
 |nil=>intro f hf;simp at hf
 |cons f r ih=>
  unfold iG at h;by_cases he:bM f=0
  ·rw[if_neg (by simp[he])]at h;intro g hg;rcases List.mem_cons.1 hg with rfl|hg
   ·exact he
   ·exact ih h g hg
  ·rw[if_pos he]at h;exact absurd h he
theorem ou {len:Int} {fs:List aM} (h:bS len fs=0):0≤len∧len≤65536∧fs.length≤32∧Good fs∧cC len fs≤65536∧(0<len→fs.length=1)∧(len=0→0<fs.length):=by
 unfold bS at h;split at h
 ·simp at h
 ·split at h
  ·simp at h
  ·split at h
   ·simp at h
   ·rename_i hb;split at h
    ·simp at h
    ·split at h
     ·rename_i h5;exact absurd h h5
     ·rename_i h5;split at h
      ·simp at h
      ·have hg:=zU (Decidable.byContradiction h5);refine⟨by omega,by omega,by omega,hg,by omega,fun hp=> ?_,fun h0=> ?_⟩
       ·exact Decidable.byContradiction fun hc=>hb (.inr ⟨hp,hc⟩)
       ·exact Nat.pos_of_ne_zero fun hc=>hb (.inl ⟨h0,hc⟩)
def eP (len:Int) (fs:List aM):Int:=if bS len fs=0 then(if 0<len then len else fs.length)else 0
def oY (len:Int) (fs:List aM):Value:=.tuple #[.int .i64 (if bS len fs=0 then cC len fs else 0),.int .i64 (bS len fs)]
def kM (len:Int) (fs:List aM) (i:Int):Array Value:=
 if bS len fs=0∧0≤i∧i<eP len fs then(if 0<len then #[.int .i64 (i*wid (hd fs)),.int .i64 (wid (hd fs)),.int .i64 (hd fs).1]else dS fs i fs.length)else #[.int .i64 0,.int .i64 0,.int .i64 0]
def eH (len:Int) (fs:List aM) (i:Int):Int:=if bS len fs=0 then(if 0≤i∧i<eP len fs then 0 else 6)else bS len fs
def iI (len:Int) (fs:List aM) (i:Int):Value:=.tuple #[.agg (kM len fs i),.int .i64 (eH len fs i)]
theorem oX {fs:List aM} (h:fs.length=1):hd fs=fs[0]'(by omega):=by
 cases fs with
 |nil=>simp at h
 |cons f r=>rfl
section
variable (len:Int) (v:Value) (fs:List aM) (w:World) (h:aw w v fs) (hn: -9223372036854775808≤len) (hn2:len≤9223372036854775807)
include h hn hn2
theorem Fh:Calls Tryz.prog 183 #[.agg #[.int .i64 len,v]] w fun e w'=>e=.returned (.int .i64 (eP len fs))∧Mod [] w w':=by
 have q0:=an w (.cells #[.int .i64 len,v] 54);have hm0:=(Mod.refl [] w).alloc (.cells #[.int .i64 len,v] 54);have h':=h.mod hm0;have hln:=fun ty w=>h.len ty w
 have hE:=zh fun(w':World) (hm:Mod [] w w')=>mZ len v fs w' (h.mod hm) hn hn2
 clear h;go_enter Tryz.func183,Tryz.ntmps183;go_wp2_with fail;refine(hE.out _ hm0).mono ?_;rintro e w1 ⟨rfl,hm1⟩;have q1:=hm1.at q0 (by simp);have h1:=h'.mod hm1;have cb:=ae q1;have hm1:=hm0.ag hm1;clear q0 hm0 h';by_cases he:bS len fs=0
 ·rw[he];by_cases hp:0<len
  ·go_wp2_with fail;go_ret;refine⟨?_,hm1⟩;simp[eP,he,hp]
  ·go_wp2_with fail;go_ret;refine⟨?_,hm1⟩;simp only[eP,if_pos he,if_neg (show¬(0<len) by omega)];rfl
 ·go_wp2_with fail;go_ret;refine⟨?_,hm1⟩;simp[eP,he]
theorem xY:Calls Tryz.prog 101 #[.agg #[.int .i64 len,v]] w fun e w'=>e=.returned (oY len fs)∧Mod [] w w':=by
 have q0:=an w (.cells #[.int .i64 len,v] 54);have hm0:=(Mod.refl [] w).alloc (.cells #[.int .i64 len,v] 54);have h':=h.mod hm0;have hln:=fun ty w=>h.len ty w
 have hE:=zh fun(w':World) (hm:Mod [] w w')=>mZ len v fs w' (h.mod hm) hn hn2
 clear h;go_enter Tryz.func101,Tryz.ntmps101;go_wp2_with fail;refine(hE.out _ hm0).mono ?_;rintro e w1 ⟨rfl,hm1⟩;have q1:=hm1.at q0 (by simp);have h1:=h'.mod hm1;have cb:=ae q1;have hm1:=hm0.ag hm1;clear q0 hm0 h';by_cases he:bS len fs=0
 ·obtain⟨e1,e2,e3,e4,e5,e6,e7⟩:=ou he;have hS:=zh (ni len v fs _ h1 e4 (by omega) e1 e2 e6);clear e6 e7;rw[he];go_wp2_with fail;refine hS.out.mono ?_;rintro e w2 ⟨rfl,hm2⟩;go_wp2_with fail;go_ret2;refine⟨?_,hm1.ag hm2⟩;simp[oY,he]
 ·go_wp2_with fail;go_ret2;refine⟨?_,hm1⟩;simp[oY,he]
end
theorem D3 (len:Int) (v:Value) (fs:List aM) (i:Int) (w:World) (h:aw w v fs) (hn: -9223372036854775808≤len) (hn2:len≤9223372036854775807):
  Calls Tryz.prog 160 #[.agg #[.int .i64 len,v],.int .i64 i] w fun e w'=>e=.returned (iI len fs i)∧Mod [] w w':=by
 have hln:=fun ty w=>h.len ty w
 have hE:=zh fun(w':World) (hm:Mod [] w w')=>mZ len v fs w' (h.mod hm) hn hn2
 have hC:=zh fun(w':World) (hm:Mod [] w w')=>Fh len v fs w' (h.mod hm) hn hn2
 have q0:=aI (o:=.cells #[.int .i64 0,.int .i64 0,.int .i64 0] 211) (an w (.cells #[.int .i64 len,v] 54));have q1:=an (w.alloc (.cells #[.int .i64 len,v] 54)) (.cells #[.int .i64 0,.int .i64 0,.int .i64 0] 211);rw[World.size_alloc]at q1;have hm0:=((Mod.refl [] w).alloc (.cells #[.int .i64 len,v] 54)).alloc (.cells #[.int .i64 0,.int .i64 0,.int .i64 0] 211);have h':=h.mod hm0;clear h;go_enter Tryz.func160,Tryz.ntmps160;go_wp2_with fail;refine(hE.out _ hm0).mono ?_;rintro e w1 ⟨rfl,hm1⟩;have p0:=hm1.at q0 (by simp);have p1:=hm1.at q1 (by simp);have h1:=h'.mod hm1;have cb:=ae p0;have cr:=ae p1;have fr:=ay p1;have hm1:=hm0.ag hm1;clear q0 q1 hm0 h';by_cases he:bS len fs=0
 ·obtain⟨e1,e2,e3,e4,e5,e6,e7⟩:=ou he;have hcT:eP len fs=if 0<len then len else fs.length:=by simp[eP,he]
  have hone:=zh e6;clear e6 e7;rw[he];by_cases hi0:i<0
  ·have hV:iI len fs i=.tuple #[.agg #[.int .i64 0,.int .i64 0,.int .i64 0],.int .i64 6]:=by
    have t1:¬(0≤i∧i<eP len fs):=by omega
    have t2:¬(bS len fs=0∧0≤i∧i<eP len fs):=fun h=>t1 h.2
    unfold iI kM eH;rw[if_neg t2,if_pos he,if_neg t1]
   go_wp2_with fail;have rr:=aq (o:=2) (v:=.int .i64 0) (aq (o:=1) (v:=.int .i64 0) (aq (o:=0) (v:=.int .i64 0) p1));have mm:=((hm1.setCell (p:=⟨w.heap.size+1,0,none⟩) (.inr (by show w.heap.size≤w.heap.size+1;omega)) (.int .i64 0)).setCell (p:=⟨w.heap.size+1,1,none⟩) (.inr (by show w.heap.size≤w.heap.size+1;omega)) (.int .i64 0)).setCell (p:=⟨w.heap.size+1,2,none⟩) (.inr (by show w.heap.size≤w.heap.size+1;omega)) (.int .i64 0);have cc:=ae rr;refine bodyPost_ret (v:=.tuple #[.agg #[.int .i64 0,.int .i64 0,.int .i64 0],.int .i64 6]) ?_ rfl ⟨by first|rfl|rw[hV],mm⟩;simp[results,Tryz.results160,go_sem,cc]
  ·go_wp2_with fail;refine(hC.out _ hm1).mono ?_;rintro e w2 ⟨rfl,hm2⟩;have p0:=hm2.at p0 (by simp);have p1:=hm2.at p1 (by simp);have h1:=h1.mod hm2;have hm2:=hm1.ag hm2;clear hm1 cb cr fr;have cb:=ae p0;have cr:=ae p1;have fr:=ay p1;by_cases hi1:i<eP len fs
   ·by_cases hp:0<len
    ·have hone1:=hone.out hp;rw[if_pos hp]at hcT;rcases h1 with⟨_,rfl⟩|⟨sb,so,cap,rfl,g2,g3,g4⟩
     ·simp at hone1
     ·have c1:=(g4 0 (by omega)).1;have c2:=(g4 0 (by omega)).2;have hgf:=jh (e4 fs[0] (List.getElem_mem (by omega)));have hV:iI len fs i=.tuple #[.agg #[.int .i64 (i*wid fs[0]),.int .i64 (wid fs[0]),.int .i64 fs[0].1],.int .i64 0]:=by
       have t1:0≤i∧i<eP len fs:=⟨by omega,hi1⟩;have t2:bS len fs=0∧0≤i∧i<eP len fs:=⟨he,t1⟩;unfold iI kM eH;rw[if_pos t2,if_pos hp,if_pos he,if_pos t1,oX hone1]
      clear g4 e4;generalize fs[0]=f at*;obtain⟨fk,fc⟩:=f;simp only[Nat.zero_mul,Nat.add_zero]at c1 c2;obtain⟨_,_,f1,f2,_⟩:=hgf;have hmul:i*wid (fk,fc)≤65536*65536:=Int.mul_le_mul (by omega) f2 (by omega) (by omega);have hmul0:0≤i*wid (fk,fc):=Int.mul_nonneg (by omega) (by omega);have hw:wrap64 (i*wid (fk,fc))=i*wid (fk,fc):=by
       generalize i*wid (fk,fc)=z at*;unfold wrap64;omega
      rw[hcT];rw[hcT]at hi1;clear hmul hmul0;go_wp2_with fail;refine(nf fk fc _).mono ?_;rintro e w3 ⟨rfl,hm3⟩;have p0:=hm3.at p0 (by simp);have p1:=hm3.at p1 (by simp);have c1:=(bg hm3 g2 (by simp)).trans c1;have hm3:=hm2.ag hm3;clear hm2 cb cr fr c2;have cb:=ae p0;have cr:=ae p1;have fr:=ay p1;go_wp2_with fail;have rr:=aq (o:=2) (v:=.int .i64 fk) (aq (o:=1) (v:=.int .i64 (wid (fk,fc))) (aq (o:=0) (v:=.int .i64 (i*wid (fk,fc))) p1));have mm:=((hm3.setCell (p:=⟨w.heap.size+1,0,none⟩) (.inr (by show w.heap.size≤w.heap.size+1;omega)) (.int .i64 (i*wid (fk,fc)))).setCell (p:=⟨w.heap.size+1,1,none⟩) (.inr (by show w.heap.size≤w.heap.size+1;omega)) (.int .i64 (wid (fk,fc)))).setCell (p:=⟨w.heap.size+1,2,none⟩) (.inr (by show w.heap.size≤w.heap.size+1;omega)) (.int .i64 fk);have cc:=ae rr;refine bodyPost_ret (v:=.tuple #[.agg #[.int .i64 (i*wid (fk,fc)),.int .i64 (wid (fk,fc)),.int .i64 fk],.int .i64 0]) ?_ rfl ⟨by first|rfl|rw[hV],mm⟩;simp[results,Tryz.results160,go_sem,cc]
    ·rw[if_neg hp]at hcT;have hP:=zh (wa v fs i _ h1 e4 (by omega));obtain⟨x,y,z0,ho⟩:=nZ fs i fs.length;have hV:iI len fs i=.tuple #[.agg #[.int .i64 x,.int .i64 y,.int .i64 z0],.int .i64 0]:=by
      have t1:0≤i∧i<eP len fs:=⟨by omega,hi1⟩;have t2:bS len fs=0∧0≤i∧i<eP len fs:=⟨he,t1⟩;unfold iI kM eH;rw[if_pos t2,if_neg hp,if_pos he,if_pos t1,ho]
     rw[ho]at hP;clear e4 ho;go_wp2_with fail;refine hP.out.mono ?_;rintro e w3 ⟨rfl,hm3⟩;have p1:=hm3.at p1 (by simp);have hm3:=hm2.ag hm3;clear hm2 cb cr fr p0;have p1:=aI (o:=.cells #[.int .i64 x,.int .i64 y,.int .i64 z0] 211) p1;have hm3:=hm3.alloc (.cells #[.int .i64 x,.int .i64 y,.int .i64 z0] 211);have cr:=ae p1;have fr:=ay p1;have hlt3:=aL p1;rw[World.size_alloc]at hlt3;go_wp2_with fail;have rr:=aq (o:=2) (v:=.int .i64 z0) (aq (o:=1) (v:=.int .i64 y) (aq (o:=0) (v:=.int .i64 x) p1));have mm:=((hm3.setCell (p:=⟨w.heap.size+1,0,none⟩) (.inr (by show w.heap.size≤w.heap.size+1;omega)) (.int .i64 x)).setCell (p:=⟨w.heap.size+1,1,none⟩) (.inr (by show w.heap.size≤w.heap.size+1;omega)) (.int .i64 y)).setCell (p:=⟨w.heap.size+1,2,none⟩) (.inr (by show w.heap.size≤w.heap.size+1;omega)) (.int .i64 z0);have cc:=ae rr;refine bodyPost_ret (v:=.tuple #[.agg #[.int .i64 x,.int .i64 y,.int .i64 z0],.int .i64 0]) ?_ rfl ⟨by first|rfl|rw[hV],mm⟩;simp[results,Tryz.results160,go_sem,cc]
   ·have hV:iI len fs i=.tuple #[.agg #[.int .i64 0,.int .i64 0,.int .i64 0],.int .i64 6]:=by
     have t1:¬(0≤i∧i<eP len fs):=by omega
     have t2:¬(bS len fs=0∧0≤i∧i<eP len fs):=fun h=>t1 h.2
     unfold iI kM eH;rw[if_neg t2,if_pos he,if_neg t1]
    clear hcT;go_wp2_with fail;have rr:=aq (o:=2) (v:=.int .i64 0) (aq (o:=1) (v:=.int .i64 0) (aq (o:=0) (v:=.int .i64 0) p1));have mm:=((hm2.setCell (p:=⟨w.heap.size+1,0,none⟩) (.inr (by show w.heap.size≤w.heap.size+1;omega)) (.int .i64 0)).setCell (p:=⟨w.heap.size+1,1,none⟩) (.inr (by show w.heap.size≤w.heap.size+1;omega)) (.int .i64 0)).setCell (p:=⟨w.heap.size+1,2,none⟩) (.inr (by show w.heap.size≤w.heap.size+1;omega)) (.int .i64 0);have cc:=ae rr;refine bodyPost_ret (v:=.tuple #[.agg #[.int .i64 0,.int .i64 0,.int .i64 0],.int .i64 6]) ?_ rfl ⟨by first|rfl|rw[hV],mm⟩;simp[results,Tryz.results160,go_sem,cc]
 ·have hV:iI len fs i=.tuple #[.agg #[.int .i64 0,.int .i64 0,.int .i64 0],.int .i64 (bS len fs)]:=by
   have t2:¬(bS len fs=0∧0≤i∧i<eP len fs):=fun h=>he h.1
   unfold iI kM eH;rw[if_neg t2,if_neg he]
  go_wp2_with fail;have rr:=aq (o:=2) (v:=.int .i64 0) (aq (o:=1) (v:=.int .i64 0) (aq (o:=0) (v:=.int .i64 0) p1));have mm:=((hm1.setCell (p:=⟨w.heap.size+1,0,none⟩) (.inr (by show w.heap.size≤w.heap.size+1;omega)) (.int .i64 0)).setCell (p:=⟨w.heap.size+1,1,none⟩) (.inr (by show w.heap.size≤w.heap.size+1;omega)) (.int .i64 0)).setCell (p:=⟨w.heap.size+1,2,none⟩) (.inr (by show w.heap.size≤w.heap.size+1;omega)) (.int .i64 0);have cc:=ae rr;refine bodyPost_ret (v:=.tuple #[.agg #[.int .i64 0,.int .i64 0,.int .i64 0],.int .i64 (bS len fs)]) ?_ rfl ⟨by first|rfl|rw[hV],mm⟩;simp[results,Tryz.results160,go_sem,cc]
end Go.Proofs.YtdehaommhbjakaaGreat.Ty
namespace Go.Proofs.YtdehaommhbjakaaGreat.Ty
open RowKit Stg
abbrev Ty:=Int×List aM
def bZ (p:Ty×Value):List Value:=[.int .i64 p.1.1,p.2]
theorem nR (p:Ty×Value):(bZ p).length=2:=rfl
def kJ (L:List (Ty×Value)):List Nat:=L.flatMap fun p=>p.2.ownBlock.toList
theorem AX {L:List (Ty×Value)} {p:Ty×Value} (hp:p∈L) {x:Nat} (hx:p.2.ownBlock=some x):x∈kJ L:=List.mem_flatMap.2 ⟨p,hp,by simp[hx]⟩
theorem ln {L:List (Ty×Value)} {x:Nat} (hx:x∈kJ L):∃p∈L,p.2.ownBlock=some x:=by
 obtain⟨p,hp,h⟩:=List.mem_flatMap.1 hx;exact⟨p,hp,by simpa using h⟩
theorem aw.lt {w:World} {v:Value} {fs:List aM} (h:aw w v fs) {x:Nat} (hx:v.ownBlock=some x):x<w.heap.size:=by
 rcases h with⟨rfl,_⟩|⟨sb,so,cap,rfl,h2,_⟩
 ·simp[Value.ownBlock]at hx
 ·have hx':some sb=some x:=hx;obtain rfl:=Option.some.inj hx';exact h2
def gh (L:List (Ty×Value)):ai:=
 ⟨fun w f=>(∀p∈L,aw w p.2 p.1.2)∧f=kJ L,
  fun h hm hT=>⟨fun p hp=>(h.1 p hp).jy hm fun x hx=>hT x (by rw[h.2];exact AX hp hx),h.2⟩,
  fun h x hx=>by
  rw[h.2]at hx;obtain⟨p,hp,hx⟩:=ln hx;exact(h.1 p hp).lt hx⟩
def pe (T:TypeId) (rb:Nat) (sv:Value) (L:List (Ty×Value)):List ai:=
 [aj rb (.cells #[sv] T (0,0)),aT sv L.length 54 2 (flat bZ L),gh L]
def du (t:Ty):Prop:=bS t.1 t.2=0
theorem du.bounds {t:Ty} (h:du t):0≤t.1∧t.1≤65536∧t.2.length≤32:=by
 obtain⟨h1,h2,h3,_⟩:=ou h;exact⟨h1,h2,h3⟩
def G5 (T:TypeId) (rb:Nat) (R:List Ty) (w:World) (f:List Nat):Prop:=∃sv L,L.map (·.1)=R∧(∀t∈R,du t)∧R.length≤255∧aU (pe T rb sv L) w f
def dN (T:TypeId) (rb:Nat) (R:List Ty):ai:=
 ⟨G5 T rb R,fun⟨sv,L,h1,h2,h3,h4⟩ hm hT=>⟨sv,L,h1,h2,h3,h4.bj hm hT⟩,fun⟨_,_,_,_,_,h4⟩=>h4.lt⟩
theorem pn {F:List Nat} {W w:World} {cs:List ai} (i:Nat) {L:List (Ty×Value)} (h:af F W cs w) (hi:cs[i]? =some (gh L)):∀p∈L,aw w p.2 p.1.2:=
 let ⟨_,h1,_⟩:=h.part i hi;h1.1
theorem qf {w:World} {sv:Value} {n:Nat} {L:List (Ty×Value)} (h:w.ownsRow 0 54 2 sv n (flat bZ L)) (hn:L.length=n) {k:Nat} (hk:k<L.length):∃g cap,sv=.slice (some ⟨g,0,none⟩) n cap∧g<w.heap.size∧w.cell? ⟨g,k*2,none⟩=some (.int .i64 L[k].1.1)∧w.cell? ⟨g,k*2+1,none⟩=some L[k].2:=by
 obtain⟨g,cap,rfl,_,hg⟩:=cW h (by omega);have r0:=eO nR h hk hn (k:=0) (by omega);have r1:=eO nR h hk hn (k:=1) (by omega);exact⟨g,cap,rfl,hg,r0,r1⟩
def lO (R:List Ty) (t:Ty):Int:=if t∈R then R.idxOf t else -1
theorem wG {R:List Ty} {t:Ty} {k:Nat} (hk:k<R.length) (hno:t∉R.take k) (he:R[k]=t):lO R t=k:=by
 have hm:t∈R:=he▸List.getElem_mem hk;unfold lO;rw[if_pos hm];have h1:R.idxOf t=k:=by
  have hsp:R=R.take k++t::R.drop (k+1):=by
   rw[←he,List.getElem_cons_drop,List.take_append_drop]
  rw[hsp,List.idxOf_append,if_neg hno];simp;omega
 rw[h1]
theorem vW {R:List Ty} {t:Ty} (h:t∉R):lO R t= -1:=if_neg h
theorem ER (len len':Int) (v v':Value) (fs fs':List aM) (tb:Nat) (w:World) (h:aw w v fs) (h':aw w v' fs') (hb:w.heap[tb]? =some (.cells #[.int .i64 len,v] 54 (0,0))):
  Calls Tryz.prog 70 #[.agg #[.int .i64 len',v'],.pointer (some ⟨tb,0,none⟩)] w fun e w'=>e=.returned (.bool (decide ((len',fs')=(len,fs))))∧Mod [] w w':=by
 have hm0:=(Mod.refl [] w).alloc (.cells #[.int .i64 len',v'] 54);have q0:=an w (.cells #[.int .i64 len',v'] 54);have q1:=hm0.at hb (by simp);have hE:=zh (Es v' v fs' fs _ (h'.mod hm0) (h.mod hm0));have c0:=ae q0;have c1:=ae q1;clear h h' hb;by_cases he:len'=len
 ·subst he;have z0:(len'==len')=true:=by simp
  go_enter Tryz.func70,Tryz.ntmps70;go_wp2_with fail;refine hE.out.mono ?_;rintro e w1 ⟨rfl,hm1⟩;go_wp2_with fail;go_ret;exact⟨by simp,hm0.ag hm1⟩
 ·have z0:(len'==len)=false:=by simp only[beq_eq_false_iff_ne];exact he
  have heH:=zh he;clear he;go_enter Tryz.func70,Tryz.ntmps70;go_wp2_with fail;go_ret;have:=heH.out;exact⟨by simp[this],hm0⟩
theorem Db (len:Int) (v:Value) (fs:List aM) (tb:Nat) {sv:Value} {L:List (Ty×Value)} (w:World) (h:aw w v fs) (hb:w.heap[tb]? =some (.cells #[.int .i64 len,v] 54 (0,0)))
  (hrow:w.ownsRow 0 54 2 sv L.length (flat bZ L)) (hL:∀p∈L,aw w p.2 p.1.2) (hlen:L.length≤255):
  Calls Tryz.prog 72 #[sv,.func (.func 70) #[] #[.pointer (some ⟨tb,0,none⟩)]] w fun e w'=>e=.returned (.int .i64 (lO (L.map (·.1)) (len,fs)))∧Mod [] w w':=by
 have hln:=fun ty w=>fY (ty:=ty) Tryz.underlying63 hrow w
 have hH:=zh h;have hbH:=zh hb;have hrowH:=zh hrow;have hLH:=zh hL;obtain⟨q,hq⟩:∃q,lO (L.map (·.1)) (len,fs)=q:=⟨_,rfl⟩;rw[hq];have hqH:=zh hq;clear hq h hb hrow hL;go_enter Tryz.func72,Tryz.ntmps72;go_wp2_with fail;go_loopw [8] (fun i wr=>∃k:Nat,k≤L.length∧i=.int .i64 k∧Mod [] w wr∧(len,fs)∉(L.map (·.1)).take k) (fun i _=>L.length-(intOf i).toNat)
 case atStart=>exact⟨0,by omega,rfl,Mod.refl _ _,by simp⟩
 case round=>
  obtain⟨k,hk,rfl,hm,hno⟩:=hrel;have hnoH:=zh hno;clear hno;by_cases hk1:k<L.length
  ·obtain⟨g,cap,rfl,hg,r0,r1⟩:=qf (aG hrowH.out hm (by simp)) rfl hk1;have hFk:=(hLH.out _ (List.getElem_mem hk1)).mod hm;have hS:=zh (ER len L[k].1.1 v L[k].2 fs L[k].1.2 tb wr (hH.out.mod hm) hFk (hm.at hbH.out (by simp)));have hHere:=zh fun he=>wG (R:=L.map (·.1)) (by simpa using hk1) hnoH.out he
   have hNext:L[k].1≠(len,fs)→(len,fs)∉(L.map (·.1)).take (k+1):=fun hne hmem=>by
    rw[jJ _ (show k<(L.map (·.1)).length by simpa using hk1)]at hmem;rcases List.mem_append.1 hmem with h|h
    ·exact hnoH.out h
    ·rw[List.mem_singleton,List.getElem_map]at h;exact hne h.symm
   have hNextH:=zh hNext;have hge:(L.map (·.1))[k]'(by simpa using hk1)=L[k].1:=List.getElem_map _;have hgeH:=zh hge;clear hNext hFk hge;go_wp2_with fail;refine hS.out.mono ?_;rintro e w1 ⟨rfl,hm1⟩;by_cases he:(L[k].1.1,L[k].1.2)=(len,fs)
   ·have hd:decide ((L[k].1.1,L[k].1.2)=(len,fs))=true:=decide_eq_true he;rw[hd];have hq:=(hHere.out (hgeH.out.trans he)).symm.trans hqH.out;clear hd he r0 r1;go_wp2_with fail;go_ret;exact⟨by rw[←hq];rfl,hm.ag hm1⟩
   ·have hd:decide ((L[k].1.1,L[k].1.2)=(len,fs))=false:=decide_eq_false he;rw[hd];have hN:=zh (hNextH.out he);clear hd he r0 r1;go_wp2_with fail;go_roundw
    case rel=>exact⟨k+1,by omega,by go_num,hm.ag hm1,hN.out⟩
    case measure=>simp[intOf];omega
  ·have hno:(len,fs)∉L.map (·.1):=by
    have:=hnoH.out
    rwa [List.take_of_length_le (by simp;omega)]at this
   have hq:=(vW hno).symm.trans hqH.out;have hqq:=zh hq;clear hq hno;go_wp2_with fail;go_ret;exact⟨by rw[←hqq.out];rfl,hm⟩
theorem Fy {rb:Nat} {sv:Value} {w:World} (hb:w.heap[rb]? =some (.cells #[sv] 156 (0,0))):Calls Tryz.prog 149 #[.pointer (some ⟨rb,0,none⟩)] w fun e w'=>e=.returned sv∧Mod [] w w':=by
 have hcb:=ae hb;clear hb;go_enter Tryz.func149,Tryz.ntmps149;go_wp2_with fail;go_ret;exact⟨rfl,Mod.refl _ _⟩
end Go.Proofs.YtdehaommhbjakaaGreat.Ty
