/- Joined contracts. No conditions. -/
import Derived.Test.YtdehaommhbjakaaGreatC09
set_option maxHeartbeats 4000000
set_option maxRecDepth 10000
namespace Go.Proofs.YtdehaommhbjakaaGreat.Ty
open RowKit Stg
theorem eT (b o j:Nat):(⟨b,o,none⟩:Addr).add j=⟨b,o+j,none⟩:=by unfold Addr.add;split<;>simp_all
def eQ (w:World) (v:Value) (xs:List Int):Prop:=
 (v=.slice none 0 0∧xs=[])∨∃sb so cap,v=.slice (some ⟨sb,so,none⟩) xs.length cap∧sb<w.heap.size∧xs.length≤maxLen∧xs.length≤cap∧
  ∀i (h:i<xs.length),w.cell? ⟨sb,so+i,none⟩=some (.int .u16 xs[i])∧0≤xs[i]∧xs[i]≤65535
theorem eQ.len {w0:World} {v:Value} {xs:List Int} (h:eQ w0 v xs) (ty:TypeId) (w:World):(Builtin.len_ #[22] ty #[v]).run Tryz.prog w=.ok (.int .i64 xs.length) w:=by
 rcases h with⟨rfl,rfl⟩|⟨sb,so,cap,rfl,_⟩<;>simp[Builtin.len_,run_underlying Tryz.underlying22,goInt]
theorem eQ.mod {S:List Nat} {w w':World} {v:Value} {xs:List Int} (h:eQ w v xs) (hm:Mod S w w') (hS:∀x,v.ownBlock=some x→x∉S):eQ w' v xs:=by
 rcases h with h|⟨sb,so,cap,rfl,h2,h3,h5,h4⟩
 ·exact .inl h
 ·exact .inr ⟨sb,so,cap,rfl,hm.lt h2,h3,h5,fun i hi=>⟨(bg hm h2 (hS sb rfl)).trans (h4 i hi).1,(h4 i hi).2⟩⟩
theorem eQ.small {w:World} {v:Value} {xs:List Int} (h:eQ w v xs):xs.length≤9223372036854775807:=by
 rcases h with⟨_,rfl⟩|⟨_,_,_,_,_,h,_⟩
 ·simp
 ·exact h
def dM (w:World) (b K A B:Nat):Prop:=
 ∃sv xs,∃pos:Nat,w.heap[b]? =some (.cells #[sv,.int .i64 pos] 113 (0,0))∧eQ w sv xs∧pos≤K∧sv.ownBlock≠some b∧(∀x,sv.ownBlock=some x→A≤x∧x<B)∧(A≤b∧b<B)∧B≤w.heap.size
theorem dM.jy {S:List Nat} {w w':World} {b K A B:Nat} (h:dM w b K A B) (hm:Mod S w w') (hS:∀x∈S,x<A∨B≤x):dM w' b K A B:=by
 obtain⟨sv,xs,pos,h1,h2,h3,h4,h5,h6,h7⟩:=h;exact⟨sv,xs,pos,hm.at h1 (fun hb=>by have:=hS b hb;omega),h2.mod hm (fun x hx hb=>by have:=hS x hb;have:=h5 x hx;omega),h3,h4,h5,h6,Nat.le_trans h7 hm.size⟩
theorem dM.up {w:World} {b K L A B:Nat} (h:dM w b K A B) (hl:K≤L):dM w b L A B:=by
 obtain⟨sv,xs,pos,t1,t2,t3,t4⟩:=h;exact⟨sv,xs,pos,t1,t2,Nat.le_trans t3 hl,t4⟩
theorem dM.mod {w w':World} {b K A B:Nat} (h:dM w b K A B) (hm:Mod [] w w'):dM w' b K A B:=h.jy hm (by simp)
theorem dM.lt {w:World} {b K A B:Nat} (h:dM w b K A B):b<B∧B≤w.heap.size:=by
 obtain⟨sv,xs,pos,h1,h2,h3,h4,h5,h6,h7⟩:=h;exact⟨h6.2,h7⟩
theorem nm (b K A B:Nat) (n:Int) (hn:1≤n) (hn2:n≤100000) (w:World) (h:dM w b K A B) (hK:K≤1000000):
  Calls Tryz.prog 45 #[.pointer (some ⟨b,0,none⟩),.int .i64 n] w fun e w'=>∃x:Int,e=.returned (.int .i64 x)∧0≤x∧x<n∧Mod [b] w w'∧dM w' b (K+1) A B:=by
 obtain⟨sv,xs,pos,h1,h2,h3,h4,h8,h9,h10⟩:=h;have hln:=fun ty w=>h2.len ty w
 have hsm:=h2.small;have cb:=ae h1;have k1:=GW.cells (S:=[]) h1 (by simp);have ne0:(n==0)=false:=by simp only[beq_eq_false_iff_ne];omega
 go_enter Tryz.func45,Tryz.ntmps45;go_wp2_with fail;refine aS (by kernel_rfl) (by kernel_rfl) ?_;refine sq 10 ?_;refine au fun w1 hm1=> ?_
 have r1:=hm1.at h1 (by simp);by_cases hp:pos<xs.length
 ·have h2K:=h2;rcases h2 with⟨_,rfl⟩|⟨sb,so,cap,rfl,g2,g3,g5,g4⟩
  ·simp at hp
  ·have h2H:=zh h2K;clear h2K;obtain⟨g4,g6,g7⟩:=g4 pos hp;have c1:=(bg hm1 g2 (by simp)).trans g4;generalize xs[pos]=x at*;clear g4;have k1:=GW.cells (S:=[]) r1 (by simp);have k2:=GW.bR (S:=[]) c1 (hm1.lt g2) (by simp);go_wp2_with fail;refine aS (by kernel_rfl) (by kernel_rfl) ?_;refine sq 12 ?_;refine au fun w2 hm2=> ?_
   have r2:=hm2.at r1 (by simp);have hm2:=hm1.ag hm2;clear k1 k2 c1 cb hm1;have cb:=ae r2;have fb:=ay r2;go_wp2_with fail;go_ret;have e1:=Int.emod_nonneg x (show n≠0 by omega);have e2:=Int.emod_lt_of_pos x (show 0<n by omega);refine⟨x%n,?_,e1,e2,(hm2.mono (T:=[b]) (by simp)).setCell (p:=⟨b,1,none⟩) (.inl (by simp)) _,_,xs,pos+1,aq (o:=1) r2,?_,by omega,h4,h8,h9,?_⟩
   ·rfl
   ·exact(eQ.mod (h2H.out) hm2 (by simp)).mod ((Mod.refl [b] w2).setCell (p:=⟨b,1,none⟩) (.inl (by simp)) _) (fun y hy hyb=>by
     have hyb':y=b:=by simpa using hyb
     subst hyb';exact h4 hy)
   ·have:=hm2.size;simp[World.setCell];omega
 ·clear cb;have cb:=ae r1;have fb:=ay r1;have h2K:=zh h2;clear h2;go_wp2_with fail;go_ret;refine⟨0,rfl,by omega,by omega,(hm1.mono (T:=[b]) (by simp)).setCell (p:=⟨b,1,none⟩) (.inl (by simp)) _,_,xs,pos+1,aq (o:=1) r1,?_,by omega,h4,h8,h9,Nat.le_trans h10 (by have:=hm1.size;simpa[World.setCell]using this)⟩;exact(eQ.mod (h2K.out) hm1 (by simp)).mod ((Mod.refl [b] w1).setCell (p:=⟨b,1,none⟩) (.inl (by simp)) _) (fun y hy hyb=>by
   have hyb':y=b:=by simpa using hyb
   subst hyb';exact h4 hy)
def Small (f:aM):Prop:=1≤f.1∧f.1≤6∧(f.1=6→1≤f.2∧f.2≤9)∧(f.1≠6→f.2=0)
theorem rL {f:aM} (h:Small f):bM f=0∧1≤wid f∧wid f≤9:=by
 obtain⟨h1,h2,h3,h4⟩:=h;by_cases h6:f.1=6
 ·obtain⟨a,b⟩:=h3 h6;have e:bM f=0:=by
   unfold bM;rw[if_neg (by omega),if_neg (by omega),if_neg (by omega)]
  refine⟨e,?_,?_⟩<;>(unfold wid;rw[if_neg (by omega),if_neg (by omega),if_neg (by omega),if_pos h6];assumption)
 ·have h5:=h4 h6;have e:bM f=0:=by
   unfold bM;rw[if_neg (by omega),if_neg (by omega),if_neg (by omega)]
  refine⟨e,(jh e).2.2.1,?_⟩;unfold wid
  repeat' split
  all_goals omega
theorem oB (b K A B:Nat) (w:World) (h:dM w b K A B) (hK:K≤900000):
  Calls Tryz.prog 90 #[.pointer (some ⟨b,0,none⟩)] w fun e w'=>∃k c:Int,e=.returned (.agg #[.int .i64 k,.int .i64 c])∧Small (k,c)∧Mod [b] w w'∧dM w' b (K+2) A B:=by
 have hb:=h.lt;have q0:=an w (.cells #[.int .i64 0,.int .i64 0] 51);have hm0:=(Mod.refl [] w).alloc (.cells #[.int .i64 0,.int .i64 0] 51);have hN:=zh (nm b K A B 6 (by omega) (by omega) _ (h.mod hm0) (by omega));clear h;go_enter Tryz.func90,Tryz.ntmps90;go_wp2_with fail;refine hN.out.mono ?_;rintro e w1 ⟨x,rfl,x0,x1,hm1,hT1⟩;have q1:=hm1.at q0 (by simp;omega);have hm1:=(hm0.mono (T:=[b]) (by simp)).then hm1 (fun y hy=>.inl hy)
 have hlq:=aL q1;have hlb:=hT1.lt;clear q0 hm0 hN;by_cases h5:x=5
 ·subst h5;have p1:=an w1 (.cells #[.int .i64 6,.int .i64 0] 51);have q1:=aI (o:=.cells #[.int .i64 6,.int .i64 0] 51) q1;have hm1:=hm1.alloc (.cells #[.int .i64 6,.int .i64 0] 51);have hT1:=hT1.mod ((Mod.refl [] w1).alloc (.cells #[.int .i64 6,.int .i64 0] 51));go_wp2_with fail;generalize hF:w1.heap.size=F at*;generalize w1.alloc (.cells #[.int .i64 6,.int .i64 0] 51)=W1 at*;have hN:=zh (nm b (K+1) A B 9 (by omega) (by omega) _ hT1 (by omega));refine hN.out.mono ?_;rintro e w2 ⟨y,rfl,y0,y1,hm2,hT2⟩;have p2:=hm2.at p1 (by simp;omega);have q2:=hm2.at q1 (by simp;omega);have hm2:=hm1.then hm2 (fun z hz=>.inl hz);have cp:=ae p2;have fp:=ay p2;have cq:=ae q2;have fq:=ay q2;clear hN hm1 hT1 p1 q1;have p3:=aq (o:=1) (v:=.int .i64 (1+y)) p2;have q3:=dI (a:=⟨F,1,none⟩) (v:=.int .i64 (1+y)) q2 (by show w.heap.size≠F;omega);have hm3:=hm2.setCell (p:=⟨F,1,none⟩) (.inr (by show w.heap.size≤F;omega)) (.int .i64 (1+y));have hT3:=hT2.jy ((Mod.refl [F] w2).setCell (p:=⟨F,1,none⟩) (.inl (by simp)) (.int .i64 (1+y))) (by simp;omega);have cq3:=ae q3;have fq3:=ay q3;have cp3:=ae p3;clear hF;go_wp2_with fail;have q4:=aq (o:=1) (v:=.int .i64 (1+y)) (aq (o:=0) (v:=.int .i64 6) q3);have hm4:=(hm3.setCell (p:=⟨w.heap.size,0,none⟩) (.inr (Nat.le_refl _)) (.int .i64 6)).setCell (p:=⟨w.heap.size,1,none⟩) (.inr (Nat.le_refl _)) (.int .i64 (1+y));have hT4:=hT3.jy (((Mod.refl [w.heap.size] _).setCell (p:=⟨w.heap.size,0,none⟩) (.inl (by simp)) (.int .i64 6)).setCell (p:=⟨w.heap.size,1,none⟩) (.inl (by simp)) (.int .i64 (1+y))) (by simp;omega);have c4:=ae q4;refine bodyPost_ret (v:=.agg #[.int .i64 6,.int .i64 (1+y)]) ?_ rfl ⟨6,1+y,rfl,⟨by omega,by omega,fun _=>⟨by omega,by omega⟩,fun h=>absurd rfl h⟩,hm4,hT4⟩;simp[results,Tryz.results90,go_sem,c4]
 ·have h6:((1+x:Int)==6)=false:=by simp only[beq_eq_false_iff_ne];omega
  have cq:=ae q1;have fq:=ay q1;have q2:=aq (o:=0) (v:=.int .i64 (1+x)) q1;have cq2:=ae q2;have fq2:=ay q2;go_wp2_with fail;have q4:=aI (o:=.cells #[.int .i64 (1+x),.int .i64 0] 51) (aq (o:=1) (v:=.int .i64 0) q2);have hm4:=((hm1.setCell (p:=⟨w.heap.size,0,none⟩) (.inr (Nat.le_refl _)) (.int .i64 (1+x))).setCell (p:=⟨w.heap.size,1,none⟩) (.inr (Nat.le_refl _)) (.int .i64 0)).alloc (.cells #[.int .i64 (1+x),.int .i64 0] 51);have hT4:=hT1.jy ((((Mod.refl [w.heap.size] _).setCell (p:=⟨w.heap.size,0,none⟩) (.inl (by simp)) (.int .i64 (1+x))).setCell (p:=⟨w.heap.size,1,none⟩) (.inl (by simp)) (.int .i64 0)).alloc (.cells #[.int .i64 (1+x),.int .i64 0] 51)) (by simp;omega);have hT5:=hT4.up (L:=K+2) (by omega);have c4:=ae q4;refine bodyPost_ret (v:=.agg #[.int .i64 (1+x),.int .i64 0]) ?_ rfl ⟨1+x,0,rfl,⟨by omega,by omega,fun(h:1+x=6)=>absurd h (by omega),fun _=>rfl⟩,hm4,hT5⟩;simp[results,Tryz.results90,go_sem,c4]
def j6 (w:World) (sv:Value) (cs:List Value):Prop:=
 (sv=.slice none 0 0∧cs=[])∨∃sb so cap,sv=.slice (some ⟨sb,so,none⟩) cs.length cap∧sb<w.heap.size∧∀j u,cs[j]? =some u→w.cell? ⟨sb,so+j,none⟩=some u
section
variable {P:Program}
theorem re (w:World) (t ty e:TypeId) (i:TypeInfo) (z:Value) (bytes:Nat) (ht:P.underlying t=some (.slice e)) (hi:P.info? e=some i) (hz:i.zero=some z)
  (hsize:i.size=1) (hby:i.bytes=bytes) (hzs:z.cells.size=1)
  (v:Value) (n:Nat) (xs:List Value) (hown:w.ownsRow 0 e 1 v n xs)
  (sv:Value) (news:List Value) (hin:j6 w sv news) (h1:∀u∈news,u.oneCell'=true)
  (h63:n+news.length≤maxLen) (hbytes:(n+news.length)*bytes≤140737488355328):
  ∃v' w',(Builtin.append_ #[t,t] ty #[v,sv]).run P w=.ok v' w'∧w'.ownsRow 0 e 1 v' (n+news.length) (xs++news)∧w.grownBy w' v.ownBlock∧∀x,v'.ownBlock=some x→v.ownBlock=some x∨w.heap.size≤x:=by
 rcases hin with⟨rfl,rfl⟩|⟨sb,so,cap,rfl,_,hc⟩
 ·exact⟨v,w,run_append_owned_none w 0 t ty e i 1 ht hi v n xs hown,by simpa using hown,⟨rfl,rfl,rfl,Nat.le_refl _,fun _ _ _=>rfl⟩,fun x hx=>.inl hx⟩
 ·exact gG (P:=P) w t ty e i z 1 bytes ht hi hz hsize hby hzs (by decide) v n xs hown ⟨sb,so,none⟩ news.length cap news (by simp) (fun j u hj=>by rw[eT];exact hc j u hj) h1 h63 hbytes
theorem qW (w:World) {ops:Array Oper} {rest:List Oper} {o:Oper} {a:Act} {Q:Exit→Act→World→Prop} (hgd:o.guard=none) (s x:Operand) (t:TypeId)
  (ho:o.op=.call {callee:=.builtin .append,args:=#[s,x],argTypes:=#[t,t]})
  (e:TypeId) (i:TypeInfo) (z:Value) (bytes:Nat) (ht:P.underlying t=some (.slice e)) (hi:P.info? e=some i) (hz:i.zero=some z)
  (hsize:i.size=1) (hby:i.bytes=bytes) (hzs:z.cells.size=1)
  (v:Value) (n:Nat) (xs:List Value) (hs:a.eval s=v) (hown:w.ownsRow 0 e 1 v n xs)
  (sv:Value) (news:List Value) (hx:a.eval x=sv) (hin:j6 w sv news) (h1:∀u∈news,u.oneCell'=true)
  (h63:n+news.length≤maxLen) (hbytes:(n+news.length)*bytes≤140737488355328)
  (h:∀v' w',w'.ownsRow 0 e 1 v' (n+news.length) (xs++news)→w.grownBy w' v.ownBlock→(∀x,v'.ownBlock=some x→v.ownBlock=some x∨w.heap.size≤x)→wpList P ops Q rest (a.put o.dst v') w'):wpList P ops Q (o::rest) a w:=by
 refine wpList_plain hgd fun K hK=> ?_
 obtain⟨v',w',hr,h2,h3,h4⟩:=re (P:=P) w t o.type e i z bytes ht hi hz hsize hby hzs v n xs hown sv news hin h1 h63 hbytes;unfold Oper.wp execOp;simp only[ho,resolve,invoke,builtin,Sem.run_bind,Sem.run_pure,Result.andThen_ok,List.map_toArray,List.map_cons,List.map_nil,hs,hx,hr];exact hK _ _ (h v' w' h2 h3 h4)
end
theorem Ep:(Tryz.prog.info? 193).map (fun i=>(i.zero,i.size,i.bytes))=some (some (.int .u16 0),1,2):=by kernel_rfl
theorem p6 {w:World} {e base sz n:Nat} {v:Value} {xs:List Value} (h:w.ownsRow base e sz v n xs):∃a m c,v=.slice a m c:=by
 rcases dr h with⟨h,_⟩|⟨g,cap,h,_⟩
 ·exact⟨_,_,_,h⟩
 ·exact⟨_,_,_,h⟩
theorem E5 {w:World} {v:Value} {xs:List Int} {base n:Nat} (h:w.ownsRow base 193 1 v n (xs.map (.int .u16))) (hn:n=xs.length) (hx:∀x∈xs,0≤x∧x≤65535):eQ w v xs:=by
 subst hn;rcases dr h with⟨rfl,h0,_⟩|⟨g,cap,rfl,_,hg,hc,hm,hat⟩
 ·exact .inl ⟨rfl,List.eq_nil_of_length_eq_zero h0⟩
 ·refine .inr ⟨g,0,cap,rfl,hg,by omega,hc,fun i hi=>⟨?_,hx _ (List.getElem_mem hi)⟩⟩;have hcc:=hat i (by omega);rw[List.getElem?_map,List.getElem?_eq_getElem hi]at hcc;rw[Nat.zero_add];exact hcc
theorem tN (v:Value) (xs:List Int) (most:Nat) (hmost:most≤1000) (w:World) (h:eQ w v xs):
  Calls Tryz.prog 15 #[v,.int .i64 most] w fun e w'=>∃b,e=.returned (.pointer (some ⟨b,0,none⟩))∧Mod [] w w'∧dM w' b 0 w.heap.size w'.heap.size∧w.heap.size≤b:=by
 obtain⟨i0,hi0,hz0,hz1,hz2⟩:=info_parts Ep;have hln:=fun ty w=>h.len ty w
 have hsm:=h.small;have hx:∀x∈xs,0≤x∧x≤65535:=by
  rcases h with⟨_,rfl⟩|⟨_,_,_,_,_,_,_,h4⟩
  ·simp
  ·intro x hx;obtain⟨i,hi,rfl⟩:=List.mem_iff_getElem.1 hx;exact(h4 i hi).2
 have hown:(w.alloc (.cells #[] 193 (0,0))).ownsRow 0 193 1 (.slice (some ⟨w.heap.size,0,none⟩) 0 0) 0 []:=World.ownsRow_made w #[] 0 (Nat.zero_le _) (Nat.zero_le _) rfl;have hmA:=(Mod.refl [] w).alloc (.cells #[] 193 (0,0));have hA:=h.mod hmA (by simp);have fin:∀(ys:List Int) (sv':Value) (w1:World),(∀x∈ys,0≤x∧x≤65535)→w1.ownsRow 0 193 1 sv' ys.length (ys.map (.int .u16))→(w.alloc (.cells #[] 193 (0,0))).grownBy w1 (some w.heap.size)→(∀x,sv'.ownBlock=some x→(Value.slice (some ⟨w.heap.size,0,none⟩) 0 0).ownBlock=some x∨(w.alloc (.cells #[] 193 (0,0))).heap.size≤x)→
   Mod [] w (w1.alloc (.cells #[sv',.int .i64 0] 113))∧dM (w1.alloc (.cells #[sv',.int .i64 0] 113)) w1.heap.size 0 w.heap.size (w1.alloc (.cells #[sv',.int .i64 0] 113)).heap.size∧w.heap.size≤w1.heap.size:=by
  intro ys sv' w1 hys hr hg hfr;have hge:∀x,sv'.ownBlock=some x→w.heap.size≤x:=fun x hx=>by
   rcases hfr x hx with h|h
   ·have h':some w.heap.size=some x:=h;have:=Option.some.inj h';omega
   ·simp at h;omega
  have hm1:Mod [] w w1:=hmA.grown hg (fun k hk=>.inr (by have:=Option.some.inj hk;omega));have hlt:∀x,sv'.ownBlock=some x→x<w1.heap.size:=fun x hx=>(hr.lt x hx).2
  refine⟨hm1.alloc _,⟨sv',ys,0,an _ _,(E5 hr rfl hys).mod ((Mod.refl [] w1).alloc _) (by simp),Nat.le_refl _,fun e=>by have:=hlt _ e;omega,fun x hx=> ?_,?_,Nat.le_refl _⟩,hm1.size⟩
  ·have:=hlt x hx;have:=hge x hx;rw[World.size_alloc];omega
  ·have:=hm1.size;rw[World.size_alloc];omega
 have finH:=zh fin;clear fin;by_cases hgt:most<xs.length
 ·rcases hA with⟨_,rfl⟩|⟨sb,so,cap,rfl,g2,g3,g5,g4⟩
  ·simp at hgt
  ·have hin:j6 (w.alloc (.cells #[] 193 (0,0))) (.slice (some ⟨sb,so,none⟩) most cap) ((xs.take most).map (Value.int .u16)):=by
    refine .inr ⟨sb,so,cap,by simp;omega,g2,fun j u hj=> ?_⟩;rw[List.getElem?_map]at hj;obtain⟨s,hs,rfl⟩:=Option.map_eq_some_iff.1 hj;obtain⟨hj,e⟩:=List.getElem?_eq_some_iff.1 hs;rw[←e,List.getElem_take];exact(g4 j (by rw[List.length_take]at hj;omega)).1
   have hlt:((xs.take most).map (Value.int .u16)).length=most:=by simp;omega
   have hx':∀x∈xs.take most,0≤x∧x≤65535:=fun x hx0=>hx x (List.mem_of_mem_take hx0)
   clear h g4 hx;go_enter Tryz.func15,Tryz.ntmps15;go_wp2_with (first|(at_builtin;refine qW _ rfl _ _ 22 rfl 193 i0 (.int .u16 0) 2 Tryz.underlying22 hi0 hz0 hz1 hz2 rfl (.slice (some ⟨w.heap.size,0,none⟩) 0 0) 0 [] rfl hown _ _ rfl hin (by intro u hu;rw[List.mem_map]at hu;obtain⟨y,_,rfl⟩:=hu;rfl) (by rw[hlt];unfold maxLen;omega) (by rw[hlt];omega) ?_;intro sv' w1 hown1 hgrow hfr;simp only[Nat.zero_add,List.nil_append,hlt]at hown1;obtain⟨ya,yn,yc,rfl⟩:=p6 hown1));go_ret;have hty:(xs.take most).length=most:=by rw[List.length_take];omega
   exact⟨_,rfl,finH.out (xs.take most) _ w1 hx' (by rw[hty];exact hown1) hgrow hfr⟩
 ·have hin:j6 (w.alloc (.cells #[] 193 (0,0))) v (xs.map (Value.int .u16)):=by
   rcases hA with⟨rfl,rfl⟩|⟨sb,so,cap,rfl,g2,g3,g5,g4⟩
   ·exact .inl ⟨rfl,rfl⟩
   ·refine .inr ⟨sb,so,cap,by simp,g2,fun j u hj=> ?_⟩;rw[List.getElem?_map]at hj;obtain⟨s,hs,rfl⟩:=Option.map_eq_some_iff.1 hj;obtain⟨hj,e⟩:=List.getElem?_eq_some_iff.1 hs;rw[←e];exact(g4 j hj).1
  have hlt:(xs.map (Value.int .u16)).length=xs.length:=by simp
  clear h hA;go_enter Tryz.func15,Tryz.ntmps15;go_wp2_with (first|(at_builtin;refine qW _ rfl _ _ 22 rfl 193 i0 (.int .u16 0) 2 Tryz.underlying22 hi0 hz0 hz1 hz2 rfl (.slice (some ⟨w.heap.size,0,none⟩) 0 0) 0 [] rfl hown _ _ rfl hin (by intro u hu;rw[List.mem_map]at hu;obtain⟨y,_,rfl⟩:=hu;rfl) (by rw[hlt];unfold maxLen;omega) (by rw[hlt];omega) ?_;intro sv' w1 hown1 hgrow hfr;simp only[Nat.zero_add,List.nil_append,hlt]at hown1;obtain⟨ya,yn,yc,rfl⟩:=p6 hown1));go_ret;exact⟨_,rfl,finH.out xs _ w1 hx hown1 hgrow hfr⟩
end Go.Proofs.YtdehaommhbjakaaGreat.Ty
namespace Go.Proofs.YtdehaommhbjakaaGreat.Ty
open RowKit Stg
section
variable {P:Program} {ops:Array Oper} {I:World→Prop} {Out:Prop} {Q:Act→World→Prop}
theorem aO (v:Nat→Value) (ob:Obj) (C':Nat→World→Prop) {o:Oper} {rest:List Oper} {C:World→Prop} {a:Act}
  (hv:∀s s',v s=v s'→s=s') (hw:Region.wanted o (yielded ops a.tmps)=true) (he:aY o=true)
  (hrun:∀w,C w→(execOp a.eval o).run P w=.ok (.value (v w.heap.size)) (w.alloc ob)) (hC:∀w,C w→C' w.heap.size (w.alloc ob)) (hI:∀s w,C' s w→I w)
  (h:∀s,aH P ops I Out Q rest (C' s) (a.put o.dst (v s))):aH P ops I Out Q (o::rest) C a:=by
 unfold aH;simp only[hw,he,if_true];refine⟨fun u=>∃s,u=v s,fun u w=>∃s,u=v s∧C' s w,⟨v 0,0,rfl⟩,fun w hc=> ?_,fun u w ⟨s,h1,h2⟩=>⟨⟨s,h1⟩,.inr (hI s w h2)⟩,fun u ⟨s,hu⟩=> ?_⟩
 ·unfold gives;rw[hrun w hc];exact⟨_,rfl,hC w hc⟩
 ·subst hu;have e:(fun w=>∃s',v s=v s'∧C' s' w)=C' s:=by
   funext w;apply propext;constructor
   ·rintro⟨s',h1,h2⟩;rw[hv _ _ h1];exact h2
   ·intro h;exact⟨s,rfl,h⟩
  have h':=h s;rw[←e]at h';exact h'
theorem cP (V:Value→Prop) (C':Value→World→Prop) {o:Oper} {rest:List Oper} {C:World→Prop} {a:Act}
  (hw:Region.wanted o (yielded ops a.tmps)=true) (he:aY o=true) (hV:∃v,V v)
  (hrun:∀w,C w→∃v w',(execOp a.eval o).run P w=.ok (.value v) w'∧V v∧C' v w') (hI:∀v w,C' v w→I w)
  (h:∀v,V v→aH P ops I Out Q rest (C' v) (a.put o.dst v)):aH P ops I Out Q (o::rest) C a:=by
 unfold aH;simp only[hw,he,if_true];refine⟨V,fun u w=>V u∧C' u w,hV,fun w hc=> ?_,fun u w h1=>⟨h1.1,.inr (hI u w h1.2)⟩,fun u hu=> ?_⟩
 ·obtain⟨v,w',hr,h1,h2⟩:=hrun w hc;unfold gives;rw[hr];exact⟨h1,h2⟩
 ·have e:(fun w=>V u∧C' u w)=C' u:=by
   funext w;simp[hu]
  have h':=h u hu;rw[←e]at h';exact h'
theorem cD (f:FuncId) (args:Array Value) (V:Value→Prop) (C':Value→World→Prop) {o:Oper} {rest:List Oper} {C:World→Prop} {a:Act} {asz:Array Operand} {ts:Array TypeId}
  (hop:o.op=.call ⟨.value (.func f),asz,ts⟩) (hcall:∀(args:Array Value) w,(callFunc f args).run P w=.ok (.enter f args) w)
  (hw:Region.wanted o (yielded ops a.tmps)=true) (hargs:(asz.toList.map a.eval).toArray=args) (hV:∃v,V v)
  (hc:∀w,C w→Calls P f args w fun e w'=>∃v,e=.returned v∧V v∧C' v w') (hI:∀v w,C' v w→I w)
  (h:∀v,V v→aH P ops I Out Q rest (C' v) (a.put o.dst v)):aH P ops I Out Q (o::rest) C a:=by
 unfold aH;have he:aY o=true:=by simp[aY,hop]
 simp only[hw,he,if_true];refine⟨V,fun u w=>V u∧C' u w,hV,fun w hC=> ?_,fun u w h1=>⟨h1.1,.inr (hI u w h1.2)⟩,fun u hu=> ?_⟩
 ·unfold gives;rw[nw hop rfl hcall w,hargs];exact(hc w hC).mono fun e w' ⟨v,h1,h2,h3⟩=>by subst h1;exact⟨h2,h3⟩
 ·have e:(fun w=>V u∧C' u w)=C' u:=by
   funext w;simp[hu]
  have h':=h u hu;rw[←e]at h';exact h'
end
theorem eM {P:Program} {w w':World} {o:Oper} {a:Act} {v u v':Value} (s x:Operand) (t:TypeId) (ho:o.op=.call {callee:=.builtin .append,args:=#[s,x],argTypes:=#[t,t]}) (hs:a.eval s=v) (hx:a.eval x=u)
  (hr:(Builtin.append_ #[t,t] o.type #[v,u]).run P w=.ok v' w'):(execOp a.eval o).run P w=.ok (.value v') w':=by
 unfold execOp;simp only[ho,resolve,invoke,builtin,Sem.run_bind,Sem.run_pure,Result.andThen_ok,List.map_toArray,List.map_cons,List.map_nil,hs,hx,hr]
def Made (len:Int) (fs:List aM):Prop:=(∀f∈fs,Small f)∧((len=0∧1≤fs.length∧fs.length≤4)∨(1≤len∧len≤5∧fs.length=1))
theorem DL (b K A B:Nat) (w:World) (h:dM w b K A B) (hK:K≤1000):
  Calls Tryz.prog 46 #[.pointer (some ⟨b,0,none⟩)] w fun e w'=>∃(len:Int) (g cap:Nat) (fs:List aM),e=.returned (.agg #[.int .i64 len,.slice (some ⟨g,0,none⟩) fs.length cap])∧aw w' (.slice (some ⟨g,0,none⟩) fs.length cap) fs∧Made len fs∧fs.length≤cap∧Mod [b] w w'∧w.heap.size≤g∧dM w' b (K+12) A B∧w'.ownsRow 0 51 2 (.slice (some ⟨g,0,none⟩) fs.length cap) fs.length (ax fs):=by
 have hb:=h.lt;have q0:=an w (.cells #[.int .i64 0,.slice none 0 0] 54);have hm0:=(Mod.refl [] w).alloc (.cells #[.int .i64 0,.slice none 0 0] 54);have hN:=zh (nm b K A B 4 (by omega) (by omega) _ (h.mod hm0) (by omega));clear h;go_enter Tryz.func46,Tryz.ntmps46;go_wp2_with fail;refine hN.out.mono ?_;rintro e w1 ⟨x,rfl,x0,x1,hm1,hT1⟩;have q1:=hm1.at q0 (by simp;omega);have hm1:=(hm0.mono (T:=[b]) (by simp)).then hm1 (fun y hy=>.inl hy)
 clear q0 hm0 hN;by_cases h0:x=0
 ·subst h0;go_wp2_with fail;refine(nm b (K+1) A B 5 (by omega) (by omega) _ hT1 (by omega)).mono ?_;rintro e w2 ⟨y,rfl,y0,y1,hm2,hT2⟩;have q2:=hm2.at q1 (by simp;omega);have hm2:=hm1.then hm2 (fun z hz=>.inl hz);clear hm1 hT1 q1;go_wp2_with fail;refine(oB b (K+2) A B _ hT2 (by omega)).mono ?_;rintro e w3 ⟨k,c,rfl,hsm,hm3,hT3⟩;have q3:=hm3.at q2 (by simp;omega);have hm3:=hm2.then hm3 (fun z hz=>.inl hz);clear hm2 hT2 q2;have hws3:=aL q3;have cq:=ae q3;have fq:=ay q3;have q3a:=aq (o:=0) (v:=.int .i64 (1+y)) q3;have cq3:=ae q3a;have fq3:=ay q3a;go_wp2_with fail;have q4:=aI (o:=.cells #[.int .i64 k,.int .i64 c] 51) (aq (o:=1) (v:=.slice (some ⟨w3.heap.size,0,none⟩) 1 1) q3a);have p4:=an ((w3.setCell ⟨w.heap.size,0,none⟩ (.int .i64 (1+y))).setCell ⟨w.heap.size,1,none⟩ (.slice (some ⟨w3.heap.size,0,none⟩) 1 1)) (.cells #[.int .i64 k,.int .i64 c] 51);have hsz:((w3.setCell ⟨w.heap.size,0,none⟩ (.int .i64 (1+y))).setCell ⟨w.heap.size,1,none⟩ (.slice (some ⟨w3.heap.size,0,none⟩) 1 1)).heap.size=w3.heap.size:=by simp[World.setCell]
  rw[hsz]at p4;have hm4:=((hm3.setCell (p:=⟨w.heap.size,0,none⟩) (.inr (Nat.le_refl _)) (.int .i64 (1+y))).setCell (p:=⟨w.heap.size,1,none⟩) (.inr (Nat.le_refl _)) (.slice (some ⟨w3.heap.size,0,none⟩) 1 1)).alloc (.cells #[.int .i64 k,.int .i64 c] 51);have c4:=ae q4;have hT4:=(hT3.jy ((((Mod.refl [w.heap.size] w3).setCell (p:=⟨w.heap.size,0,none⟩) (.inl (by simp)) (.int .i64 (1+y))).setCell (p:=⟨w.heap.size,1,none⟩) (.inl (by simp)) (.slice (some ⟨w3.heap.size,0,none⟩) 1 1)).alloc (.cells #[.int .i64 k,.int .i64 c] 51)) (by simp;omega)).up (L:=K+12) (by omega);refine bodyPost_ret (v:=.agg #[.int .i64 (1+y),.slice (some ⟨w3.heap.size,0,none⟩) 1 1]) ?_ rfl ⟨1+y,w3.heap.size,1,[(k,c)],rfl,fG p4,⟨by simpa using hsm,.inr ⟨by omega,by omega,rfl⟩⟩,by simp,hm4,by omega,hT4,⟨rfl,.inr ⟨_,1,#[.int .i64 k,.int .i64 c],rfl,Nat.zero_le _,p4,Nat.le_refl _,by unfold maxLen;omega,rfl,rfl⟩⟩⟩;simp[results,Tryz.results46,go_sem,c4]
 ·have hne0:(x==0)=false:=by simp only[beq_eq_false_iff_ne];omega
  have p1:=an w1 (.cells #[.int .i64 0,.slice none 0 0] 54);have q1w:=aL q1;have q1:=aI (o:=.cells #[.int .i64 0,.slice none 0 0] 54) q1;have hm1:=hm1.alloc (.cells #[.int .i64 0,.slice none 0 0] 54);have hT1:=hT1.mod ((Mod.refl [] w1).alloc (.cells #[.int .i64 0,.slice none 0 0] 54));go_wp2_with fail;generalize hX:w1.heap.size=X at*;generalize w1.alloc (.cells #[.int .i64 0,.slice none 0 0] 54)=W1 at*;refine(nm b (K+1) A B 4 (by omega) (by omega) _ hT1 (by omega)).mono ?_;rintro e w2 ⟨y,rfl,y0,y1,hm2,hT2⟩;have q2:=hm2.at q1 (by simp;omega);have p2:=hm2.at p1 (by simp;omega);have hm2:=hm1.then hm2 (fun z hz=>.inl hz);clear hm1 hT1 q1 p1 hX;obtain⟨n0,hn0⟩:=Int.eq_ofNat_of_zero_le (show 0≤1+y by omega);have hn4:n0≤4:=by omega
  have hn1:1≤n0:=by omega
  go_wp2_with fail;clear hn0;go_loopw [4] (fun i wr=>∃(r:Nat) (fs:List aM) (sv:Value),i=.int .i64 r∧fs.length+r=n0∧(∀f∈fs,Small f)∧Mod [b] w wr∧wr.heap[X]? =some (.cells #[.int .i64 0,sv] 54 (0,0))∧wr.heap[w.heap.size]? =some (.cells #[.int .i64 0,.slice none 0 0] 54 (0,0))∧wr.ownsRow 0 51 2 sv fs.length (ax fs)∧(∀z,sv.ownBlock=some z→w.heap.size≤z∧z≠X∧z≠w.heap.size)∧dM wr b (K+2+2*fs.length) A B) (fun i _=>(intOf i).toNat)
  case atStart=>exact⟨n0,[],_,rfl,by simp,by simp,hm2,p2,q2,World.ownsRow_nil _ _ _ _,by simp[Value.ownBlock],by simpa using hT2⟩
  case round=>
   obtain⟨r,fs,sv,rfl,hlen,hall,hm,hp,hq,hrow,hfs,hT⟩:=hrel;clear hm2 p2 q2 hT2;by_cases hr:0<r
   ·obtain⟨i0,hi0,hz0,hz1,hz2⟩:=info_parts rU;have hXn:w.heap.size≠X:=by omega
    have hXS:X∉b::sv.ownBlock.toList:=fun hx=>by
     rcases List.mem_cons.1 hx with e|hx
     ·omega
     ·exact(hfs X (by simpa using hx)).2.1 rfl
    have hRS:w.heap.size∉b::sv.ownBlock.toList:=fun hx=>by
     rcases List.mem_cons.1 hx with e|hx
     ·omega
     ·exact(hfs _ (by simpa using hx)).2.2 rfl
    have hso:∀z,sv.ownBlock=some z→z<wr.heap.size:=fun z hz=>(hrow.lt z hz).2
    have hlen4:fs.length≤3:=by omega
    have h63:fs.length+1≤maxLen:=by unfold maxLen;omega
    have hby:(fs.length+1)*16≤140737488355328:=by omega
    have k1:=GW.cells (S:=b::sv.ownBlock.toList) hp hXS;have hXw:=aL hp;go_wp2_with fail;refine bY (fun w'=>∃x:GW (b::sv.ownBlock.toList) wr,w'=x.1) (fun w'=>Mod [] wr w') (by kernel_rfl) (by kernel_rfl) (fun _ h=>ah.of (h.mono (by simp))) (Mod.refl _ _).drew ?_;refine sq 3 ?_;refine cD 90 _ (fun u=>∃k c:Int,u=.agg #[.int .i64 k,.int .i64 c]∧Small (k,c)) (fun _ w'=>Mod [b] wr w'∧dM w' b (K+2+2*fs.length+2) A B) rfl Tryz.call90 rfl rfl ⟨_,1,0,rfl,by simp[Small]⟩ (fun w' h=>(oB b _ A B w' (hT.mod h) (by omega)).mono fun e w'' ⟨k,c,h1,h2,h3,h4⟩=>⟨_,h1,⟨k,c,rfl,h2⟩,(h.mono (T:=[b]) (by simp)).then h3 (fun z hz=>.inl hz),h4⟩) (fun _ _ h=>ah.of (h.1.mono (by simp))) (fun u hu=> ?_);obtain⟨k,c,rfl,hsm⟩:=hu;simp only[Act.put,sA,sB,sC];refine aO (fun s=>.slice (some ⟨s,0,none⟩) 1 1) (.cells #[.int .i64 k,.int .i64 c] 51 (0,0)) (fun s w'=>Mod [b] wr w'∧wr.heap.size≤s∧w'.heap[s]? =some (.cells #[.int .i64 k,.int .i64 c] 51 (0,0))∧dM w' b (K+2+2*fs.length+2) A B) (by intro s s' h;simpa using h) rfl rfl (fun w' hw=> ?_) (fun w' hw=>⟨hw.1.alloc _,hw.1.size,an _ _,hw.2.mod ((Mod.refl [] w').alloc _)⟩) (fun s w' h=>ah.of (h.1.mono (by simp))) (fun s=> ?_)
    ·kernel_rfl
    simp only[Act.put,sA,sB,sC];refine cP (fun v=>∃g cap,v=.slice (some ⟨g,0,none⟩) (fs.length+1) cap) (fun v w'=>Mod (b::sv.ownBlock.toList) wr w'∧w'.ownsRow 0 51 2 v (fs.length+1) (ax (fs++[(k,c)]))∧(∀y,v.ownBlock=some y→sv.ownBlock=some y∨wr.heap.size≤y)∧dM w' b (K+2+2*fs.length+2) A B) rfl rfl ⟨_,0,0,rfl⟩ (fun w' hw=> ?_) (fun v w' h=>ah.of h.1) (fun v hv=> ?_)
    ·obtain⟨br,aP,cM,hw4⟩:=hw;have hnews:∀j u,[Value.int .i64 k,Value.int .i64 c][j]? =some u→w'.cell? ((⟨s,0,none⟩:Addr).add j)=some u:=fun j u h=>by
      rw[eT,Nat.zero_add,ae cM];simpa using h
     obtain⟨v',w2,hr2,h2,h3,h4⟩:=gG (P:=Tryz.prog) w' 52 52 51 i0 (.agg #[.int .i64 0,.int .i64 0]) 2 16 Tryz.underlying52 hi0 hz0 hz1 hz2 rfl (by decide) sv fs.length (ax fs) (aG hrow br (fun g hg hgb=>by have:=hfs g hg;have hgb':g=b:=List.mem_singleton.1 hgb;omega)) ⟨s,0,none⟩ 1 1 [.int .i64 k,.int .i64 c] rfl hnews (by simp[Value.oneCell']) h63 hby;obtain⟨g',cap',rfl,_,_⟩:=cW h2 (by omega);refine⟨_,w2,eM _ _ 52 rfl rfl rfl hr2,⟨g',cap',rfl⟩,(br.mono (by simp)).grown h3 (fun k hk=>.inl (by simp[hk])),by rw[mQ];exact h2,fun y hy=>(h4 y hy).imp id (fun h=>Nat.le_trans br.size h),hw4.jy ((Mod.refl sv.ownBlock.toList w').grown h3 (fun k hk=>.inl (by simp[hk]))) (fun z hz=>by have:=hfs z (by simpa using hz);omega)⟩
    simp only[Act.put,sA,sB,sC];obtain⟨g,cap,rfl⟩:=hv;refine sq 1 ?_;refine dq (p:=⟨X,1,none⟩) (u:=.slice (some ⟨g,0,none⟩) (fs.length+1) cap) (fun w'=>w'.setCell ⟨X,1,none⟩ (.slice (some ⟨g,0,none⟩) (fs.length+1) cap)) rfl rfl (by kernel_rfl) rfl rfl rfl (fun w' hw=> ?_) (fun w' hw=> ?_)
    ·have c1:=ae (hw.1.at hp hXS);have f1:=ay (hw.1.at hp hXS);clear k1;go_simp
    ·obtain⟨hmw,hrw,hfw,hTw⟩:=hw;clear k1;go_wp2_with fail;have hgn:w.heap.size≤g∧g≠X∧g≠w.heap.size:=by
      rcases hfw g rfl with h|h
      ·exact hfs g h
      ·omega
     go_roundw
     case rel=>
      refine⟨r-1,fs++[(k,c)],.slice (some ⟨g,0,none⟩) (fs.length+1) cap,by congr 1;omega,by simp;omega,fun f hf=> ?_,(hm.then hmw (fun z hz=> ?_)).setCell (p:=⟨X,1,none⟩) (.inr (by show w.heap.size≤X;omega)) _,aq (o:=1) (hmw.at hp hXS),dI (hmw.at hq hRS) hXn,?_,fun z hz=> ?_,?_⟩
      ·rcases List.mem_append.1 hf with hf|hf
       ·exact hall f hf
       ·rw[List.mem_singleton.1 hf];exact hsm
      ·rcases List.mem_cons.1 hz with e|hz
       ·exact .inl (by simp[e])
       ·exact .inr (hfs z (by simpa using hz)).1
      ·have hr3:=aG hrw ((Mod.refl [X] w').setCell (p:=⟨X,1,none⟩) (.inl (by simp)) (.slice (some ⟨g,0,none⟩) (fs.length+1) cap)) (fun z hz=>by
        have hz':some g=some z:=hz;obtain rfl:=Option.some.inj hz';simpa using hgn.2.1)
       rw[List.length_append];exact hr3
      ·have hz':some g=some z:=hz;obtain rfl:=Option.some.inj hz';exact hgn
      ·have hT3:=(hTw.jy ((Mod.refl [X] w').setCell (p:=⟨X,1,none⟩) (.inl (by simp)) (.slice (some ⟨g,0,none⟩) (fs.length+1) cap)) (by simp;omega)).up (L:=K+2+2*(fs++[(k,c)]).length) (by simp;omega);exact hT3
     case measure=>simp[intOf];omega
   ·obtain rfl:r=0:=by omega
    have cp:=ae hp;have cq:=ae hq;have fq:=ay hq;obtain⟨g,cap,rfl,_,hg⟩:=cW hrow (by omega);have hgf:=hfs g rfl;have hXn:w.heap.size≠X:=by omega
    have hcap:fs.length≤cap:=by
     rcases dr hrow with⟨h,_⟩|⟨g',cap',h,_,_,h2,_⟩
     ·simp at h
     ·simp at h;obtain⟨_,rfl⟩:=h;exact h2
    go_wp2_with fail;have q4:=aq (o:=1) (v:=.slice (some ⟨g,0,none⟩) fs.length cap) (aq (o:=0) (v:=.int .i64 0) hq);have hm4:=(hm.setCell (p:=⟨w.heap.size,0,none⟩) (.inr (Nat.le_refl _)) (.int .i64 0)).setCell (p:=⟨w.heap.size,1,none⟩) (.inr (Nat.le_refl _)) (.slice (some ⟨g,0,none⟩) fs.length cap);have hr4:=aG hrow (((Mod.refl [w.heap.size] wr).setCell (p:=⟨w.heap.size,0,none⟩) (.inl (by simp)) (.int .i64 0)).setCell (p:=⟨w.heap.size,1,none⟩) (.inl (by simp)) (.slice (some ⟨g,0,none⟩) fs.length cap)) (fun z hz=>by simpa using(hfs z hz).2.2);have hF:=(fW hrow rfl).jy (((Mod.refl [w.heap.size] wr).setCell (p:=⟨w.heap.size,0,none⟩) (.inl (by simp)) (.int .i64 0)).setCell (p:=⟨w.heap.size,1,none⟩) (.inl (by simp)) (.slice (some ⟨g,0,none⟩) fs.length cap)) (fun z hz=>by simpa using(hfs z hz).2.2);have c4:=ae q4;have hT4:=(hT.jy (((Mod.refl [w.heap.size] wr).setCell (p:=⟨w.heap.size,0,none⟩) (.inl (by simp)) (.int .i64 0)).setCell (p:=⟨w.heap.size,1,none⟩) (.inl (by simp)) (.slice (some ⟨g,0,none⟩) fs.length cap)) (by simp;omega)).up (L:=K+12) (by omega);refine bodyPost_ret (v:=.agg #[.int .i64 0,.slice (some ⟨g,0,none⟩) fs.length cap]) ?_ rfl ⟨0,g,cap,fs,rfl,hF,⟨hall,.inl ⟨rfl,by omega,by omega⟩⟩,hcap,hm4,hgf.1,hT4,hr4⟩;simp[results,Tryz.results46,go_sem,c4]
end Go.Proofs.YtdehaommhbjakaaGreat.Ty
