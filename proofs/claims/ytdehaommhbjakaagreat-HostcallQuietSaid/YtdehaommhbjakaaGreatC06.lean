/- Joined contracts. No conditions. -/
import Derived.Test.YtdehaommhbjakaaGreatC05
set_option maxHeartbeats 4000000
namespace Go.Proofs.YtdehaommhbjakaaGreat.Tb
open RowKit Stg
theorem CB:(Tryz.prog.info? 4).map (fun i=>(i.zero,i.size,i.bytes))=some (some (.bool false),1,1):=by kernel_rfl
theorem Ed (z:Value) (n:Nat):(madeCells #[z] (n*1)).toList=List.replicate n z:=by
 apply List.ext_getElem?;intro j;rw[Array.getElem?_toList];by_cases hj:j<n
 ·simp[madeCells,hj,Nat.mod_one]
 ·rw[List.getElem?_eq_none (by simp;omega),Array.getElem?_eq_none (by simp[size_madeCells];omega)]
theorem p8 {t e:TypeId} {z:Value} {bytes:Nat} (ht:Tryz.prog.underlying t=some (.slice e)) (hinfo:(Tryz.prog.info? e).map (fun i=>(i.zero,i.size,i.bytes))=some (some z,1,bytes)) (hz:z.cells=#[z]) (hby:bytes≤64) (n:Nat) (hn:n≤4096) (w:World):
  ∃w',(Instr.makeSlice t (.int .i64 n) (.int .i64 n)).run Tryz.prog w=.ok (.slice (some ⟨w.heap.size,0,none⟩) n n) w'∧w'.ownsRow w.heap.size e 1 (.slice (some ⟨w.heap.size,0,none⟩) n n) n (List.replicate n z)∧Mod [] w w':=by
 obtain⟨i0,hi,hz0,hz1,hz2⟩:=info_parts hinfo;have hb:i0.bytes*n≤281474976710656:=by
  rw[hz2];exact Nat.le_trans (Nat.mul_le_mul hby hn) (by omega)
 obtain⟨w',h1,h2,h3⟩:=run_makeSlice_full (P:=Tryz.prog) w w.heap.size t e i0 z 1 ht hi hz0 hz1 .i64 .i64 n (by omega) hb (by unfold maxLen;omega) (Nat.le_refl _);rw[hz,Ed]at h2;exact⟨w',h1,h2,(Mod.refl [] w).grown h3 (by simp)⟩
theorem vp (n:Nat):oP (fresh n)=List.replicate n (.int .i64 0):=by simp[oP,fresh]
theorem uW (n:Nat):nq (fresh n)=List.replicate n (.bool false):=by simp[nq,fresh]
def zr (W:World) (gv lv:Value) (n:Nat) (w':World):Prop:=
 Mod [] W w'∧w'.ownsRow 0 3 1 gv n (oP (fresh n))∧w'.ownsRow 0 4 1 lv n (nq (fresh n))∧(∀y,gv.ownBlock=some y→W.heap.size≤y)∧(∀y,lv.ownBlock=some y→W.heap.size≤y)∧∀y,gv.ownBlock=some y→lv.ownBlock≠some y
def nu (w:World) (b:Nat) (f:Int) (n k:Nat) (gv lv:Value) (w':World):Prop:=
 ∃fv,Mod [] w w'∧fC w' b f (fresh n) (cV k) 0 gv lv fv∧w'.ownsRow 0 3 1 fv k ((cV k).map (.int .i64))∧∀x∈cU b gv lv fv,w.heap.size≤x
theorem FN (n:Nat) (f:Int) (hn:n≤4096) (hf1:1≤f) (hf2:f≤4294967295) (w:World):
  Calls Tryz.prog 145 #[.int .i64 n,.int .i64 f] w fun e w'=>∃b gv lv fv,e=.returned (.tuple #[.pointer (some ⟨b,0,none⟩),.int .i64 0])∧Mod [] w w'∧fC w' b f (fresh n) (cV n) 0 gv lv fv∧∀x∈cU b gv lv fv,w.heap.size≤x:=by
 have hM1:=zh (p8 Tryz.underlying28 mh rfl (by omega) n hn);have hM2:=zh (p8 Tryz.underlying281 CB rfl (by omega) n hn);go_enter Tryz.func145,Tryz.ntmps145;go_wp2_with fail;refine uh 4 4 [0,1,3,2,4,5,6,7] _ (fun w'=>∃x:GW [] w,w'=x.1) (fun w'=>Mod [] w w') (by kernel_rfl) rfl rfl (by kernel_rfl) (by kernel_rfl) rfl (by decide) (by kernel_rfl) (fun _ h=>ah.of h) (Mod.refl _ _).drew ?_;simp only[nx,List.filterMap_cons,List.filterMap_nil,List.getElem?_cons_zero,List.getElem?_cons_succ];dsimp only[List.getElem_toArray,List.getElem_cons_succ,List.getElem_cons_zero];refine dd 3 (by kernel_rfl) (by decide) ?_;simp only[tA,tB,tC,tD,Nat.reduceAdd];(repeat go_big_quiet_step (fail));refine wpQuiet_nil ?_;refine fh (by decide) rfl rfl ?A rfl (by simp) ?B
 case A=>
  refine oI (fun v=>∃g,v=.slice (some ⟨g,0,none⟩) n n) (fun v w'=>Mod [] w w'∧w'.ownsRow 0 3 1 v n (oP (fresh n))∧∀y,v.ownBlock=some y→w.heap.size≤y) ⟨_,0,rfl⟩ (fun w' hw=> ?_) (fun v w' h=>ah.of h.1) (fun v hv=> ?_)
  ·obtain⟨w2,h1,h2,h3⟩:=hM1.out w';refine⟨_,w2,mW rfl rfl rfl h1,⟨_,rfl⟩,hw.ag h3,by rw[vp];exact aE h2 (Nat.zero_le _),fun y hy=>Nat.le_trans hw.size (h2.lt y hy).1⟩
  simp only[Act.put,sA,sB,sC];obtain⟨g1,rfl⟩:=hv;refine ia ?_;refine cP (fun v=>∃g,v=.slice (some ⟨g,0,none⟩) n n) (fun v w'=>zr w (.slice (some ⟨g1,0,none⟩) n n) v n w') rfl rfl ⟨_,0,rfl⟩ (fun w' hw=> ?_) (fun v w' h=>ah.of h.1) (fun v hv=> ?_)
  ·obtain⟨k1,k2,k3⟩:=hw;obtain⟨w2,h1,h2,h3⟩:=hM2.out w';have hlt:=k2.lt;refine⟨_,w2,mW rfl rfl rfl h1,⟨_,rfl⟩,k1.ag h3,aG k2 h3 (by simp),by rw[uW];exact aE h2 (Nat.zero_le _),k3,fun y hy=>Nat.le_trans k1.size (h2.lt y hy).1,fun y hy e=>by have:=(hlt y hy).2;have:=(h2.lt y e).1;omega⟩
  simp only[Act.put,sA,sB,sC];obtain⟨g2,rfl⟩:=hv;refine sq 1 ?_;refine aO (fun b=>.pointer (some ⟨b,0,none⟩)) (.cells #[.int .i64 f,.slice (some ⟨g1,0,none⟩) n n,.slice (some ⟨g2,0,none⟩) n n,.slice none 0 0,.int .i64 0] 283 (0,0)) (fun b w'=>nu w b f n 0 (.slice (some ⟨g1,0,none⟩) n n) (.slice (some ⟨g2,0,none⟩) n n) w') (by intro s s' h;simpa using h) rfl rfl (fun w' hw=> ?_) (fun w' hw=> ?_) (fun s w' h=>ah.of h.choose_spec.1) (fun b=> ?_)
  ·kernel_rfl
  ·obtain⟨h1,h2,h3,h4,h5,h6⟩:=hw;have ha:=(Mod.refl [] w').alloc (.cells #[.int .i64 f,.slice (some ⟨g1,0,none⟩) n n,.slice (some ⟨g2,0,none⟩) n n,.slice none 0 0,.int .i64 0] 283 (0,0));have hg:=h2.lt;have hl:=h3.lt;refine⟨_,h1.alloc _,⟨an _ _,by rw[iC];exact aG h2 ha (by simp),by rw[iC];exact aG h3 ha (by simp),.inl ⟨rfl,rfl⟩,⟨fun e=>by have:=(hg _ e).2;omega,fun e=>by have:=(hl _ e).2;omega,by simp[Value.ownBlock]⟩,fun x hx=>⟨h6 x hx,by simp[Value.ownBlock]⟩,by simp[Value.ownBlock]⟩,World.ownsRow_nil _ _ _ _,fun x hx=> ?_⟩;simp only[cU,List.mem_cons,List.mem_append,Option.mem_toList]at hx;rcases hx with rfl|hx|hx|hx
   ·exact h1.size
   ·exact h4 x hx
   ·exact h5 x hx
   ·simp[Value.ownBlock]at hx
  refine sq 1 ?_;refine au ?_;intro w5 hG;clear hM1 hM2;obtain⟨i0,hi0,hz0,hz1,hz2⟩:=info_parts mh;go_wp2_with fail;go_loopw [7] (fun i wr=>∃k:Nat,k≤n∧i=.int .i64 k∧nu w b f n k (.slice (some ⟨g1,0,none⟩) n n) (.slice (some ⟨g2,0,none⟩) n n) wr) (fun i _=>n-(intOf i).toNat)
  case atStart=>exact⟨0,by omega,rfl,hG⟩
  case round=>
   obtain⟨k,hk,rfl,fv,hm6,hG6,hrow6,hfo6⟩:=hrel;clear hG;by_cases hlt:k<n
   ·have hcb:=ae hG6.aQ;have hfb:=ay hG6.aQ;have hG6a:=hG6.mod ((Mod.refl [] wr).alloc (.cells #[.int .i64 k] 3 (0,0))) (by simp);have hcba:=ae hG6a.aQ;have hG6H:=zh hG6;have hfoH:=zh hfo6;have hmH:=zh hm6;have hrowH:=zh hrow6;clear hG6 hG6a hfo6 hm6 hrow6;go_wp2_with (at_builtin;refine dO _ rfl _ _ 28 rfl 3 i0 (.int .i64 0) 1 8 Tryz.underlying28 hi0 hz0 hz1 hz2 rfl (by decide) fv k _ rfl (hrowH.out.alloc _) ⟨wr.heap.size,0,none⟩ 1 1 [.int .i64 k] rfl rfl (ny _ _ _) (by simp[Value.oneCell']) (by unfold maxLen;first|omega|(simp;done)|(simp;omega)) (by first|omega|(simp;done)|(simp;omega)) ?_;intro fv2 w7 hown hgrow hfr;obtain⟨g5,cap5,rfl,_,_⟩:=cW hown (by omega);have hm7:=((Mod.refl fv.ownBlock.toList wr).alloc (.cells #[.int .i64 k] 3 (0,0))).grown hgrow (by intro k hk;left;simp[hk]);have hb7:=hm7.at hG6H.out.aQ (by simpa using hG6H.out.n1.2.2);have hcb7:=ae hb7;have hfb7:=ay hb7);have hG6:=hG6H.out;have hfo6:=hfoH.out;have hm8:=(hm7.mono (T:=b::fv.ownBlock.toList) (by intro x hx;simp at hx;simp[hx])).setCell (p:=⟨b,3,none⟩) (.inl (by simp)) (.slice (some ⟨g5,0,none⟩) (k+1) cap5);have hb8:=aq (o:=3) (v:=.slice (some ⟨g5,0,none⟩) (k+1) cap5) hb7;have hg5:fv.ownBlock=some g5∨wr.heap.size≤g5:=by
     rcases hfr g5 rfl with h|h
     ·exact .inl h
     ·simp at h;omega
    have hbl:=aL hG6.aQ;have hn5:g5≠b:=fun e=>by
     rcases hg5 with h|h
     ·exact hG6.n1.2.2 (by rw[h,e])
     ·omega
    have hr8:=aG hown ((Mod.refl [b] w7).setCell (p:=⟨b,3,none⟩) (.inl (by simp)) (.slice (some ⟨g5,0,none⟩) (k+1) cap5)) (fun x hx=>by simp[Value.ownBlock]at hx;simp;omega);have e8:((cV k).map (Value.int .i64)++[Value.int .i64 k])=(cV (k+1)).map (.int .i64):=by rw[n5,List.map_append];rfl
    rw[e8]at hr8;have ha8:∀x,x<wr.heap.size→x≠b→fv.ownBlock≠some x→x∉b::fv.ownBlock.toList∧g5≠x:=fun x h1 h2 h3=>⟨by simp[h2];exact h3,fun e=>by
     rcases hg5 with h|h
     ·exact h3 (by rw[h,e])
     ·omega⟩
    have hgl:=kO hG6.gen;have hll:=kO hG6.live;have hA8:fC (w7.setCell ⟨b,3,none⟩ (.slice (some ⟨g5,0,none⟩) (k+1) cap5)) b f (fresh n) (cV (k+1)) 0 (.slice (some ⟨g1,0,none⟩) n n) (.slice (some ⟨g2,0,none⟩) n n) (.slice (some ⟨g5,0,none⟩) (k+1) cap5):=by
     have q1:=ha8 g1 (hgl g1 rfl).2 (fun e=>hG6.n1.1 (by rw[e];rfl)) (hG6.n2 g1 rfl).2;have q2:=ha8 g2 (hll g2 rfl).2 (fun e=>hG6.n1.2.1 (by rw[e];rfl)) (hG6.n3 g2 rfl);refine⟨hb8,aG hG6.gen hm8 (fun x hx=> ?_),aG hG6.live hm8 (fun x hx=> ?_),wZ hr8 (by rw[lp]) (by rw[lp];omega),⟨hG6.n1.1,hG6.n1.2.1,by simp[Value.ownBlock];exact hn5⟩,fun x hx=>⟨(hG6.n2 x hx).1,?_⟩,fun x hx=> ?_⟩
     ·simp[Value.ownBlock]at hx;subst hx;exact q1.1
     ·simp[Value.ownBlock]at hx;subst hx;exact q2.1
     ·simp[Value.ownBlock]at hx⊢;subst hx;exact q1.2
     ·simp[Value.ownBlock]at hx⊢;subst hx;exact q2.2
    have hR8:nu w b f n (k+1) (.slice (some ⟨g1,0,none⟩) n n) (.slice (some ⟨g2,0,none⟩) n n) (w7.setCell ⟨b,3,none⟩ (.slice (some ⟨g5,0,none⟩) (k+1) cap5)):=by
     refine⟨_,hmH.out.then hm8 (fun x hx=>.inr (hfo6 x ?_)),hA8,hr8,fun x hx=> ?_⟩
     ·rcases List.mem_cons.1 hx with rfl|hx
      ·simp[cU]
      ·simp at hx;simp[cU,hx]
     ·simp only[cU,List.mem_cons,List.mem_append,Option.mem_toList]at hx;rcases hx with rfl|hx|hx|hx
      ·exact hfo6 x (by simp[cU])
      ·exact hfo6 x (by simp[cU,hx])
      ·exact hfo6 x (by simp[cU,hx])
      ·have hx':g5=x:=by simpa[Value.ownBlock]using hx
       subst hx';rcases hg5 with h|h
       ·exact hfo6 g5 (by simp[cU,h])
       ·exact Nat.le_trans hmH.out.size h
    clear hcb hfb hcba hm7 hb7 hcb7 hfb7 hm8 hb8 hr8 hA8 ha8;generalize w7.setCell ⟨b,3,none⟩ (.slice (some ⟨g5,0,none⟩) (k+1) cap5)=w9 at*;go_roundw
    case rel=>exact⟨k+1,by omega,by go_num,hR8⟩
    case measure=>simp[intOf];omega
   ·obtain rfl:k=n:=by omega
    go_wp2_with fail;go_ret2;exact⟨b,_,_,fv,rfl,hm6,hG6,hfo6⟩
 case B=>
  simp only[Nat.reduceSub,List.eraseIdx_cons_succ,List.eraseIdx_cons_zero];refine cP (fun v=>∃g,v=.slice (some ⟨g,0,none⟩) n n) (fun v w'=>Mod [] w w'∧w'.ownsRow 0 4 1 v n (nq (fresh n))∧∀y,v.ownBlock=some y→w.heap.size≤y) rfl rfl ⟨_,0,rfl⟩ (fun w' hw=> ?_) (fun v w' h=>ah.of h.1) (fun v hv=> ?_)
  ·obtain⟨w2,h1,h2,h3⟩:=hM2.out w';refine⟨_,w2,mW rfl rfl rfl h1,⟨_,rfl⟩,hw.ag h3,by rw[uW];exact aE h2 (Nat.zero_le _),fun y hy=>Nat.le_trans hw.size (h2.lt y hy).1⟩
  simp only[Act.put,sA,sB,sC];obtain⟨g2,rfl⟩:=hv;refine cP (fun v=>∃g,v=.slice (some ⟨g,0,none⟩) n n) (fun v w'=>zr w v (.slice (some ⟨g2,0,none⟩) n n) n w') rfl rfl ⟨_,0,rfl⟩ (fun w' hw=> ?_) (fun v w' h=>ah.of h.1) (fun v hv=> ?_)
  ·obtain⟨k1,k2,k3⟩:=hw;obtain⟨w2,h1,h2,h3⟩:=hM1.out w';have hlt:=k2.lt;refine⟨_,w2,mW rfl rfl rfl h1,⟨_,rfl⟩,k1.ag h3,by rw[vp];exact aE h2 (Nat.zero_le _),aG k2 h3 (by simp),fun y hy=>Nat.le_trans k1.size (h2.lt y hy).1,k3,fun y hy e=>by have:=(h2.lt y hy).1;have:=(hlt y e).2;omega⟩
  simp only[Act.put,sA,sB,sC];obtain⟨g1,rfl⟩:=hv;refine sq 1 ?_;refine aO (fun b=>.pointer (some ⟨b,0,none⟩)) (.cells #[.int .i64 f,.slice (some ⟨g1,0,none⟩) n n,.slice (some ⟨g2,0,none⟩) n n,.slice none 0 0,.int .i64 0] 283 (0,0)) (fun b w'=>nu w b f n 0 (.slice (some ⟨g1,0,none⟩) n n) (.slice (some ⟨g2,0,none⟩) n n) w') (by intro s s' h;simpa using h) rfl rfl (fun w' hw=> ?_) (fun w' hw=> ?_) (fun s w' h=>ah.of h.choose_spec.1) (fun b=> ?_)
  ·kernel_rfl
  ·obtain⟨h1,h2,h3,h4,h5,h6⟩:=hw;have ha:=(Mod.refl [] w').alloc (.cells #[.int .i64 f,.slice (some ⟨g1,0,none⟩) n n,.slice (some ⟨g2,0,none⟩) n n,.slice none 0 0,.int .i64 0] 283 (0,0));have hg:=h2.lt;have hl:=h3.lt;refine⟨_,h1.alloc _,⟨an _ _,by rw[iC];exact aG h2 ha (by simp),by rw[iC];exact aG h3 ha (by simp),.inl ⟨rfl,rfl⟩,⟨fun e=>by have:=(hg _ e).2;omega,fun e=>by have:=(hl _ e).2;omega,by simp[Value.ownBlock]⟩,fun x hx=>⟨h6 x hx,by simp[Value.ownBlock]⟩,by simp[Value.ownBlock]⟩,World.ownsRow_nil _ _ _ _,fun x hx=> ?_⟩;simp only[cU,List.mem_cons,List.mem_append,Option.mem_toList]at hx;rcases hx with rfl|hx|hx|hx
   ·exact h1.size
   ·exact h4 x hx
   ·exact h5 x hx
   ·simp[Value.ownBlock]at hx
  refine sq 1 ?_;refine au ?_;intro w5 hG;clear hM1 hM2;obtain⟨i0,hi0,hz0,hz1,hz2⟩:=info_parts mh;go_wp2_with fail;go_loopw [7] (fun i wr=>∃k:Nat,k≤n∧i=.int .i64 k∧nu w b f n k (.slice (some ⟨g1,0,none⟩) n n) (.slice (some ⟨g2,0,none⟩) n n) wr) (fun i _=>n-(intOf i).toNat)
  case atStart=>exact⟨0,by omega,rfl,hG⟩
  case round=>
   obtain⟨k,hk,rfl,fv,hm6,hG6,hrow6,hfo6⟩:=hrel;clear hG;by_cases hlt:k<n
   ·have hcb:=ae hG6.aQ;have hfb:=ay hG6.aQ;have hG6a:=hG6.mod ((Mod.refl [] wr).alloc (.cells #[.int .i64 k] 3 (0,0))) (by simp);have hcba:=ae hG6a.aQ;have hG6H:=zh hG6;have hfoH:=zh hfo6;have hmH:=zh hm6;have hrowH:=zh hrow6;clear hG6 hG6a hfo6 hm6 hrow6;go_wp2_with (at_builtin;refine dO _ rfl _ _ 28 rfl 3 i0 (.int .i64 0) 1 8 Tryz.underlying28 hi0 hz0 hz1 hz2 rfl (by decide) fv k _ rfl (hrowH.out.alloc _) ⟨wr.heap.size,0,none⟩ 1 1 [.int .i64 k] rfl rfl (ny _ _ _) (by simp[Value.oneCell']) (by unfold maxLen;first|omega|(simp;done)|(simp;omega)) (by first|omega|(simp;done)|(simp;omega)) ?_;intro fv2 w7 hown hgrow hfr;obtain⟨g5,cap5,rfl,_,_⟩:=cW hown (by omega);have hm7:=((Mod.refl fv.ownBlock.toList wr).alloc (.cells #[.int .i64 k] 3 (0,0))).grown hgrow (by intro k hk;left;simp[hk]);have hb7:=hm7.at hG6H.out.aQ (by simpa using hG6H.out.n1.2.2);have hcb7:=ae hb7;have hfb7:=ay hb7);have hG6:=hG6H.out;have hfo6:=hfoH.out;have hm8:=(hm7.mono (T:=b::fv.ownBlock.toList) (by intro x hx;simp at hx;simp[hx])).setCell (p:=⟨b,3,none⟩) (.inl (by simp)) (.slice (some ⟨g5,0,none⟩) (k+1) cap5);have hb8:=aq (o:=3) (v:=.slice (some ⟨g5,0,none⟩) (k+1) cap5) hb7;have hg5:fv.ownBlock=some g5∨wr.heap.size≤g5:=by
     rcases hfr g5 rfl with h|h
     ·exact .inl h
     ·simp at h;omega
    have hbl:=aL hG6.aQ;have hn5:g5≠b:=fun e=>by
     rcases hg5 with h|h
     ·exact hG6.n1.2.2 (by rw[h,e])
     ·omega
    have hr8:=aG hown ((Mod.refl [b] w7).setCell (p:=⟨b,3,none⟩) (.inl (by simp)) (.slice (some ⟨g5,0,none⟩) (k+1) cap5)) (fun x hx=>by simp[Value.ownBlock]at hx;simp;omega);have e8:((cV k).map (Value.int .i64)++[Value.int .i64 k])=(cV (k+1)).map (.int .i64):=by rw[n5,List.map_append];rfl
    rw[e8]at hr8;have ha8:∀x,x<wr.heap.size→x≠b→fv.ownBlock≠some x→x∉b::fv.ownBlock.toList∧g5≠x:=fun x h1 h2 h3=>⟨by simp[h2];exact h3,fun e=>by
     rcases hg5 with h|h
     ·exact h3 (by rw[h,e])
     ·omega⟩
    have hgl:=kO hG6.gen;have hll:=kO hG6.live;have hA8:fC (w7.setCell ⟨b,3,none⟩ (.slice (some ⟨g5,0,none⟩) (k+1) cap5)) b f (fresh n) (cV (k+1)) 0 (.slice (some ⟨g1,0,none⟩) n n) (.slice (some ⟨g2,0,none⟩) n n) (.slice (some ⟨g5,0,none⟩) (k+1) cap5):=by
     have q1:=ha8 g1 (hgl g1 rfl).2 (fun e=>hG6.n1.1 (by rw[e];rfl)) (hG6.n2 g1 rfl).2;have q2:=ha8 g2 (hll g2 rfl).2 (fun e=>hG6.n1.2.1 (by rw[e];rfl)) (hG6.n3 g2 rfl);refine⟨hb8,aG hG6.gen hm8 (fun x hx=> ?_),aG hG6.live hm8 (fun x hx=> ?_),wZ hr8 (by rw[lp]) (by rw[lp];omega),⟨hG6.n1.1,hG6.n1.2.1,by simp[Value.ownBlock];exact hn5⟩,fun x hx=>⟨(hG6.n2 x hx).1,?_⟩,fun x hx=> ?_⟩
     ·simp[Value.ownBlock]at hx;subst hx;exact q1.1
     ·simp[Value.ownBlock]at hx;subst hx;exact q2.1
     ·simp[Value.ownBlock]at hx⊢;subst hx;exact q1.2
     ·simp[Value.ownBlock]at hx⊢;subst hx;exact q2.2
    have hR8:nu w b f n (k+1) (.slice (some ⟨g1,0,none⟩) n n) (.slice (some ⟨g2,0,none⟩) n n) (w7.setCell ⟨b,3,none⟩ (.slice (some ⟨g5,0,none⟩) (k+1) cap5)):=by
     refine⟨_,hmH.out.then hm8 (fun x hx=>.inr (hfo6 x ?_)),hA8,hr8,fun x hx=> ?_⟩
     ·rcases List.mem_cons.1 hx with rfl|hx
      ·simp[cU]
      ·simp at hx;simp[cU,hx]
     ·simp only[cU,List.mem_cons,List.mem_append,Option.mem_toList]at hx;rcases hx with rfl|hx|hx|hx
      ·exact hfo6 x (by simp[cU])
      ·exact hfo6 x (by simp[cU,hx])
      ·exact hfo6 x (by simp[cU,hx])
      ·have hx':g5=x:=by simpa[Value.ownBlock]using hx
       subst hx';rcases hg5 with h|h
       ·exact hfo6 g5 (by simp[cU,h])
       ·exact Nat.le_trans hmH.out.size h
    clear hcb hfb hcba hm7 hb7 hcb7 hfb7 hm8 hb8 hr8 hA8 ha8;generalize w7.setCell ⟨b,3,none⟩ (.slice (some ⟨g5,0,none⟩) (k+1) cap5)=w9 at*;go_roundw
    case rel=>exact⟨k+1,by omega,by go_num,hR8⟩
    case measure=>simp[intOf];omega
   ·obtain rfl:k=n:=by omega
    go_wp2_with fail;go_ret2;exact⟨b,_,_,fv,rfl,hm6,hG6,hfo6⟩
end Go.Proofs.YtdehaommhbjakaaGreat.Tb
namespace Go
namespace Stg
structure ai where
 on:World→List Nat→Prop
 bj:∀ {w w':World} {f T:List Nat},on w f→Mod T w w'→(∀x∈f,x∉T)→on w' f
 lt:∀ {w:World} {f:List Nat},on w f→∀x∈f,x<w.heap.size
def aU:List ai→World→List Nat→Prop
 | [],_,fp=>fp=[]
 |c::cs,w,fp=>∃f g,c.on w f∧aU cs w g∧(∀x∈f,x∉g)∧fp=f++g
theorem aU.bj:∀ {cs:List ai} {w w':World} {fp T:List Nat},aU cs w fp→Mod T w w'→(∀x∈fp,x∉T)→aU cs w' fp
 | [],_,_,_,_,h,_,_=>h
 |_::_,_,_,_,_,⟨f,g,h1,h2,h3,e⟩,hm,hT=>by
  subst e;exact⟨f,g,ai.bj _ h1 hm fun x hx=>hT x (List.mem_append_left _ hx),aU.bj h2 hm fun x hx=>hT x (List.mem_append_right _ hx),h3,rfl⟩
theorem aU.lt:∀ {cs:List ai} {w:World} {fp:List Nat},aU cs w fp→∀x∈fp,x<w.heap.size
 | [],_,_,h=>by subst h;simp
 |_::_,_,_,⟨f,g,h1,h2,_,e⟩=>by
  subst e;intro x hx;rcases List.mem_append.1 hx with hx|hx
  ·exact ai.lt _ h1 x hx
  ·exact h2.lt x hx
def ai.all (cs:List ai):ai:=⟨aU cs,aU.bj,aU.lt⟩
theorem aU.part:∀ {cs:List ai} {w:World} {fp:List Nat} (i:Nat) {c:ai},aU cs w fp→cs[i]? =some c→
  ∃f,c.on w f∧(∀x∈f,x∈fp)∧∀w' f' c',ai.on c' w' f'→Mod f w w'→(∀x∈f',x∈f∨w.heap.size≤x)→∃fp',aU (cs.set i c') w' fp'∧∀x∈fp',x∈fp∨w.heap.size≤x
 | [],_,_,_,_,_,hi=>by simp at hi
 |c0::cs,w,fp,0,c,⟨f,g,h1,h2,h3,e⟩,hi=>by
  obtain rfl:c0=c:=by simpa using hi
  subst e;refine⟨f,h1,fun x hx=>List.mem_append_left _ hx,fun w' f' c' k1 k2 k3=>⟨f'++g,⟨f',g,k1,h2.bj k2 fun x hx hxf=>h3 x hxf hx,fun x hx hxg=> ?_,rfl⟩,fun x hx=> ?_⟩⟩
  ·rcases k3 x hx with h|h
   ·exact h3 x h hxg
   ·have:=h2.lt x hxg;omega
  ·rcases List.mem_append.1 hx with hx|hx
   ·exact(k3 x hx).imp (List.mem_append_left _) id
   ·exact .inl (List.mem_append_right _ hx)
 |c0::cs,w,fp,i+1,c,⟨f0,g,h1,h2,h3,e⟩,hi=>by
  subst e;obtain⟨f,k1,k2,k3⟩:=aU.part i h2 (by simpa using hi);refine⟨f,k1,fun x hx=>List.mem_append_right _ (k2 x hx),fun w' f' c' m1 m2 m3=> ?_⟩;obtain⟨g',n1,n2⟩:=k3 w' f' c' m1 m2 m3;refine⟨f0++g',⟨f0,g',ai.bj _ h1 m2 fun x hx hxf=>h3 x hx (k2 x hxf),n1,fun x hx hxg=> ?_,rfl⟩,fun x hx=> ?_⟩
  ·rcases n2 x hxg with h|h
   ·exact h3 x hx h
   ·have:=ai.lt _ h1 x hx;omega
  ·rcases List.mem_append.1 hx with hx|hx
   ·exact .inl (List.mem_append_left _ hx)
   ·exact(n2 x hx).imp (List.mem_append_right _) id
theorem aU.erase:∀ {cs:List ai} {w:World} {fp:List Nat} (i:Nat),aU cs w fp→∃fp',aU (cs.eraseIdx i) w fp'∧∀x∈fp',x∈fp
 | [],_,_,_,h=>⟨[],rfl,by simp⟩
 |_::_,_,_,0,⟨f,g,h1,h2,h3,e⟩=>⟨g,h2,fun x hx=>by subst e;exact List.mem_append_right _ hx⟩
 |_::_,_,_,i+1,⟨f,g,h1,h2,h3,e⟩=>by
  subst e;obtain⟨g',k1,k2⟩:=aU.erase i h2;exact⟨f++g',⟨f,g',h1,k1,fun x hx hxg=>h3 x hx (k2 x hxg),rfl⟩,fun x hx=>by
   rcases List.mem_append.1 hx with hx|hx
   ·exact List.mem_append_left _ hx
   ·exact List.mem_append_right _ (k2 x hx)⟩
def af (F:List Nat) (W:World) (cs:List ai) (w:World):Prop:=
 Mod F W w∧∃fp,aU cs w fp∧∀x∈fp,x∈F∨W.heap.size≤x
section
variable {F:List Nat} {W w w':World} {cs:List ai}
theorem af.mod (h:af F W cs w):Mod F W w:=h.1
theorem af.start {fp:List Nat} (h:aU cs w fp):af fp w cs w:=⟨Mod.refl _ _,fp,h,fun _ hx=>.inl hx⟩
theorem af.empty (W:World):af [] W [] W:=⟨Mod.refl _ _,[],rfl,by simp⟩
theorem af.done (h:af F W cs w):∃f',aU cs w f'∧Mod F W w∧∀x∈f',x∈F∨W.heap.size≤x:=let ⟨h1,f,h2,h3⟩:=h;⟨f,h2,h1,h3⟩
theorem af.part (i:Nat) {c:ai} (h:af F W cs w) (hi:cs[i]? =some c):
  ∃f,c.on w f∧∀w' f' c',ai.on c' w' f'→Mod f w w'→(∀x∈f',x∈f∨w.heap.size≤x)→af F W (cs.set i c') w':=by
 obtain⟨hm,fp,hh,hf⟩:=h;obtain⟨f,h1,h2,h3⟩:=aU.part i hh hi;refine⟨f,h1,fun w' f' c' k1 k2 k3=> ?_⟩;obtain⟨fp',n1,n2⟩:=h3 w' f' c' k1 k2 k3;refine⟨hm.then k2 fun x hx=>hf x (h2 x hx),fp',n1,fun x hx=> ?_⟩;rcases n2 x hx with h|h
 ·exact hf x h
 ·exact .inr (Nat.le_trans hm.size h)
theorem af.then (h:af F W cs w) (hm:Mod [] w w'):af F W cs w':=
 let ⟨h1,fp,h2,h3⟩:=h;⟨h1.ag hm,fp,h2.bj hm (by simp),h3⟩
theorem af.add {c:ai} {f:List Nat} (h:af F W cs w) (hm:Mod [] w w') (hc:c.on w' f) (hf:∀x∈f,w.heap.size≤x):af F W (c::cs) w':=by
 obtain⟨h1,fp,h2,h3⟩:=h;refine⟨h1.ag hm,f++fp,⟨f,fp,hc,h2.bj hm (by simp),fun x hx hxp=> ?_,rfl⟩,fun x hx=> ?_⟩
 ·have:=hf x hx;have:=h2.lt x hxp;omega
 ·rcases List.mem_append.1 hx with hx|hx
  ·exact .inr (Nat.le_trans h1.size (hf x hx))
  ·exact h3 x hx
theorem af.erase (i:Nat) (h:af F W cs w):af F W (cs.eraseIdx i) w:=by
 obtain⟨h1,fp,h2,h3⟩:=h;obtain⟨fp',k1,k2⟩:=h2.erase i;exact⟨h1,fp',k1,fun x hx=>h3 x (k2 x hx)⟩
theorem af.swap {a b:ai} (h:af F W (a::b::cs) w):af F W (b::a::cs) w:=by
 obtain⟨h1,fp,⟨f,_,ha,⟨g,k,hb,hc,hgk,rfl⟩,hfg,rfl⟩,h3⟩:=h;refine⟨h1,g++(f++k),⟨g,f++k,hb,⟨f,k,ha,hc,fun x hx hxk=>hfg x hx (List.mem_append_right _ hxk),rfl⟩,fun x hx hxf=> ?_,rfl⟩,fun x hx=>h3 x ?_⟩
 ·rcases List.mem_append.1 hxf with h|h
  ·exact hfg x h (List.mem_append_left _ hx)
  ·exact hgk x hx h
 ·simp only[List.mem_append]at hx⊢;rcases hx with h|h|h
  ·exact .inr (.inl h)
  ·exact .inl h
  ·exact .inr (.inr h)
end
def bD (c':ai) (v:Value) (w:World) (f:List Nat) (e:Ending) (w':World):Prop:=
 ∃f',e=.returned v∧c'.on w' f'∧Mod f w w'∧∀x∈f',x∈f∨w.heap.size≤x
section
variable {P:Program} {fn:FuncId} {args:Array Value} {F:List Nat} {W w:World} {cs:List ai}
theorem af.call (i:Nat) {c c':ai} {v:Value} (h:af F W cs w) (hi:cs[i]? =some c) (hc:∀f,c.on w f→Calls P fn args w (bD c' v w f)):
  Calls P fn args w fun e w'=>e=.returned v∧af F W (cs.set i c') w':=by
 obtain⟨f,h1,h2⟩:=h.part i hi;refine(hc f h1).mono ?_;rintro e w' ⟨f',he,k1,k2,k3⟩;exact⟨he,h2 w' f' c' k1 k2 k3⟩
theorem af.look (i:Nat) {c:ai} {Q:Ending→World→Prop} (h:af F W cs w) (hi:cs[i]? =some c) (hc:∀f,c.on w f→Calls P fn args w fun e w'=>Q e w'∧Mod [] w w'):
  Calls P fn args w fun e w'=>Q e w'∧af F W cs w':=by
 obtain⟨f,h1,h2⟩:=h.part i hi;exact(hc f h1).mono fun e w' ⟨k1,k2⟩=>⟨k1,h.then k2⟩
end
def aj (b:Nat) (o:Obj):ai:=
 ⟨fun w f=>w.heap[b]? =some o∧f=[b],fun h hm hT=>⟨hm.at h.1 (hT b (by rw[h.2];simp)),h.2⟩,fun h x hx=>by rw[h.2,List.mem_singleton]at hx;subst hx;exact aL h.1⟩
theorem af.alloc {F:List Nat} {W w:World} {cs:List ai} (h:af F W cs w) (o:Obj):af F W (aj w.heap.size o::cs) (w.alloc o):=
 h.add (c:=aj w.heap.size o) ((Mod.refl [] w).alloc o) ⟨an w o,rfl⟩ (by simp)
theorem af.block {F:List Nat} {W w:World} {cs:List ai} (i:Nat) {b:Nat} {o:Obj} (h:af F W cs w) (hi:cs[i]? =some (aj b o)):w.heap[b]? =some o:=
 let ⟨_,h1,_⟩:=h.part i hi;h1.1
def BW (b:Nat) (o:Obj):Type:={w:World//w.heap[b]? =some o}
instance BW.inst (b:Nat) (o:Obj):Nonempty (BW b o):=⟨⟨{(default:World)with heap:=Array.replicate (b+1) o},by simp⟩⟩
theorem BW.of {b:Nat} {o:Obj} {w:World} (h:w.heap[b]? =some o):∃x:BW b o,w=x.1:=⟨⟨w,h⟩,rfl⟩
theorem BW.cells {b:Nat} {cs:Array Value} {T:TypeId} {fr:Nat×Nat}:∀(x:BW b (.cells cs T fr)) o,x.1.cell? ⟨b,o,none⟩=cs[o]? :=fun x=>ae x.2
theorem af.drew {F:List Nat} {W w:World} {cs:List ai} (h:af F W cs w):af F W cs w.drew:=h.then (Mod.refl [] w).drew
theorem zN {P:Program} {id:Nat} {Q:Exit→Act→World→Prop} {a:Act} {F:List Nat} {W w:World} {cs:List ai} {l:List Oper} (b:Nat) (o:Obj) (h:af F W cs w) (hb:∀w',af F W cs w'→w'.heap[b]? =some o) (hm:P.follows .mixedOrders=true) (hB:oR .any l.toArray=true)
  (h':aH P l.toArray (fun w'=>∃x:BW b o,w'=x.1) (LetsOut Q) (fun a' w'=>Q .normal a' w') l (fun w'=>af F W cs w') a):(Code.region id l.toArray true).wp P Q a w:=
 bY (fun w'=>∃x:BW b o,w'=x.1) (fun w'=>af F W cs w') hm hB (fun w' h=>BW.of (hb w' h)) h.drew h'
end Stg
end Go
namespace Go.Proofs.YtdehaommhbjakaaGreat.Tb
open RowKit Stg
def lT (b pb:Nat) (sl:Value) (first:Int) (x:GS):ai:=
 ⟨fun w f=>∃psv,ej w b first x.S x.F x.ret sl psv pb∧f=bQ b pb sl psv,fun⟨psv,h,e⟩ hm hT=>⟨psv,h.mod hm (e▸hT),e⟩,fun⟨_,h,e⟩ x hx=>h.tp x (e▸hx)⟩
def qH (b:Nat) (gv lv:Value) (first:Int) (x:GS):ai:=
 ⟨fun w f=>∃fv,fC w b first x.S x.F x.ret gv lv fv∧f=cU b gv lv fv,fun⟨fv,h,e⟩ hm hT=>⟨fv,h.mod hm (e▸hT),e⟩,fun⟨_,h,e⟩ x hx=>h.tp x (e▸hx)⟩
theorem A9 {w:World} {b:Nat} {gv lv fv fv':Value} (hf:∀y,fv'.ownBlock=some y→fv.ownBlock=some y∨w.heap.size≤y):∀y∈cU b gv lv fv',y∈cU b gv lv fv∨w.heap.size≤y:=fun y hy=>by
 simp only[cU,List.mem_cons,List.mem_append,Option.mem_toList]at hy⊢;rcases hy with rfl|hy|hy|hy
 ·simp
 ·simp[hy]
 ·simp[hy]
 ·rcases hf y hy with h|h
  ·exact .inl (.inr (.inr (.inr h)))
  ·exact .inr h
theorem iH.qK {w:World} {b pb:Nat} {sl psv v:Value} {first:Int} {x:GS} {e:Ending} {w':World} (h:iH v b first x.S x.F x.ret sl psv pb w e w'):bD (lT b pb sl first x) v w (bQ b pb sl psv) e w':=
 let ⟨psv',he,hm,hg,hs⟩:=h;⟨_,he,⟨psv',hg,rfl⟩,hm,Cc hs⟩
theorem qL.qK {w:World} {b:Nat} {gv lv fv v:Value} {first:Int} {x:GS} {e:Ending} {w':World} (h:qL v b first x.S x.F x.ret gv lv fv w e w'):bD (qH b gv lv first x) v w (cU b gv lv fv) e w':=
 let ⟨fv',he,hm,hg,hs⟩:=h;⟨_,he,⟨fv',hg,rfl⟩,hm,A9 hs⟩
section
variable {F:List Nat} {W w:World} {cs:List ai} {n:Nat} {first:Int} {x:GS} (hI:jw n first x) (i:Nat)
section
variable {b pb:Nat} {sl:Value} (h:af F W cs w) (hi:cs[i]? =some (lT b pb sl first x))
include hI h hi
theorem Em (hf1:1≤first) (hf2:first≤4294967295) (d:Int) (hd:0≤d) (hd2:d≤18446744073709551615):Calls Tryz.prog 156 #[.pointer (some ⟨b,0,none⟩),.int .u64 d] w fun e w'=>e=.returned (o6 first x d)∧af F W (cs.set i (lT b pb sl first (jV first x d))) w':=
 h.call i hi fun f ⟨psv,hg,e⟩=>by subst e;exact(EY hg hI hf1 hf2 d hd hd2).mono fun _ _ hp=>iH.qK hp
theorem Gz (hn:n≤4096) (k:Int):Calls Tryz.prog 182 #[.pointer (some ⟨b,0,none⟩),.int .i64 k] w fun e w'=>e=.returned (.int .i64 (pc x k))∧af F W (cs.set i (lT b pb sl first (jd x k))) w':=
 h.call i hi fun f ⟨psv,hg,e⟩=>by subst e;exact(DK hg hI hn k).mono fun _ _ hp=>iH.qK hp
end
end
theorem y9 {F:List Nat} {W w:World} {cs:List ai} (i:Nat) {b pb:Nat} {sl:Value} {first:Int} {x:GS} (h:af F W cs w) (hi:cs[i]? =some (lT b pb sl first x)):∃psv,ej w b first x.S x.F x.ret sl psv pb:=
 let ⟨_,⟨psv,h1,_⟩,_⟩:=h.part i hi;⟨psv,h1⟩
end Go.Proofs.YtdehaommhbjakaaGreat.Tb
namespace Go.Proofs.YtdehaommhbjakaaGreat.Tb
open RowKit Stg
def aJ (h:Int):Int:=h%16777216
def kr (h:Int):Int:=h/16777216%4294967296
def lf (h:Int):Int:=h/72057594037927936
def eI (s g t:Int):Int:=t*72057594037927936+g*16777216+s
theorem pS (n:Int) (h₀:0≤n) (h₁:n<2^64):IntKind.u64.wrap n=n:=by rw[IntKind.wrap_u64];omega
theorem xd (i:Nat) (hi:i≤64) (x:Int) (h0:0≤x) (h1:x≤18446744073709551615):bits .and .u64 x (2^i-1)=x%2^i:=bits_mask .u64 64 (by decide) pS i hi x h0 (by omega)
theorem fL (i:Nat) (x y:Int) (hx0:0≤x) (hx:x%2^i=0) (hx1:x≤18446744073709551615) (hy0:0≤y) (hy:y<2^i) (hy1:y≤18446744073709551615):bits .or .u64 y x=y+x:=by
 have h:=bits_join .u64 64 (by decide) pS i x y hx0 hx (by omega) hy0 hy (by omega);obtain⟨a,rfl⟩:=Int.eq_ofNat_of_zero_le hx0;obtain⟨b,rfl⟩:=Int.eq_ofNat_of_zero_le hy0;rw[(bits_nat .u64 64 (by decide) pS b a (by omega) (by omega)).2,Nat.or_comm, ←(bits_nat .u64 64 (by decide) pS a b (by omega) (by omega)).2,h];omega
section
variable (h:Int) (h0:0≤h) (h1:h≤18446744073709551615) (w:World)
include h0 h1
theorem nj:Calls Tryz.prog 85 #[.int .u64 h] w fun e w'=>e=.returned (.int .i64 (aJ h))∧Mod [] w w':=by
 have e:=xd 24 (by omega) h h0 h1;simp only[Int.reducePow,Int.reduceSub]at e;unfold aJ;go_enter Tryz.func85,Tryz.ntmps85;go_wp2_with fail;go_ret;exact⟨rfl,Mod.refl _ _⟩
theorem GY:Calls Tryz.prog 139 #[.int .u64 h] w fun e w'=>e=.returned (.int .i64 (kr h))∧Mod [] w w':=by
 have e:=xd 32 (by omega) (h/16777216) (by omega) (by omega);simp only[Int.reducePow,Int.reduceSub]at e;unfold kr;go_enter Tryz.func139,Tryz.ntmps139;go_wp2_with fail;go_ret;exact⟨rfl,Mod.refl _ _⟩
theorem GA:Calls Tryz.prog 140 #[.int .u64 h] w fun e w'=>e=.returned (.int .i64 (lf h))∧Mod [] w w':=by
 go_enter Tryz.func140,Tryz.ntmps140;go_wp2_with fail;go_ret;exact⟨rfl,Mod.refl _ _⟩
end
section
variable (s g t:Int) (hs:0≤s∧s≤16777215) (hg:1≤g∧g≤4294967295) (ht:1≤t∧t≤255) (w:World)
include hs hg ht
theorem Ek:Calls Tryz.prog 180 #[.int .i64 s,.int .i64 g,.int .i64 t] w fun e w'=>e=.returned (.int .u64 (eI s g t))∧Mod [] w w':=by
 obtain⟨s0,s1⟩:=hs;obtain⟨g0,g1⟩:=hg;obtain⟨t0,t1⟩:=ht;have e1:=fL 24 (g*16777216) s (by omega) (by omega) (by omega) (by omega) (by omega) (by omega);have e2:=fL 56 (t*72057594037927936) (s+g*16777216) (by omega) (by omega) (by omega) (by omega) (by omega) (by omega);have e3:eI s g t=s+g*16777216+t*72057594037927936:=by unfold eI;omega
 rw[e3];clear e3;go_enter Tryz.func180,Tryz.ntmps180;go_wp2_with fail;go_ret;exact⟨rfl,Mod.refl _ _⟩
theorem F5:Calls Tryz.prog 157 #[.int .i64 s,.int .i64 g,.int .i64 t] w fun e w'=>e=.returned (.tuple #[.int .u64 (eI s g t),.int .i64 0])∧Mod [] w w':=by
 have hP:=zh (Ek s g t hs hg ht w);obtain⟨s0,s1⟩:=hs;obtain⟨g0,g1⟩:=hg;obtain⟨t0,t1⟩:=ht;go_enter Tryz.func157,Tryz.ntmps157;go_wp2_with fail;refine hP.out.mono ?_;rintro e w1 ⟨rfl,hm⟩;go_wp2_with fail;go_ret2;exact⟨rfl,hm⟩
end
end Go.Proofs.YtdehaommhbjakaaGreat.Tb
