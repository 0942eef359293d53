/- Joined contracts. No conditions. -/
import Derived.Laws.OwnMore
import Derived.Test.YtgfdeiijblakfaaGreatCS
import Derived.Test.YtgfdeiijblakfaaGreatC04
set_option maxHeartbeats 4000000
namespace Go.Proofs.YtgfdeiijblakfaaGreat.Tb
open Go Go.RowKit Go.Stg
section
variable {P:Program} {ops:Array Oper} {I:World→Prop} {Out:Prop} {Q:Act→World→Prop}
theorem eff_call_any (f:FuncId) (args:Array Value) (V:Value→Prop) (C':Value→World→Prop) {o:Oper} {C:World→Prop} {a:Act} {asz:Array Operand} {ts:Array TypeId} {K:(World→Prop)→Act→Prop} {I':Value→World→Prop}
  (hop:o.op=.call ⟨.value (.func f),asz,ts⟩) (hcall:∀(args:Array Value) w,(callFunc f args).run P w=.ok (.enter f args) w)
  (hargs:(asz.toList.map a.eval).toArray=args) (hV:∃v,V v)
  (hc:∀w,C w→Calls P f args w fun e w'=>∃v,e=.returned v∧V v∧C' v w') (hI:∀v w,C' v w→I' v w)
  (h:∀v,V v→K (C' v) (a.put o.dst v)):∃(V:Value→Prop) (R:Value→World→Prop),(∃v,V v)∧(∀w,C w→gives P o a w Out R)∧(∀v w,R v w→V v∧I' v w)∧∀v,V v→K (R v) (a.put o.dst v):=by
 refine⟨V,fun u w=>V u∧C' u w,hV,fun w hC=> ?_,fun u w h1=>⟨h1.1,hI u w h1.2⟩,fun u hu=> ?_⟩
 ·unfold gives;rw[run_go hop rfl hcall w,hargs];exact(hc w hC).mono fun e w' ⟨v,h1,h2,h3⟩=>by subst h1;exact⟨h2,h3⟩
 ·have e:(fun w=>V u∧C' u w)=C' u:=by
   funext w;simp[hu]
  have h':=h u hu;rw[←e]at h';exact h'
theorem stage_call_any (f:FuncId) (args:Array Value) (V:Value→Prop) (C':Value→World→Prop) {o:Oper} {rest:List Oper} {C:World→Prop} {a:Act} {asz:Array Operand} {ts:Array TypeId}
  (hop:o.op=.call ⟨.value (.func f),asz,ts⟩) (hcall:∀(args:Array Value) w,(callFunc f args).run P w=.ok (.enter f args) w)
  (hw:Region.wanted o (yielded ops a.tmps)=true) (hargs:(asz.toList.map a.eval).toArray=args) (hV:∃v,V v)
  (hc:∀w,C w→Calls P f args w fun e w'=>∃v,e=.returned v∧V v∧C' v w') (hI:∀v w,C' v w→I w)
  (h:∀v,V v→wpStage P ops I Out Q rest (C' v) (a.put o.dst v)):wpStage P ops I Out Q (o::rest) C a:=by
 unfold wpStage;have he:eff o=true:=by simp[eff,hop]
 simp only[hw,he,if_true];exact eff_call_any f args V C' hop hcall hargs hV hc (I':=fun _ w=>(rest=[]∧lastWaits ops=true)∨I w) (fun v w h=>.inr (hI v w h)) h
theorem stage_any (V:Value→Prop) (C':Value→World→Prop) {o:Oper} {rest:List Oper} {C:World→Prop} {a:Act}
  (hw:Region.wanted o (yielded ops a.tmps)=true) (he:eff o=true) (hV:∃v,V v)
  (hrun:∀w,C w→∃v w',(execOp a.eval o).run P w=.ok (.value v) w'∧V v∧C' v w') (hI:∀v w,C' v w→I w)
  (h:∀v,V v→wpStage P ops I Out Q rest (C' v) (a.put o.dst v)):wpStage P ops I Out Q (o::rest) C a:=by
 unfold wpStage;simp only[hw,he,if_true];obtain⟨V',R,h1,h2,h3,h4⟩:=eff_any (I:=I) (Out:=Out) (K:=fun C a=>wpStage P ops I Out Q rest C a) V C' hV hrun hI h;exact⟨V',R,h1,h2,fun v w hr=>⟨(h3 v w hr).1,.inr (h3 v w hr).2⟩,h4⟩
theorem stage_alloc (v:Nat→Value) (ob:Obj) (C':Nat→World→Prop) {o:Oper} {rest:List Oper} {C:World→Prop} {a:Act}
  (hv:∀s s',v s=v s'→s=s') (hw:Region.wanted o (yielded ops a.tmps)=true) (he:eff o=true)
  (hrun:∀w,C w→(execOp a.eval o).run P w=.ok (.value (v w.heap.size)) (w.alloc ob)) (hC:∀w,C w→C' w.heap.size (w.alloc ob)) (hI:∀s w,C' s w→I w)
  (h:∀s,wpStage P ops I Out Q rest (C' s) (a.put o.dst (v s))):wpStage P ops I Out Q (o::rest) C a:=by
 unfold wpStage;simp only[hw,he,if_true];obtain⟨V',R,h1,h2,h3,h4⟩:=eff_alloc (I:=I) (Out:=Out) (K:=fun C a=>wpStage P ops I Out Q rest C a) v ob C' hv hrun hC hI h;exact⟨V',R,h1,h2,fun v w hr=>⟨(h3 v w hr).1,.inr (h3 v w hr).2⟩,h4⟩
end
def upTo (k:Nat):List Int:=(List.range k).map Int.ofNat
theorem upTo_length (k:Nat):(upTo k).length=k:=by simp[upTo]
theorem upTo_succ (k:Nat):upTo (k+1)=upTo k++[(k:Int)]:=by simp[upTo,List.range_succ]
def fresh (n:Nat):List Slot:=List.replicate n (0,false)
theorem fresh_length (n:Nat):(fresh n).length=n:=by simp[fresh]
theorem fresh_cells (n:Nat):(madeCells #[.int .i64 0,.bool false] (n*2)).toList=gcells (fresh n):=by
 have hl:(gcells (fresh n)).length=n*2:=by rw[gcells_length,fresh_length]
 apply List.ext_getElem?;intro j;by_cases hj:j<n*2
 ·have hlt:j/2<(fresh n).length:=by rw[fresh_length];omega
  obtain⟨c1,c2⟩:=gcells_at (fresh n) (j/2) hlt;have hs:(fresh n)[j/2]=(0,false):=by simp[fresh]
  rw[hs]at c1 c2;rw[Array.getElem?_toList];rcases Nat.mod_two_eq_zero_or_one j with hm|hm
  ·have e:j/2*2=j:=by omega
   rw[e]at c1;rw[c1];simp[madeCells,hj,hm]
  ·have e:j/2*2+1=j:=by omega
   rw[e]at c2;rw[c2];simp[madeCells,hj,hm]
 ·have hl2:(madeCells #[.int .i64 0,.bool false] (n*2)).toList.length=n*2:=by rw[Array.length_toList,size_madeCells]
  rw[List.getElem?_eq_none (by omega),List.getElem?_eq_none (by omega)]
theorem info_slot:(Tryz.prog.info? 231).map (fun i=>(i.zero,i.size,i.bytes))=some (some (.agg #[.int .i64 0,.bool false]),2,16):=by kernel_rfl
def NewC (W:World) (sl:Value) (n pb:Nat) (w':World):Prop:=
 Mod [] W w'∧w'.ownsRow 0 231 2 sl n (gcells (fresh n))∧(∀y,sl.ownBlock=some y→W.heap.size≤y)∧W.heap.size≤pb∧sl.ownBlock≠some pb∧
  ∃psv,PoolAt 200 3 w' pb psv []∧(∀x,psv.ownBlock=some x→W.heap.size≤x)∧∀x,sl.ownBlock=some x→psv.ownBlock≠some x
theorem make_slots (n:Nat) (hn:n≤4096) (w:World):∃w',(Instr.makeSlice 151 (.int .i64 n) (.int .i64 n)).run Tryz.prog w=.ok (.slice (some ⟨w.heap.size,0,none⟩) n n) w'∧w'.ownsRow w.heap.size 231 2 (.slice (some ⟨w.heap.size,0,none⟩) n n) n (gcells (fresh n))∧Mod [] w w':=by
 obtain⟨i0,hi,hz0,hz1,hz2⟩:=info_parts info_slot;obtain⟨w',h1,h2,h3⟩:=run_makeSlice_full (P:=Tryz.prog) w w.heap.size 151 231 i0 (.agg #[.int .i64 0,.bool false]) 2 Tryz.underlying151 hi hz0 hz1 .i64 .i64 n (by omega) (by rw[hz2];omega) (by unfold maxLen;omega) (Nat.le_refl _);exact⟨w',h1,by rw[←fresh_cells];exact h2,(Mod.refl [] w).grown h3 (by simp)⟩
theorem GenAt.pooled {w w':World} {b pb:Nat} {first ret:Int} {S:List Slot} {F F':List Int} {sl psv r:Value} {e:Ending} (h:GenAt w b first S F ret sl psv pb) (hp:PoolPost 200 3 r pb psv (F'.map (.int .i64)) w e w'):
  ∃psv',e=.returned r∧Mod (pb::psv.ownBlock.toList) w w'∧GenAt w' b first S F' ret sl psv' pb∧∀x,psv'.ownBlock=some x→psv.ownBlock=some x∨w.heap.size≤x:=by
 obtain⟨psv',rfl,hm,hpl,hs⟩:=hp;have hbn:b∉pb::psv.ownBlock.toList:=fun hx=>by
  rcases List.mem_cons.1 hx with e|hx
  ·exact h.n1 e
  ·exact h.n3.1 (by simpa using hx)
 have hsn:∀x,sl.ownBlock=some x→x∉pb::psv.ownBlock.toList:=fun x hx hxm=>by
  rcases List.mem_cons.1 hxm with e|hxm
  ·exact h.n2.2 (by rw[hx,e])
  ·exact h.n3.2 x hx (by simpa using hxm)
 have hbl:=lt_of h.blk;refine⟨psv',rfl,hm,⟨hm.at h.blk hbn,row_mod h.row hm hsn,hpl,h.n1,h.n2,⟨fun e=> ?_,fun x hx e=> ?_⟩⟩,hs⟩
 ·rcases hs _ e with h'|h'
  ·exact h.n3.1 h'
  ·omega
 ·rcases hs _ e with h'|h'
  ·exact h.n3.2 x hx h'
  ·have:=(h.row.lt x hx).2;omega
theorem exec_make {P:Program} {w w':World} {o:Oper} {a:Act} {v x y:Value} {t:TypeId} {p q:Operand} (ho:o.op=.makeSlice t p q) (hx:a.eval p=x) (hy:a.eval q=y) (hr:(Instr.makeSlice t x y).run P w=.ok v w'):(execOp a.eval o).run P w=.ok (.value v) w':=by
 unfold execOp;simp[ho,hx,hy,hr]
theorem new_ok (n:Nat) (f:Int) (hn:n≤4096) (hf1:1≤f) (hf2:f≤4294967295) (w:World):
  Calls Tryz.prog 29 #[.int .i64 n,.int .i64 f] w fun e w'=>∃b pb sl psv,e=.returned (.tuple #[.pointer (some ⟨b,0,none⟩),.int .i64 0])∧Mod [] w w'∧GenAt w' b f (fresh n) (upTo n) 0 sl psv pb∧∀x∈gfoot b pb sl psv,w.heap.size≤x:=by
 have hM:=Lib.hid (make_slots n hn);have hNw:=Lib.hid fun w=>NewI_made _ [] w (by simp) (CloneI_nil w) ⟨_,_,_,rfl⟩
 go_enter Tryz.func29,Tryz.ntmps29;go_wp2_with fail;refine wp_region_float 3 _ (fun w'=>∃x:GW [] w,w'=x.1) (fun w'=>Mod [] w w') (by kernel_rfl) rfl rfl (by kernel_rfl) (by kernel_rfl) (fun _ h=>InGW.of h) (Mod.refl _ _).drew ?_;dsimp only[List.getElem_toArray,List.getElem_cons_succ,List.getElem_cons_zero];refine float_quiet 2 (by kernel_rfl) (by decide) ?_;simp only[tA,tB,tC,tD,Nat.reduceAdd];(repeat go_big_quiet_step (fail));refine wpQuiet_nil ?_;refine float_eff (by decide) rfl rfl ?A rfl (by simp) ?B
 case A=>
  refine eff_any (fun v=>∃g,v=.slice (some ⟨g,0,none⟩) n n) (fun v w'=>Mod [] w w'∧w'.ownsRow 0 231 2 v n (gcells (fresh n))∧∀y,v.ownBlock=some y→w.heap.size≤y) ⟨_,0,rfl⟩ (fun w' hw=> ?_) (fun v w' h=>InGW.of h.1) (fun v hv=> ?_)
  ·obtain⟨w2,h1,h2,h3⟩:=hM.out w';refine⟨_,w2,exec_make rfl rfl rfl h1,⟨_,rfl⟩,hw.nil_then h3,row_base h2 (Nat.zero_le _),fun y hy=>Nat.le_trans hw.size (h2.lt y hy).1⟩
  simp only[Act.put,sA,sB,sC];obtain⟨g,rfl⟩:=hv;refine float_here ?_;refine stage_call_any 64 _ (fun u=>∃pb,u=.pointer (some ⟨pb,0,none⟩)) (fun u w'=>∃pb,u=.pointer (some ⟨pb,0,none⟩)∧NewC w (.slice (some ⟨g,0,none⟩) n n) n pb w') rfl Tryz.call64 rfl rfl ⟨_,0,rfl⟩ (fun w' h=>(hNw.out w').mono fun e w'' ⟨pb,psv,he,hm,hp,hpb,hps⟩=>⟨_,he,⟨pb,rfl⟩,pb,rfl,?_⟩) (fun u w' ⟨pb,_,h⟩=>InGW.of h.1) (fun u hu=> ?_)
  ·have hlt:=h.2.1.lt;refine⟨h.1.nil_then hm,row_mod h.2.1 hm (by simp),h.2.2,Nat.le_trans h.1.size hpb,fun e=>by have:=(hlt _ e).2;omega,psv,hp,fun x hx=>Nat.le_trans h.1.size (hps x hx),fun x hx e=>by have:=(hlt x hx).2;have:=hps x e;omega⟩
  obtain⟨pb,rfl⟩:=hu;simp only[Act.put,sA,sB,sC];refine stage_quiet 1 (by kernel_rfl) ?_;simp only[tA,tB,tC,tD];(repeat go_big_quiet_step (fail));refine wpQuiet_nil ?_;refine stage_alloc (fun b=>.pointer (some ⟨b,0,none⟩)) (.cells #[.int .i64 f,.slice (some ⟨g,0,none⟩) n n,.pointer (some ⟨pb,0,none⟩),.int .i64 0] 155 (0,0)) (fun b w'=>∃psv,Mod [] w w'∧GenAt w' b f (fresh n) [] 0 (.slice (some ⟨g,0,none⟩) n n) psv pb∧∀x∈gfoot b pb (.slice (some ⟨g,0,none⟩) n n) psv,w.heap.size≤x) (by intro s s' h;simpa using h) rfl rfl (fun w' hw=> ?_) (fun w' hw=> ?_) (fun s w' ⟨psv,h,_⟩=>InGW.of h) (fun b=> ?_)
  ·kernel_rfl
  ·obtain⟨pb',e,h1,h2,h3,h4,h5,psv,h6,h7,h8⟩:=hw;have e':pb=pb':=by simpa using e
   subst e';have ha:=(Mod.refl [] w').alloc (.cells #[.int .i64 f,.slice (some ⟨g,0,none⟩) n n,.pointer (some ⟨pb,0,none⟩),.int .i64 0] 155 (0,0));have hpl:=lt_of h6.blk;have hsl:=h2.lt;have hpv:=h6.row.lt;refine⟨psv,h1.alloc _,⟨at_alloc _ _,by rw[fresh_length];exact row_mod h2 ha (by simp),h6.mod ha (by simp),by omega,⟨fun e=>by have:=(hsl _ e).2;omega,h5⟩,⟨fun e=>by have:=(hpv _ e).2;omega,h8⟩⟩,fun x hx=> ?_⟩;simp only[gfoot,List.mem_cons,List.mem_append,Option.mem_toList]at hx;rcases hx with rfl|rfl|hx|hx
   ·exact h1.size
   ·exact h4
   ·exact h3 x hx
   ·exact h7 x hx
  simp only[Act.put,sA,sB,sC];refine stage_quiet 1 (by kernel_rfl) ?_;simp only[tA,tB,tC,tD];(repeat go_big_quiet_step (fail));refine wpQuiet_nil ?_;refine stage_nil ?_;rintro w5 ⟨psv,hm5,hG,hfo⟩;clear hM hNw;go_wp2_with fail;go_loopw [29] (fun i wr=>∃k:Nat,k≤n∧i=.int .i64 k∧∃psv,Mod [] w wr∧GenAt wr b f (fresh n) (upTo k) 0 (.slice (some ⟨g,0,none⟩) n n) psv pb∧∀x∈gfoot b pb (.slice (some ⟨g,0,none⟩) n n) psv,w.heap.size≤x) (fun i _=>n-(intOf i).toNat)
  case atStart=>exact⟨0,by omega,rfl,psv,hm5,hG,hfo⟩
  case round=>
   obtain⟨k,hk,rfl,psv2,hm6,hG6,hfo6⟩:=hrel;clear hG hm5 hfo;have hcb:=cells_of hG6.blk;by_cases hlt:k<n
   ·go_wp2_with fail;refine(PutI_any k pb psv2 _ _ hG6.pool (by simp[upTo_length];omega)).mono ?_;intro e w7 hpost;have hpost2:PoolPost 200 3 (.tuple #[]) pb psv2 ((upTo (k+1)).map (.int .i64)) wr e w7:=by rw[upTo_succ,List.map_append];exact hpost
    obtain⟨psv3,rfl,hm7,hG7,hfo7⟩:=hG6.pooled hpost2;have hm8:=hm6.then hm7 (fun x hx=>.inr (hfo6 x (gfoot_pool x hx)));have hfo8:∀x∈gfoot b pb (.slice (some ⟨g,0,none⟩) n n) psv3,w.heap.size≤x:=fun x hx=>by
     simp only[gfoot,List.mem_cons,List.mem_append,Option.mem_toList]at hx;rcases hx with rfl|rfl|hx|hx
     ·exact hfo6 x (by simp[gfoot])
     ·exact hfo6 x (by simp[gfoot])
     ·exact hfo6 x (by simp[gfoot,hx])
     ·rcases hfo7 x hx with h|h
      ·exact hfo6 x (by simp[gfoot,h])
      ·exact Nat.le_trans hm6.size h
    clear hG6 hfo6 hm6 hcb hpost hpost2;go_wp2_with fail;go_roundw
    case rel=>exact⟨k+1,by omega,by go_num,psv3,hm8,hG7,hfo8⟩
    case measure=>simp[intOf];omega
   ·obtain rfl:k=n:=by omega
    go_wp2_with fail;go_ret2;exact⟨b,pb,_,psv2,rfl,hm6,hG6,hfo6⟩
 case B=>
  simp only[Nat.reduceSub,List.eraseIdx_cons_succ,List.eraseIdx_cons_zero];refine stage_call_any 64 _ (fun u=>∃pb,u=.pointer (some ⟨pb,0,none⟩)) (fun u w'=>∃pb,u=.pointer (some ⟨pb,0,none⟩)∧Mod [] w w'∧w.heap.size≤pb∧∃psv,PoolAt 200 3 w' pb psv []∧∀x,psv.ownBlock=some x→w.heap.size≤x) rfl Tryz.call64 rfl rfl ⟨_,0,rfl⟩ (fun w' h=>(hNw.out w').mono fun e w'' ⟨pb,psv,he,hm,hp,hpb,hps⟩=>⟨_,he,⟨pb,rfl⟩,pb,rfl,h.nil_then hm,Nat.le_trans h.size hpb,psv,hp,fun x hx=>Nat.le_trans h.size (hps x hx)⟩) (fun u w' ⟨pb,_,h⟩=>InGW.of h.1) (fun u hu=> ?_);obtain⟨pb,rfl⟩:=hu;simp only[Act.put,sA,sB,sC];refine stage_any (fun v=>∃g,v=.slice (some ⟨g,0,none⟩) n n) (fun v w'=>∃pb',Value.pointer (some ⟨pb,0,none⟩)=.pointer (some ⟨pb',0,none⟩)∧NewC w v n pb' w') rfl rfl ⟨_,0,rfl⟩ (fun w' hw=> ?_) (fun v w' ⟨pb,_,h⟩=>InGW.of h.1) (fun v hv=> ?_)
  ·obtain⟨pb',e,hw1,hw2,psv,hp,hps⟩:=hw;obtain⟨w2,h1,h2,h3⟩:=hM.out w';have hpl:=lt_of hp.blk;have hge:∀y,(Value.slice (some ⟨w'.heap.size,0,none⟩) n n).ownBlock=some y→w'.heap.size≤y:=fun y hy=>(h2.lt y hy).1
   refine⟨_,w2,exec_make rfl rfl rfl h1,⟨_,rfl⟩,pb',e,hw1.nil_then h3,row_base h2 (Nat.zero_le _),fun y hy=>Nat.le_trans hw1.size (hge y hy),hw2,fun e=>by have:=hge _ e;omega,psv,hp.mod h3 (by simp),hps,fun x hx e=>by have:=hge x hx;have:=(hp.row.lt x e).2;omega⟩
  simp only[Act.put,sA,sB,sC];obtain⟨g,rfl⟩:=hv;refine stage_quiet 1 (by kernel_rfl) ?_;simp only[tA,tB,tC,tD];(repeat go_big_quiet_step (fail));refine wpQuiet_nil ?_;refine stage_alloc (fun b=>.pointer (some ⟨b,0,none⟩)) (.cells #[.int .i64 f,.slice (some ⟨g,0,none⟩) n n,.pointer (some ⟨pb,0,none⟩),.int .i64 0] 155 (0,0)) (fun b w'=>∃psv,Mod [] w w'∧GenAt w' b f (fresh n) [] 0 (.slice (some ⟨g,0,none⟩) n n) psv pb∧∀x∈gfoot b pb (.slice (some ⟨g,0,none⟩) n n) psv,w.heap.size≤x) (by intro s s' h;simpa using h) rfl rfl (fun w' hw=> ?_) (fun w' hw=> ?_) (fun s w' ⟨psv,h,_⟩=>InGW.of h) (fun b=> ?_)
  ·kernel_rfl
  ·obtain⟨pb',e,h1,h2,h3,h4,h5,psv,h6,h7,h8⟩:=hw;have e':pb=pb':=by simpa using e
   subst e';have ha:=(Mod.refl [] w').alloc (.cells #[.int .i64 f,.slice (some ⟨g,0,none⟩) n n,.pointer (some ⟨pb,0,none⟩),.int .i64 0] 155 (0,0));have hpl:=lt_of h6.blk;have hsl:=h2.lt;have hpv:=h6.row.lt;refine⟨psv,h1.alloc _,⟨at_alloc _ _,by rw[fresh_length];exact row_mod h2 ha (by simp),h6.mod ha (by simp),by omega,⟨fun e=>by have:=(hsl _ e).2;omega,h5⟩,⟨fun e=>by have:=(hpv _ e).2;omega,h8⟩⟩,fun x hx=> ?_⟩;simp only[gfoot,List.mem_cons,List.mem_append,Option.mem_toList]at hx;rcases hx with rfl|rfl|hx|hx
   ·exact h1.size
   ·exact h4
   ·exact h3 x hx
   ·exact h7 x hx
  simp only[Act.put,sA,sB,sC];refine stage_quiet 1 (by kernel_rfl) ?_;simp only[tA,tB,tC,tD];(repeat go_big_quiet_step (fail));refine wpQuiet_nil ?_;refine stage_nil ?_;rintro w5 ⟨psv,hm5,hG,hfo⟩;clear hM hNw;go_wp2_with fail;go_loopw [29] (fun i wr=>∃k:Nat,k≤n∧i=.int .i64 k∧∃psv,Mod [] w wr∧GenAt wr b f (fresh n) (upTo k) 0 (.slice (some ⟨g,0,none⟩) n n) psv pb∧∀x∈gfoot b pb (.slice (some ⟨g,0,none⟩) n n) psv,w.heap.size≤x) (fun i _=>n-(intOf i).toNat)
  case atStart=>exact⟨0,by omega,rfl,psv,hm5,hG,hfo⟩
  case round=>
   obtain⟨k,hk,rfl,psv2,hm6,hG6,hfo6⟩:=hrel;clear hG hm5 hfo;have hcb:=cells_of hG6.blk;by_cases hlt:k<n
   ·go_wp2_with fail;refine(PutI_any k pb psv2 _ _ hG6.pool (by simp[upTo_length];omega)).mono ?_;intro e w7 hpost;have hpost2:PoolPost 200 3 (.tuple #[]) pb psv2 ((upTo (k+1)).map (.int .i64)) wr e w7:=by rw[upTo_succ,List.map_append];exact hpost
    obtain⟨psv3,rfl,hm7,hG7,hfo7⟩:=hG6.pooled hpost2;have hm8:=hm6.then hm7 (fun x hx=>.inr (hfo6 x (gfoot_pool x hx)));have hfo8:∀x∈gfoot b pb (.slice (some ⟨g,0,none⟩) n n) psv3,w.heap.size≤x:=fun x hx=>by
     simp only[gfoot,List.mem_cons,List.mem_append,Option.mem_toList]at hx;rcases hx with rfl|rfl|hx|hx
     ·exact hfo6 x (by simp[gfoot])
     ·exact hfo6 x (by simp[gfoot])
     ·exact hfo6 x (by simp[gfoot,hx])
     ·rcases hfo7 x hx with h|h
      ·exact hfo6 x (by simp[gfoot,h])
      ·exact Nat.le_trans hm6.size h
    clear hG6 hfo6 hm6 hcb hpost hpost2;go_wp2_with fail;go_roundw
    case rel=>exact⟨k+1,by omega,by go_num,psv3,hm8,hG7,hfo8⟩
    case measure=>simp[intOf];omega
   ·obtain rfl:k=n:=by omega
    go_wp2_with fail;go_ret2;exact⟨b,pb,_,psv2,rfl,hm6,hG6,hfo6⟩
end Go.Proofs.YtgfdeiijblakfaaGreat.Tb
