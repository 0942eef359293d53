/- Joined contracts. No conditions. -/
import Derived.Test.YteidpgdfocjdbaaGreatCS
import Derived.Test.YteidpgdfocjdbaaGreatC06
import Derived.Test.YteidpgdfocjdbaaGreatC08
set_option maxHeartbeats 4000000
set_option maxRecDepth 10000
namespace Go.Proofs.YteidpgdfocjdbaaGreat.Ty
open Go Go.RowKit Go.Stg
section
variable {P:Program} {ops:Array Oper} {I:World→Prop} {Out:Prop} {Q:Act→World→Prop}
theorem stage_alloc (v:Nat→Value) (ob:Obj) (C':Nat→World→Prop) {o:Oper} {rest:List Oper} {C:World→Prop} {a:Act}
  (hv:∀s s',v s=v s'→s=s') (hw:Region.wanted o (yielded ops a.tmps)=true) (he:eff o=true)
  (hrun:∀w,C w→(execOp a.eval o).run P w=.ok (.value (v w.heap.size)) (w.alloc ob)) (hC:∀w,C w→C' w.heap.size (w.alloc ob)) (hI:∀s w,C' s w→I w)
  (h:∀s,wpStage P ops I Out Q rest (C' s) (a.put o.dst (v s))):wpStage P ops I Out Q (o::rest) C a:=by
 unfold wpStage;simp only[hw,he,if_true];refine⟨fun u=>∃s,u=v s,fun u w=>∃s,u=v s∧C' s w,⟨v 0,0,rfl⟩,fun w hc=> ?_,fun u w ⟨s,h1,h2⟩=>⟨⟨s,h1⟩,.inr (hI s w h2)⟩,fun u ⟨s,hu⟩=> ?_⟩
 ·unfold gives;rw[hrun w hc];exact⟨_,rfl,hC w hc⟩
 ·subst hu;have e:(fun w=>∃s',v s=v s'∧C' s' w)=C' s:=by
   funext w;apply propext;constructor
   ·rintro⟨s',h1,h2⟩;rw[hv _ _ h1];exact h2
   ·intro h;exact⟨s,rfl,h⟩
  have h':=h s;rw[←e]at h';exact h'
theorem stage_any (V:Value→Prop) (C':Value→World→Prop) {o:Oper} {rest:List Oper} {C:World→Prop} {a:Act}
  (hw:Region.wanted o (yielded ops a.tmps)=true) (he:eff o=true) (hV:∃v,V v)
  (hrun:∀w,C w→∃v w',(execOp a.eval o).run P w=.ok (.value v) w'∧V v∧C' v w') (hI:∀v w,C' v w→I w)
  (h:∀v,V v→wpStage P ops I Out Q rest (C' v) (a.put o.dst v)):wpStage P ops I Out Q (o::rest) C a:=by
 unfold wpStage;simp only[hw,he,if_true];refine⟨V,fun u w=>V u∧C' u w,hV,fun w hc=> ?_,fun u w h1=>⟨h1.1,.inr (hI u w h1.2)⟩,fun u hu=> ?_⟩
 ·obtain⟨v,w',hr,h1,h2⟩:=hrun w hc;unfold gives;rw[hr];exact⟨h1,h2⟩
 ·have e:(fun w=>V u∧C' u w)=C' u:=by
   funext w;simp[hu]
  have h':=h u hu;rw[←e]at h';exact h'
theorem stage_call_any (f:FuncId) (args:Array Value) (V:Value→Prop) (C':Value→World→Prop) {o:Oper} {rest:List Oper} {C:World→Prop} {a:Act} {asz:Array Operand} {ts:Array TypeId}
  (hop:o.op=.call ⟨.value (.func f),asz,ts⟩) (hcall:∀(args:Array Value) w,(callFunc f args).run P w=.ok (.enter f args) w)
  (hw:Region.wanted o (yielded ops a.tmps)=true) (hargs:(asz.toList.map a.eval).toArray=args) (hV:∃v,V v)
  (hc:∀w,C w→Calls P f args w fun e w'=>∃v,e=.returned v∧V v∧C' v w') (hI:∀v w,C' v w→I w)
  (h:∀v,V v→wpStage P ops I Out Q rest (C' v) (a.put o.dst v)):wpStage P ops I Out Q (o::rest) C a:=by
 unfold wpStage;have he:eff o=true:=by simp[eff,hop]
 simp only[hw,he,if_true];refine⟨V,fun u w=>V u∧C' u w,hV,fun w hC=> ?_,fun u w h1=>⟨h1.1,.inr (hI u w h1.2)⟩,fun u hu=> ?_⟩
 ·unfold gives;rw[run_go hop rfl hcall w,hargs];exact(hc w hC).mono fun e w' ⟨v,h1,h2,h3⟩=>by subst h1;exact⟨h2,h3⟩
 ·have e:(fun w=>V u∧C' u w)=C' u:=by
   funext w;simp[hu]
  have h':=h u hu;rw[←e]at h';exact h'
end
theorem exec_append {P:Program} {w w':World} {o:Oper} {a:Act} {v u v':Value} (s x:Operand) (t:TypeId) (ho:o.op=.call {callee:=.builtin .append,args:=#[s,x],argTypes:=#[t,t]}) (hs:a.eval s=v) (hx:a.eval x=u)
  (hr:(Builtin.append_ #[t,t] o.type #[v,u]).run P w=.ok v' w'):(execOp a.eval o).run P w=.ok (.value v') w':=by
 unfold execOp;simp only[ho,resolve,invoke,builtin,Sem.run_bind,Sem.run_pure,Result.andThen_ok,List.map_toArray,List.map_cons,List.map_nil,hs,hx,hr]
def Made (len:Int) (fs:List Fld):Prop:=(∀f∈fs,Small f)∧((len=0∧1≤fs.length∧fs.length≤4)∨(1≤len∧len≤5∧fs.length=1))
theorem type_next (b K A B:Nat) (w:World) (h:TapeAt w b K A B) (hK:K≤1000):
  Calls Tryz.prog 8 #[.pointer (some ⟨b,0,none⟩)] w fun e w'=>∃(len:Int) (g cap:Nat) (fs:List Fld),e=.returned (.agg #[.int .i64 len,.slice (some ⟨g,0,none⟩) fs.length cap])∧FieldsAt w' (.slice (some ⟨g,0,none⟩) fs.length cap) fs∧Made len fs∧fs.length≤cap∧Mod [b] w w'∧w.heap.size≤g∧TapeAt w' b (K+12) A B∧w'.ownsRow 0 63 2 (.slice (some ⟨g,0,none⟩) fs.length cap) fs.length (fcells fs):=by
 have hb:=h.lt;have q0:=at_alloc w (.cells #[.int .i64 0,.slice none 0 0] 25);have hm0:=(Mod.refl [] w).alloc (.cells #[.int .i64 0,.slice none 0 0] 25);have hN:=Lib.hid (next_ok b K A B 4 (by omega) (by omega) _ (h.mod hm0) (by omega));clear h;go_enter Tryz.func8,Tryz.ntmps8;go_wp2_with fail;refine hN.out.mono ?_;rintro e w1 ⟨x,rfl,x0,x1,hm1,hT1⟩;have q1:=hm1.at q0 (by simp;omega);have hm1:=(hm0.mono (T:=[b]) (by simp)).then hm1 (fun y hy=>.inl hy)
 clear q0 hm0 hN;by_cases h0:x=0
 ·subst h0;go_wp2_with fail;refine(next_ok b (K+1) A B 5 (by omega) (by omega) _ hT1 (by omega)).mono ?_;rintro e w2 ⟨y,rfl,y0,y1,hm2,hT2⟩;have q2:=hm2.at q1 (by simp;omega);have hm2:=hm1.then hm2 (fun z hz=>.inl hz);clear hm1 hT1 q1;go_wp2_with fail;refine(field_ok b (K+2) A B _ hT2 (by omega)).mono ?_;rintro e w3 ⟨k,c,rfl,hsm,hm3,hT3⟩;have q3:=hm3.at q2 (by simp;omega);have hm3:=hm2.then hm3 (fun z hz=>.inl hz);clear hm2 hT2 q2;have hws3:=lt_of q3;have cq:=cells_of q3;have fq:=frozen_of q3;have q3a:=at_setCell (o:=0) (v:=.int .i64 (1+y)) q3;have cq3:=cells_of q3a;have fq3:=frozen_of q3a;go_wp2_with fail;have q4:=at_alloc_old (o:=.cells #[.int .i64 k,.int .i64 c] 63) (at_setCell (o:=1) (v:=.slice (some ⟨w3.heap.size,0,none⟩) 1 1) q3a);have p4:=at_alloc ((w3.setCell ⟨w.heap.size,0,none⟩ (.int .i64 (1+y))).setCell ⟨w.heap.size,1,none⟩ (.slice (some ⟨w3.heap.size,0,none⟩) 1 1)) (.cells #[.int .i64 k,.int .i64 c] 63);have hsz:((w3.setCell ⟨w.heap.size,0,none⟩ (.int .i64 (1+y))).setCell ⟨w.heap.size,1,none⟩ (.slice (some ⟨w3.heap.size,0,none⟩) 1 1)).heap.size=w3.heap.size:=by simp[World.setCell]
  rw[hsz]at p4;have hm4:=((hm3.setCell (p:=⟨w.heap.size,0,none⟩) (.inr (Nat.le_refl _)) (.int .i64 (1+y))).setCell (p:=⟨w.heap.size,1,none⟩) (.inr (Nat.le_refl _)) (.slice (some ⟨w3.heap.size,0,none⟩) 1 1)).alloc (.cells #[.int .i64 k,.int .i64 c] 63);have c4:=cells_of q4;have hT4:=(hT3.modS ((((Mod.refl [w.heap.size] w3).setCell (p:=⟨w.heap.size,0,none⟩) (.inl (by simp)) (.int .i64 (1+y))).setCell (p:=⟨w.heap.size,1,none⟩) (.inl (by simp)) (.slice (some ⟨w3.heap.size,0,none⟩) 1 1)).alloc (.cells #[.int .i64 k,.int .i64 c] 63)) (by simp;omega)).up (L:=K+12) (by omega);refine bodyPost_ret (v:=.agg #[.int .i64 (1+y),.slice (some ⟨w3.heap.size,0,none⟩) 1 1]) ?_ rfl ⟨1+y,w3.heap.size,1,[(k,c)],rfl,fields_one p4,⟨by simpa using hsm,.inr ⟨by omega,by omega,rfl⟩⟩,by simp,hm4,by omega,hT4,⟨rfl,.inr ⟨_,1,#[.int .i64 k,.int .i64 c],rfl,Nat.zero_le _,p4,Nat.le_refl _,by unfold maxLen;omega,rfl,rfl⟩⟩⟩;simp[results,Tryz.results8,go_sem,c4]
 ·have hne0:(x==0)=false:=by simp only[beq_eq_false_iff_ne];omega
  have p1:=at_alloc w1 (.cells #[.int .i64 0,.slice none 0 0] 25);have q1w:=lt_of q1;have q1:=at_alloc_old (o:=.cells #[.int .i64 0,.slice none 0 0] 25) q1;have hm1:=hm1.alloc (.cells #[.int .i64 0,.slice none 0 0] 25);have hT1:=hT1.mod ((Mod.refl [] w1).alloc (.cells #[.int .i64 0,.slice none 0 0] 25));go_wp2_with fail;generalize hX:w1.heap.size=X at*;generalize w1.alloc (.cells #[.int .i64 0,.slice none 0 0] 25)=W1 at*;refine(next_ok b (K+1) A B 4 (by omega) (by omega) _ hT1 (by omega)).mono ?_;rintro e w2 ⟨y,rfl,y0,y1,hm2,hT2⟩;have q2:=hm2.at q1 (by simp;omega);have p2:=hm2.at p1 (by simp;omega);have hm2:=hm1.then hm2 (fun z hz=>.inl hz);clear hm1 hT1 q1 p1 hX;obtain⟨n0,hn0⟩:=Int.eq_ofNat_of_zero_le (show 0≤1+y by omega);have hn4:n0≤4:=by omega
  have hn1:1≤n0:=by omega
  go_wp2_with fail;clear hn0;go_loopw [4] (fun i wr=>∃(r:Nat) (fs:List Fld) (sv:Value),i=.int .i64 r∧fs.length+r=n0∧(∀f∈fs,Small f)∧Mod [b] w wr∧wr.heap[X]? =some (.cells #[.int .i64 0,sv] 25 (0,0))∧wr.heap[w.heap.size]? =some (.cells #[.int .i64 0,.slice none 0 0] 25 (0,0))∧wr.ownsRow 0 63 2 sv fs.length (fcells fs)∧(∀z,sv.ownBlock=some z→w.heap.size≤z∧z≠X∧z≠w.heap.size)∧TapeAt wr b (K+2+2*fs.length) A B) (fun i _=>(intOf i).toNat)
  case atStart=>exact⟨n0,[],_,rfl,by simp,by simp,hm2,p2,q2,World.ownsRow_nil _ _ _ _,by simp[Value.ownBlock],by simpa using hT2⟩
  case round=>
   obtain⟨r,fs,sv,rfl,hlen,hall,hm,hp,hq,hrow,hfs,hT⟩:=hrel;clear hm2 p2 q2 hT2;by_cases hr:0<r
   ·obtain⟨i0,hi0,hz0,hz1,hz2⟩:=info_parts info_field;have hXn:w.heap.size≠X:=by omega
    have hXS:X∉b::sv.ownBlock.toList:=fun hx=>by
     rcases List.mem_cons.1 hx with e|hx
     ·omega
     ·exact(hfs X (by simpa using hx)).2.1 rfl
    have hRS:w.heap.size∉b::sv.ownBlock.toList:=fun hx=>by
     rcases List.mem_cons.1 hx with e|hx
     ·omega
     ·exact(hfs _ (by simpa using hx)).2.2 rfl
    have hso:∀z,sv.ownBlock=some z→z<wr.heap.size:=fun z hz=>(hrow.lt z hz).2
    have hlen4:fs.length≤3:=by omega
    have h63:fs.length+1≤maxLen:=by unfold maxLen;omega
    have hby:(fs.length+1)*16≤140737488355328:=by omega
    have k1:=GW.cells (S:=b::sv.ownBlock.toList) hp hXS;have hXw:=lt_of hp;go_wp2_with fail;refine wp_region_stage (fun w'=>∃x:GW (b::sv.ownBlock.toList) wr,w'=x.1) (fun w'=>Mod [] wr w') (by kernel_rfl) (by kernel_rfl) (fun _ h=>InGW.of (h.mono (by simp))) (Mod.refl _ _).drew ?_;refine stage_quiet 3 (by kernel_rfl) ?_;simp only[tA,tB,tC,tD];(repeat go_big_quiet_step (fail));refine wpQuiet_nil ?_;refine stage_call_any 27 _ (fun u=>∃k c:Int,u=.agg #[.int .i64 k,.int .i64 c]∧Small (k,c)) (fun _ w'=>Mod [b] wr w'∧TapeAt w' b (K+2+2*fs.length+2) A B) rfl Tryz.call27 rfl rfl ⟨_,1,0,rfl,by simp[Small]⟩ (fun w' h=>(field_ok b _ A B w' (hT.mod h) (by omega)).mono fun e w'' ⟨k,c,h1,h2,h3,h4⟩=>⟨_,h1,⟨k,c,rfl,h2⟩,(h.mono (T:=[b]) (by simp)).then h3 (fun z hz=>.inl hz),h4⟩) (fun _ _ h=>InGW.of (h.1.mono (by simp))) (fun u hu=> ?_);obtain⟨k,c,rfl,hsm⟩:=hu;simp only[Act.put,sA,sB,sC];refine stage_alloc (fun s=>.slice (some ⟨s,0,none⟩) 1 1) (.cells #[.int .i64 k,.int .i64 c] 63 (0,0)) (fun s w'=>Mod [b] wr w'∧wr.heap.size≤s∧w'.heap[s]? =some (.cells #[.int .i64 k,.int .i64 c] 63 (0,0))∧TapeAt w' b (K+2+2*fs.length+2) A B) (by intro s s' h;simpa using h) rfl rfl (fun w' hw=> ?_) (fun w' hw=>⟨hw.1.alloc _,hw.1.size,at_alloc _ _,hw.2.mod ((Mod.refl [] w').alloc _)⟩) (fun s w' h=>InGW.of (h.1.mono (by simp))) (fun s=> ?_)
    ·kernel_rfl
    simp only[Act.put,sA,sB,sC];refine stage_any (fun v=>∃g cap,v=.slice (some ⟨g,0,none⟩) (fs.length+1) cap) (fun v w'=>Mod (b::sv.ownBlock.toList) wr w'∧w'.ownsRow 0 63 2 v (fs.length+1) (fcells (fs++[(k,c)]))∧(∀y,v.ownBlock=some y→sv.ownBlock=some y∨wr.heap.size≤y)∧TapeAt w' b (K+2+2*fs.length+2) A B) rfl rfl ⟨_,0,0,rfl⟩ (fun w' hw=> ?_) (fun v w' h=>InGW.of h.1) (fun v hv=> ?_)
    ·obtain⟨hw1,hw2,hw3,hw4⟩:=hw;have hnews:∀j u,[Value.int .i64 k,Value.int .i64 c][j]? =some u→w'.cell? ((⟨s,0,none⟩:Addr).add j)=some u:=fun j u h=>by
      rw[add_at,Nat.zero_add,cells_of hw3];simpa using h
     obtain⟨v',w2,hr2,h2,h3,h4⟩:=run_append_row (P:=Tryz.prog) w' 23 23 63 i0 (.agg #[.int .i64 0,.int .i64 0]) 2 16 Tryz.underlying23 hi0 hz0 hz1 hz2 rfl (by decide) sv fs.length (fcells fs) (row_mod hrow hw1 (fun g hg hgb=>by have:=hfs g hg;have hgb':g=b:=List.mem_singleton.1 hgb;omega)) ⟨s,0,none⟩ 1 1 [.int .i64 k,.int .i64 c] rfl hnews (by simp[Value.oneCell']) h63 hby;obtain⟨g',cap',rfl,_,_⟩:=row_pos h2 (by omega);refine⟨_,w2,exec_append _ _ 23 rfl rfl rfl hr2,⟨g',cap',rfl⟩,(hw1.mono (by simp)).grown h3 (fun k hk=>.inl (by simp[hk])),by rw[fcells_snoc];exact h2,fun y hy=>(h4 y hy).imp id (fun h=>Nat.le_trans hw1.size h),hw4.modS ((Mod.refl sv.ownBlock.toList w').grown h3 (fun k hk=>.inl (by simp[hk]))) (fun z hz=>by have:=hfs z (by simpa using hz);omega)⟩
    simp only[Act.put,sA,sB,sC];obtain⟨g,cap,rfl⟩:=hv;refine stage_quiet 1 (by kernel_rfl) ?_;simp only[tA,tB,tC,tD];(repeat go_big_quiet_step (fail));refine wpQuiet_nil ?_;refine stage_store (p:=⟨X,1,none⟩) (u:=.slice (some ⟨g,0,none⟩) (fs.length+1) cap) (fun w'=>w'.setCell ⟨X,1,none⟩ (.slice (some ⟨g,0,none⟩) (fs.length+1) cap)) rfl rfl (by kernel_rfl) rfl rfl rfl (fun w' hw=> ?_) (fun w' hw=> ?_)
    ·have c1:=cells_of (hw.1.at hp hXS);have f1:=frozen_of (hw.1.at hp hXS);clear k1;go_simp
    ·obtain⟨hmw,hrw,hfw,hTw⟩:=hw;clear k1;go_wp2_with fail;have hgn:w.heap.size≤g∧g≠X∧g≠w.heap.size:=by
      rcases hfw g rfl with h|h
      ·exact hfs g h
      ·omega
     go_roundw
     case rel=>
      refine⟨r-1,fs++[(k,c)],.slice (some ⟨g,0,none⟩) (fs.length+1) cap,by congr 1;omega,by simp;omega,fun f hf=> ?_,(hm.then hmw (fun z hz=> ?_)).setCell (p:=⟨X,1,none⟩) (.inr (by show w.heap.size≤X;omega)) _,at_setCell (o:=1) (hmw.at hp hXS),at_setCell_other (hmw.at hq hRS) hXn,?_,fun z hz=> ?_,?_⟩
      ·rcases List.mem_append.1 hf with hf|hf
       ·exact hall f hf
       ·rw[List.mem_singleton.1 hf];exact hsm
      ·rcases List.mem_cons.1 hz with e|hz
       ·exact .inl (by simp[e])
       ·exact .inr (hfs z (by simpa using hz)).1
      ·have hr3:=row_mod hrw ((Mod.refl [X] w').setCell (p:=⟨X,1,none⟩) (.inl (by simp)) (.slice (some ⟨g,0,none⟩) (fs.length+1) cap)) (fun z hz=>by
        have hz':some g=some z:=hz;obtain rfl:=Option.some.inj hz';simpa using hgn.2.1)
       rw[List.length_append];exact hr3
      ·have hz':some g=some z:=hz;obtain rfl:=Option.some.inj hz';exact hgn
      ·have hT3:=(hTw.modS ((Mod.refl [X] w').setCell (p:=⟨X,1,none⟩) (.inl (by simp)) (.slice (some ⟨g,0,none⟩) (fs.length+1) cap)) (by simp;omega)).up (L:=K+2+2*(fs++[(k,c)]).length) (by simp;omega);exact hT3
     case measure=>simp[intOf];omega
   ·obtain rfl:r=0:=by omega
    have cp:=cells_of hp;have cq:=cells_of hq;have fq:=frozen_of hq;obtain⟨g,cap,rfl,_,hg⟩:=row_pos hrow (by omega);have hgf:=hfs g rfl;have hXn:w.heap.size≠X:=by omega
    have hcap:fs.length≤cap:=by
     rcases row_cases hrow with⟨h,_⟩|⟨g',cap',h,_,_,h2,_⟩
     ·simp at h
     ·simp at h;obtain⟨_,rfl⟩:=h;exact h2
    go_wp2_with fail;have q4:=at_setCell (o:=1) (v:=.slice (some ⟨g,0,none⟩) fs.length cap) (at_setCell (o:=0) (v:=.int .i64 0) hq);have hm4:=(hm.setCell (p:=⟨w.heap.size,0,none⟩) (.inr (Nat.le_refl _)) (.int .i64 0)).setCell (p:=⟨w.heap.size,1,none⟩) (.inr (Nat.le_refl _)) (.slice (some ⟨g,0,none⟩) fs.length cap);have hr4:=row_mod hrow (((Mod.refl [w.heap.size] wr).setCell (p:=⟨w.heap.size,0,none⟩) (.inl (by simp)) (.int .i64 0)).setCell (p:=⟨w.heap.size,1,none⟩) (.inl (by simp)) (.slice (some ⟨g,0,none⟩) fs.length cap)) (fun z hz=>by simpa using(hfs z hz).2.2);have hF:=(row_fields hrow rfl).modS (((Mod.refl [w.heap.size] wr).setCell (p:=⟨w.heap.size,0,none⟩) (.inl (by simp)) (.int .i64 0)).setCell (p:=⟨w.heap.size,1,none⟩) (.inl (by simp)) (.slice (some ⟨g,0,none⟩) fs.length cap)) (fun z hz=>by simpa using(hfs z hz).2.2);have c4:=cells_of q4;have hT4:=(hT.modS (((Mod.refl [w.heap.size] wr).setCell (p:=⟨w.heap.size,0,none⟩) (.inl (by simp)) (.int .i64 0)).setCell (p:=⟨w.heap.size,1,none⟩) (.inl (by simp)) (.slice (some ⟨g,0,none⟩) fs.length cap)) (by simp;omega)).up (L:=K+12) (by omega);refine bodyPost_ret (v:=.agg #[.int .i64 0,.slice (some ⟨g,0,none⟩) fs.length cap]) ?_ rfl ⟨0,g,cap,fs,rfl,hF,⟨hall,.inl ⟨rfl,by omega,by omega⟩⟩,hcap,hm4,hgf.1,hT4,hr4⟩;simp[results,Tryz.results8,go_sem,c4]
end Go.Proofs.YteidpgdfocjdbaaGreat.Ty
namespace Go.Proofs.YteidpgdfocjdbaaGreat.Ty
open Go Go.RowKit Go.Stg
theorem take_eq_snoc {α:Type} {l m:List α} {k:Nat} (hl:k<l.length) (hm:k<m.length) (h:l.take k=m.take k) (he:l[k]=m[k]):l.take (k+1)=m.take (k+1):=by
 rw[take_snoc l hl,take_snoc m hm,h,he]
theorem fields_get {w:World} {v:Value} {fs:List Fld} (h:FieldsAt w v fs) {k:Nat} (hk:k<fs.length):∃sb so cap,v=.slice (some ⟨sb,so,none⟩) fs.length cap∧sb<w.heap.size∧w.cell? ⟨sb,so+k*2,none⟩=some (.int .i64 fs[k].1)∧w.cell? ⟨sb,so+k*2+1,none⟩=some (.int .i64 fs[k].2):=by
 rcases h with⟨_,rfl⟩|⟨sb,so,cap,rfl,h2,h3,h4⟩
 ·simp at hk
 ·exact⟨sb,so,cap,rfl,h2,(h4 k hk).1,(h4 k hk).2⟩
theorem equal_ok (v v':Value) (fs fs':List Fld) (w:World) (h:FieldsAt w v fs) (h':FieldsAt w v' fs'):
  Calls Tryz.prog 65 #[v,v'] w fun e w'=>e=.returned (.bool (decide (fs=fs')))∧Mod [] w w':=by
 have hln:=fun ty w=>h.len ty w
 have hln':=fun ty w=>h'.len ty w
 have hs:=h.small;have hs':=h'.small;have hH:=Lib.hid h;have hH':=Lib.hid h';obtain⟨q,hq⟩:∃q,decide (fs=fs')=q:=⟨_,rfl⟩;rw[hq];have hqH:=Lib.hid hq;clear hq h h';by_cases hl:fs.length=fs'.length
 ·simp only[←hl]at hln';have hlH:=Lib.hid hl;clear hl;go_enter Tryz.func65,Tryz.ntmps65;go_wp2_with fail;go_loopw [13] (fun i wr=>∃k:Nat,k≤fs.length∧i=.int .i64 k∧Mod [] w wr∧fs.take k=fs'.take k) (fun i _=>fs.length-(intOf i).toNat)
  case atStart=>exact⟨0,by omega,rfl,Mod.refl _ _,by simp⟩
  case round=>
   obtain⟨k,hk,rfl,hm,ht⟩:=hrel;have htH:=Lib.hid ht;clear ht;by_cases hk1:k<fs.length
   ·have hk2:k<fs'.length:=by have:=hlH.out;omega
    obtain⟨sb,so,cap,rfl,g1,a1,a2⟩:=fields_get hH.out hk1;obtain⟨sb',so',cap',rfl,g1',a1',a2'⟩:=fields_get hH'.out hk2;have a1:=(cell_mod hm g1 (by simp)).trans a1;have a2:=(cell_mod hm g1 (by simp)).trans a2;have a1':=(cell_mod hm g1' (by simp)).trans a1';have a2':=(cell_mod hm g1' (by simp)).trans a2';have k1:=GW.cell1 (S:=[]) a1 (hm.lt g1) (by simp);have k2:=GW.cell1 (S:=[]) a2 (hm.lt g1) (by simp);have k3:=GW.cell1 (S:=[]) a1' (hm.lt g1') (by simp);have k4:=GW.cell1 (S:=[]) a2' (hm.lt g1') (by simp);have hne:fs[k]≠fs'[k]→fs≠fs':=fun h e=>h (by subst e;rfl)
    have hneH:=Lib.hid hne;have htk:=Lib.hid fun he=>take_eq_snoc hk1 hk2 htH.out he
    have hle:fs'.length=fs.length:=hlH.out.symm;have hlen':=Lib.hid hle;clear a1 a2 a1' a2' hne hle;generalize fs[k]=f at*;generalize fs'[k]=f' at*;obtain⟨f1,f2⟩:=f;obtain⟨f1',f2'⟩:=f';have bad:¬(f1=f1'∧f2=f2')→q=false:=fun hb=>by
     have h1:=hqH.out;rw[decide_eq_false (hneH.out fun e=>hb (by cases e;exact⟨rfl,rfl⟩))]at h1;exact h1.symm
    have badH:=Lib.hid bad;clear bad hneH;rw[hlen'.out]at*;clear hlen';by_cases e1:f1=f1'
    ·subst e1;by_cases e2:f2=f2'
     ·subst e2;have z1:(f1==f1)=true:=by simp
      have z2:(f2==f2)=true:=by simp
      clear badH;go_wp2_with fail;refine wp_region_pure (by kernel_rfl) (by kernel_rfl) ?_;refine stage_quiet 9 (by kernel_rfl) ?_;simp only[tA,tB,tC,tD];(repeat go_big_quiet_step (fail));refine wpQuiet_nil ?_;refine stage_nil fun w7 hm7=> ?_
      clear k1 k2 k3 k4;go_wp2_with fail;go_roundw
      case rel=>exact⟨k+1,by omega,by go_num,hm.nil_then hm7,htk.out (by first|trivial|rfl)⟩
      case measure=>simp[intOf];omega
     ·have z1:(f1==f1)=true:=by simp
      have z2:(f2==f2')=false:=by simp only[beq_eq_false_iff_ne];exact e2
      have hb:=badH.out (fun h=>e2 h.2);clear badH e2;subst hb;go_wp2_with fail;refine wp_region_pure (by kernel_rfl) (by kernel_rfl) ?_;refine stage_quiet 9 (by kernel_rfl) ?_;simp only[tA,tB,tC,tD];(repeat go_big_quiet_step (fail));refine wpQuiet_nil ?_;refine stage_nil fun w7 hm7=> ?_
      clear k1 k2 k3 k4;go_wp2_with fail;go_ret;exact⟨rfl,hm.nil_then hm7⟩
    ·have z1:(f1==f1')=false:=by simp only[beq_eq_false_iff_ne];exact e1
     have hb:=badH.out (fun h=>e1 h.1);clear badH e1;subst hb;go_wp2_with fail;refine wp_region_pure (by kernel_rfl) (by kernel_rfl) ?_;refine stage_quiet 9 (by kernel_rfl) ?_;simp only[tA,tB,tC,tD];(repeat go_big_quiet_step (fail));refine wpQuiet_nil ?_;refine stage_nil fun w7 hm7=> ?_
     clear k1 k2 k3 k4;go_wp2_with fail;go_ret;exact⟨rfl,hm.nil_then hm7⟩
   ·have hb:q=true:=by
     rw[←hqH.out,decide_eq_true_eq];have h1:=htH.out;rw[List.take_of_length_le (by omega),List.take_of_length_le (by have:=hlH.out;omega)]at h1;exact h1
    subst hb;go_wp2_with fail;go_ret;exact⟨rfl,hm⟩
 ·have hb:q=false:=by
   rw[←hqH.out,decide_eq_false_iff_not];exact fun e=>hl (by rw[e])
  subst hb;have z1:((fs.length:Int)==(fs'.length:Int))=false:=by simp only[beq_eq_false_iff_ne];omega
  clear hl;go_enter Tryz.func65,Tryz.ntmps65;go_wp2_with fail;go_ret;exact⟨rfl,Mod.refl _ _⟩
theorem fcells_oneCell (fs:List Fld):∀u∈fcells fs,u.oneCell'=true:=by
 intro u hu;unfold fcells at hu;rw[List.mem_flatMap]at hu;obtain⟨f,_,hu⟩:=hu;simp at hu;rcases hu with rfl|rfl<;>rfl
theorem fields_cells {w:World} {sb so cap n:Nat} {fs:List Fld} (h:FieldsAt w (.slice (some ⟨sb,so,none⟩) n cap) fs):∀j u,(fcells fs)[j]? =some u→w.cell? ((⟨sb,so,none⟩:Addr).add j)=some u:=by
 intro j u hu;rcases h with⟨h,_⟩|⟨sb',so',cap',h,h2,h3,h4⟩
 ·simp at h
 ·simp at h;obtain⟨⟨rfl,rfl⟩,rfl,rfl⟩:=h;obtain⟨hj,_⟩:=List.getElem?_eq_some_iff.1 hu;rw[fcells_length]at hj;have hk:j/2<fs.length:=by omega
  obtain⟨e1,e2⟩:=fcells_at fs (j/2) hk;obtain⟨a1,a2⟩:=h4 (j/2) hk;rw[add_at];rcases(show j=j/2*2∨j=j/2*2+1 by omega)with h|h
  ·rw[←h]at e1 a1;rw[hu]at e1;rw[a1,Option.some.inj e1]
  ·rw[←h]at e2;rw[show so+j/2*2+1=so+j by omega]at a2;rw[hu]at e2;rw[a2,Option.some.inj e2]
theorem clone_ok (v:Value) (fs:List Fld) (hl:fs.length≤100) (w:World) (h:FieldsAt w v fs):
  Calls Tryz.prog 110 #[v] w fun e w'=>∃v',e=.returned v'∧w'.ownsRow w.heap.size 63 2 v' fs.length (fcells fs)∧Mod [] w w':=by
 obtain⟨i0,hi0,hz0,hz1,hz2⟩:=info_parts info_field;rcases h with⟨rfl,rfl⟩|⟨sb,so,cap,rfl,g2,g3,g4⟩
 ·have hnil:=fun w=>Lib.run_eql_slice_nil (P:=Tryz.prog) w 23 63 none 0 0 0 0 Tryz.underlying23
  go_enter Tryz.func110,Tryz.ntmps110;go_wp2_with fail;go_ret;exact⟨_,rfl,World.ownsRow_nil _ _ _ _,Mod.refl _ _⟩
 ·have hown:(w.alloc (.cells #[] 63 (0,0))).ownsRow w.heap.size 63 2 (.slice (some ⟨w.heap.size,0,none⟩) 0 0) 0 []:=World.ownsRow_made w #[] 0 (Nat.le_refl _) (Nat.zero_le _) rfl;have hmA:=(Mod.refl [] w).alloc (.cells #[] 63 (0,0));have hF:FieldsAt (w.alloc (.cells #[] 63 (0,0))) (.slice (some ⟨sb,so,none⟩) fs.length cap) fs:=FieldsAt.mod (.inr ⟨sb,so,cap,rfl,g2,g3,g4⟩) hmA;have hcs:=Lib.hid (fields_cells hF);clear g4 hF;have h63:0+fs.length≤maxLen:=by unfold maxLen;omega
  have hby:(0+fs.length)*16≤140737488355328:=by omega
  have hfl:(fcells fs).length=fs.length*2:=fcells_length fs;have hfl:=Lib.hid hfl;have hnil:=fun w=>Lib.run_eql_slice_nil (P:=Tryz.prog) w 23 63 (some ⟨sb,so,none⟩) fs.length cap 0 0 Tryz.underlying23
  go_enter Tryz.func110,Tryz.ntmps110;go_wp2_with (at_builtin;refine wpList_append_row _ rfl _ _ 23 rfl 63 i0 (.agg #[.int .i64 0,.int .i64 0]) 2 16 Tryz.underlying23 hi0 hz0 hz1 hz2 rfl (by decide) (.slice (some ⟨w.heap.size,0,none⟩) 0 0) 0 [] rfl (row_base hown (Nat.zero_le _)) ⟨sb,so,none⟩ fs.length cap (fcells fs) rfl hfl.out hcs.out (fcells_oneCell fs) h63 hby ?_;intro v' w1 hown1 hgrow hfr;simp only[Nat.zero_add,List.nil_append]at hown1;have hown1:=Lib.hid hown1;have hgrow:=Lib.hid hgrow;have hfr:=Lib.hid hfr);go_ret;refine⟨_,rfl,row_all hown1.out fun g hg=> ?_,hmA.grown hgrow.out fun k hk=>.inr ?_⟩
  ·rcases hfr.out g hg with h|h
   ·have h':some w.heap.size=some g:=h;have:=Option.some.inj h';omega
   ·simp at h;omega
  ·have hk':some w.heap.size=some k:=hk;have:=Option.some.inj hk';omega
theorem copied_ok (len:Int) (v:Value) (fs:List Fld) (hl:fs.length≤100) (w:World) (h:FieldsAt w v fs):
  Calls Tryz.prog 67 #[.agg #[.int .i64 len,v]] w fun e w'=>∃v',e=.returned (.agg #[.int .i64 len,v'])∧w'.ownsRow w.heap.size 63 2 v' fs.length (fcells fs)∧Mod [] w w':=by
 have q0:=at_alloc_old (o:=.cells #[.int .i64 0,.slice none 0 0] 25) (at_alloc w (.cells #[.int .i64 len,v] 25));have q1:=at_alloc (w.alloc (.cells #[.int .i64 len,v] 25)) (.cells #[.int .i64 0,.slice none 0 0] 25);rw[World.size_alloc]at q1;have hm0:=((Mod.refl [] w).alloc (.cells #[.int .i64 len,v] 25)).alloc (.cells #[.int .i64 0,.slice none 0 0] 25);have hC:=Lib.hid (clone_ok v fs hl _ (h.mod hm0));clear h;go_enter Tryz.func67,Tryz.ntmps67;go_wp2_with fail;refine hC.out.mono ?_;rintro e w1 ⟨v',rfl,hrow,hm1⟩;obtain⟨va,vn,vc,rfl⟩:=row_slice hrow;have q0:=hm1.at q0 (by simp);have q1:=hm1.at q1 (by simp);have hm2:=hm0.nil_then hm1;have hlt:∀x,(Value.slice va vn vc).ownBlock=some x→w.heap.size+2≤x:=fun x hx=>by
  have:=(hrow.lt x hx).1;simp at this;omega
 have hrow:=Lib.hid (row_base (base':=w.heap.size) hrow (by simp;omega));have c0:=cells_of q0;have f0:=frozen_of q0;have c1:=cells_of q1;have f1:=frozen_of q1;go_wp2_with fail;have q2:=at_setCell_other (a:=⟨w.heap.size,1,none⟩) (v:=.slice va vn vc) q1 (by show w.heap.size+1≠w.heap.size;omega);have q3:=at_setCell (o:=1) (v:=.slice va vn vc) (at_setCell (o:=0) (v:=.int .i64 len) q2);have hm3:=((hm2.setCell (p:=⟨w.heap.size,1,none⟩) (.inr (Nat.le_refl _)) (.slice va vn vc)).setCell (p:=⟨w.heap.size+1,0,none⟩) (.inr (by show w.heap.size≤w.heap.size+1;omega)) (.int .i64 len)).setCell (p:=⟨w.heap.size+1,1,none⟩) (.inr (by show w.heap.size≤w.heap.size+1;omega)) (.slice va vn vc);have hms:=(((Mod.refl [w.heap.size,w.heap.size+1] w1).setCell (p:=⟨w.heap.size,1,none⟩) (.inl (by simp)) (.slice va vn vc)).setCell (p:=⟨w.heap.size+1,0,none⟩) (.inl (by simp)) (.int .i64 len)).setCell (p:=⟨w.heap.size+1,1,none⟩) (.inl (by simp)) (.slice va vn vc);have hr3:=row_mod hrow.out hms (fun g hg=>by have:=hlt g hg;simp;omega);have cc:=cells_of q3;refine bodyPost_ret (v:=.agg #[.int .i64 len,.slice va vn vc]) ?_ rfl ⟨_,rfl,hr3,hm3⟩;simp[results,Tryz.results67,go_sem,cc]
theorem rsame_ok (len len':Int) (v v':Value) (fs fs':List Fld) (w:World) (h:FieldsAt w v fs) (h':FieldsAt w v' fs'):
  Calls Tryz.prog 32 #[.agg #[.int .i64 len,v],.agg #[.int .i64 len',v']] w fun e w'=>e=.returned (.bool (decide (len=len'∧fs=fs')))∧Mod [] w w':=by
 have q0:=at_alloc_old (o:=.cells #[.int .i64 len',v'] 25) (at_alloc w (.cells #[.int .i64 len,v] 25));have q1:=at_alloc (w.alloc (.cells #[.int .i64 len,v] 25)) (.cells #[.int .i64 len',v'] 25);rw[World.size_alloc]at q1;have hm0:=((Mod.refl [] w).alloc (.cells #[.int .i64 len,v] 25)).alloc (.cells #[.int .i64 len',v'] 25);have hln:=fun ty w=>h.len ty w
 have hln':=fun ty w=>h'.len ty w
 have hs:=h.small;have hs':=h'.small;have hH:=Lib.hid h;have hH':=Lib.hid h';obtain⟨q,hq⟩:∃q,decide (len=len'∧fs=fs')=q:=⟨_,rfl⟩;rw[hq];have hqH:=Lib.hid hq;clear hq h h';by_cases he:len=len'
 ·subst he;have z0:(len==len)=true:=by simp
  by_cases hl:fs.length=fs'.length
  ·simp only[←hl]at hln';have hlH:=Lib.hid hl;clear hl;go_enter Tryz.func32,Tryz.ntmps32;go_wp2_with fail;generalize(w.alloc (.cells #[.int .i64 len,v] 25)).alloc (.cells #[.int .i64 len,v'] 25)=W at*;go_loopw [5] (fun i wr=>∃k:Nat,k≤fs.length∧i=.int .i64 k∧Mod [] W wr∧fs.take k=fs'.take k) (fun i _=>fs.length-(intOf i).toNat)
   case atStart=>exact⟨0,by omega,rfl,Mod.refl _ _,by simp⟩
   case round=>
    obtain⟨k,hk,rfl,hm,ht⟩:=hrel;have q0:=hm.at q0 (by simp);have q1:=hm.at q1 (by simp);have hmw:=hm0.nil_then hm;have c0:=cells_of q0;have c1:=cells_of q1;have htH:=Lib.hid ht;clear ht;by_cases hk1:k<fs.length
    ·have hk2:k<fs'.length:=by have:=hlH.out;omega
     obtain⟨sb,so,cap,rfl,g1,a1,a2⟩:=fields_get hH.out hk1;obtain⟨sb',so',cap',rfl,g1',a1',a2'⟩:=fields_get hH'.out hk2;have a1:=(cell_mod hmw g1 (by simp)).trans a1;have a2:=(cell_mod hmw g1 (by simp)).trans a2;have a1':=(cell_mod hmw g1' (by simp)).trans a1';have a2':=(cell_mod hmw g1' (by simp)).trans a2';have k1:=GW.cell1 (S:=[]) a1 (hmw.lt g1) (by simp);have k2:=GW.cell1 (S:=[]) a2 (hmw.lt g1) (by simp);have k3:=GW.cell1 (S:=[]) a1' (hmw.lt g1') (by simp);have k4:=GW.cell1 (S:=[]) a2' (hmw.lt g1') (by simp);have k5:=GW.cells (S:=[]) q0 (by simp);have k6:=GW.cells (S:=[]) q1 (by simp);have hne:fs[k]≠fs'[k]→fs≠fs':=fun h e=>h (by subst e;rfl)
     have hneH:=Lib.hid hne;have htk:=Lib.hid fun he=>take_eq_snoc hk1 hk2 htH.out he
     have hle:fs'.length=fs.length:=hlH.out.symm;have hlen':=Lib.hid hle;clear a1 a2 a1' a2' hne hle;generalize fs[k]=f at*;generalize fs'[k]=f' at*;obtain⟨f1,f2⟩:=f;obtain⟨f1',f2'⟩:=f';have bad:¬(f1=f1'∧f2=f2')→q=false:=fun hb=>by
      have h1:=hqH.out;rw[decide_eq_false (fun hx=>hneH.out (fun e=>hb (by cases e;exact⟨rfl,rfl⟩)) hx.2)]at h1;exact h1.symm
     have badH:=Lib.hid bad;clear bad hneH;rw[hlen'.out]at*;clear hlen';by_cases e1:f1=f1'
     ·subst e1;by_cases e2:f2=f2'
      ·subst e2;have z1:(f1==f1)=true:=by simp
       have z2:(f2==f2)=true:=by simp
       clear badH;go_wp2_with fail;refine wp_region_pure (by kernel_rfl) (by kernel_rfl) ?_;refine stage_quiet 11 (by kernel_rfl) ?_;simp only[tA,tB,tC,tD];(repeat go_big_quiet_step (fail));refine wpQuiet_nil ?_;refine stage_nil fun w7 hm7=> ?_
       clear k1 k2 k3 k4 k5 k6;go_wp2_with fail;go_roundw
       case rel=>exact⟨k+1,by omega,by go_num,hm.nil_then hm7,htk.out (by first|trivial|rfl)⟩
       case measure=>simp[intOf];omega
      ·have z1:(f1==f1)=true:=by simp
       have z2:(f2==f2')=false:=by simp only[beq_eq_false_iff_ne];exact e2
       have hb:=badH.out (fun h=>e2 h.2);clear badH e2;subst hb;go_wp2_with fail;refine wp_region_pure (by kernel_rfl) (by kernel_rfl) ?_;refine stage_quiet 11 (by kernel_rfl) ?_;simp only[tA,tB,tC,tD];(repeat go_big_quiet_step (fail));refine wpQuiet_nil ?_;refine stage_nil fun w7 hm7=> ?_
       clear k1 k2 k3 k4 k5 k6;go_wp2_with fail;go_ret;exact⟨rfl,hmw.nil_then hm7⟩
     ·have z1:(f1==f1')=false:=by simp only[beq_eq_false_iff_ne];exact e1
      have hb:=badH.out (fun h=>e1 h.1);clear badH e1;subst hb;go_wp2_with fail;refine wp_region_pure (by kernel_rfl) (by kernel_rfl) ?_;refine stage_quiet 11 (by kernel_rfl) ?_;simp only[tA,tB,tC,tD];(repeat go_big_quiet_step (fail));refine wpQuiet_nil ?_;refine stage_nil fun w7 hm7=> ?_
      clear k1 k2 k3 k4 k5 k6;go_wp2_with fail;go_ret;exact⟨rfl,hmw.nil_then hm7⟩
    ·have hb:q=true:=by
      rw[←hqH.out,decide_eq_true_eq];have h1:=htH.out;rw[List.take_of_length_le (by omega),List.take_of_length_le (by have:=hlH.out;omega)]at h1;exact⟨by first|trivial|rfl,h1⟩
     subst hb;go_wp2_with fail;go_ret;exact⟨rfl,hmw⟩
  ·have hb:q=false:=by
    rw[←hqH.out,decide_eq_false_iff_not];exact fun e=>hl (by rw[e.2])
   subst hb;have z1:((fs.length:Int)==(fs'.length:Int))=false:=by simp only[beq_eq_false_iff_ne];omega
   clear hl;go_enter Tryz.func32,Tryz.ntmps32;go_wp2_with fail;go_ret;exact⟨rfl,hm0⟩
 ·have hb:q=false:=by
   rw[←hqH.out,decide_eq_false_iff_not];exact fun e=>he e.1
  subst hb;have z1:(len==len')=false:=by simp only[beq_eq_false_iff_ne];exact he
  clear he;go_enter Tryz.func32,Tryz.ntmps32;go_wp2_with fail;go_ret;exact⟨rfl,hm0⟩
end Go.Proofs.YteidpgdfocjdbaaGreat.Ty
