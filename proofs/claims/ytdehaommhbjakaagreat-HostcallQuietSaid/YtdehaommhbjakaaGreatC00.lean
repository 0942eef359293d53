/- Joined contracts. No conditions. -/
import Derived.Test.YtdehaommhbjakaaGreatRows
import Derived.BigQuiet
import Derived.WalkKit
import Derived.Test.YtdehaommhbjakaaGreatCS
namespace Go.Proofs.YtdehaommhbjakaaGreat
open Go
def zi:List Char:=[Char.ofNat 104,Char.ofNat 97,Char.ofNat 114,Char.ofNat 110,Char.ofNat 101,Char.ofNat 115,Char.ofNat 115]
def za:List Char:=[Char.ofNat 57,Char.ofNat 97,Char.ofNat 52,Char.ofNat 55,Char.ofNat 54,Char.ofNat 99,Char.ofNat 97,Char.ofNat 57,Char.ofNat 99,Char.ofNat 50,Char.ofNat 56,Char.ofNat 52,Char.ofNat 57,Char.ofNat 100,Char.ofNat 52,Char.ofNat 57,Char.ofNat 50,Char.ofNat 97,Char.ofNat 53,Char.ofNat 53,Char.ofNat 101,Char.ofNat 51,Char.ofNat 52,Char.ofNat 100,Char.ofNat 57,Char.ofNat 56,Char.ofNat 57,Char.ofNat 99,Char.ofNat 101,Char.ofNat 100,Char.ofNat 101,Char.ofNat 50,Char.ofNat 54,Char.ofNat 97,Char.ofNat 54,Char.ofNat 57,Char.ofNat 56,Char.ofNat 99,Char.ofNat 54,Char.ofNat 48,Char.ofNat 52,Char.ofNat 53,Char.ofNat 54,Char.ofNat 55,Char.ofNat 101,Char.ofNat 54,Char.ofNat 101,Char.ofNat 52,Char.ofNat 51,Char.ofNat 50,Char.ofNat 48,Char.ofNat 100,Char.ofNat 52,Char.ofNat 100,Char.ofNat 49,Char.ofNat 98,Char.ofNat 51,Char.ofNat 97,Char.ofNat 52,Char.ofNat 57,Char.ofNat 55,Char.ofNat 101,Char.ofNat 48,Char.ofNat 102]
def jO:List Char:=[Char.ofNat 99,Char.ofNat 117,Char.ofNat 116]
def GP:List Char:=[Char.ofNat 97,Char.ofNat 116,Char.ofNat 32,Char.ofNat 112,Char.ofNat 108,Char.ofNat 117,Char.ofNat 103,Char.ofNat 105,Char.ofNat 110,Char.ofNat 104,Char.ofNat 111,Char.ofNat 115,Char.ofNat 116,Char.ofNat 47,Char.ofNat 112,Char.ofNat 108,Char.ofNat 117,Char.ofNat 103,Char.ofNat 105,Char.ofNat 110,Char.ofNat 104,Char.ofNat 111,Char.ofNat 115,Char.ofNat 116,Char.ofNat 108,Char.ofNat 97,Char.ofNat 119,Char.ofNat 50,Char.ofNat 52,Char.ofNat 46,Char.ofNat 72,Char.ofNat 111,Char.ofNat 115,Char.ofNat 116,Char.ofNat 99,Char.ofNat 97,Char.ofNat 108,Char.ofNat 108,Char.ofNat 81,Char.ofNat 117,Char.ofNat 105,Char.ofNat 101,Char.ofNat 116]
def qC:List Char:=GP
def tO:List Char:=zi++Char.ofNat 32::(za++Char.ofNat 32::(jO++Char.ofNat 32::qC))
theorem Gg:Tryz.prog.initOrder=String.ofList tO:=by kernel_rfl
theorem De:Tryz.prog.initOrder.toList=tO:=by rw[Gg,String.toList_ofList]
theorem pN:∀(w r:List Char),(∀c∈w,c≠Char.ofNat 32)→wordsSigns (w++Char.ofNat 32::r)=w::wordsSigns r
 | [],r,_=>rfl
 |c::w,r,h=>by
  have ih:=pN w r fun x hx=>h x (List.mem_cons_of_mem _ hx)
  rw[List.cons_append,wordsSigns,ih];exact h c (by simp)
theorem Bk:wordsSigns Tryz.prog.initOrder.toList=zi::za::jO::wordsSigns qC:=by
 rw[De];unfold tO;rw[pN _ _ (by decide),pN _ _ (by decide),pN _ _ (by decide)]
theorem py:behindMainWord (wordsSigns Tryz.prog.initOrder.toList)=jO::wordsSigns qC:=by
 rw[Bk];generalize wordsSigns qC=X;kernel_rfl
theorem ve (X:List (List Char)):stripLifts liftWords (jO::X)=([],jO::X):=by kernel_rfl
theorem Bh:Tryz.prog.laysLater=false:=by
 unfold Program.laysLater;rw[←Array.any_toList];kernel_rfl
theorem Ah:Tryz.prog.bearsReflect=false:=by kernel_rfl
theorem CW:Tryz.prog.doorFits []=true:=by kernel_rfl
theorem yu:(jO== "gc".toList)=false:=by kernel_rfl
theorem wB:(jO== "spec".toList)=false:=by kernel_rfl
theorem Ai:(jO== "carried".toList)=false:=by kernel_rfl
theorem Fb:(jO== "cut".toList)=true:=by kernel_rfl
theorem DB:(some jO==some "cut".toList)=true:=by kernel_rfl
theorem zX:(some jO==some "carried".toList)=false:=by kernel_rfl
theorem ES (P:Program) {w:List Char} {X:List (List Char)} (h:behindMainWord (wordsSigns P.initOrder.toList)=w::X) (hs:stripLifts liftWords (w::X)=([],w::X)) (h1:P.laysLater=false) (h2:P.bearsReflect=false) (h3:P.doorFits []=true)
  (g1:(w== "gc".toList)=false) (g2:(w== "spec".toList)=false) (g3:(w== "carried".toList)=false) (g4:(some w==some "cut".toList)=true):P.mayEnter=true:=by
 unfold Program.mayEnter;rw[h];simp only[hs,h1,h2,h3,g1,g2,g3,g4,List.head?_cons];rfl
theorem Ez (P:Program) {w:List Char} {X:List (List Char)} (h:behindMainWord (wordsSigns P.initOrder.toList)=w::X) (hs:stripLifts liftWords (w::X)=([],w::X)):P.headLifts=[]:=by
 unfold Program.headLifts;rw[h];simp only[hs];split<;>rfl
theorem Ec (P:Program) {w:List Char} {X:List (List Char)} (h:behindMainWord (wordsSigns P.initOrder.toList)=w::X) (hl:P.headLifts=[]) (g:(some w==some "carried".toList)=false):P.liftsFinal=false:=by
 unfold Program.liftsFinal;rw[h,hl];simp only[List.head?_cons,g];rfl
theorem F1 (P:Program) {w:List Char} {X:List (List Char)} (h:behindMainWord (wordsSigns P.initOrder.toList)=w::X) (g1:(w== "gc".toList)=false) (g2:(w== "spec".toList)=false) (g3:(w== "cut".toList)=true):P.make=some .cut:=by
 unfold Program.make;rw[h];simp only[g1,g2,g3];rfl
theorem A4:Tryz.prog.mayEnter=true:=ES Tryz.prog py (ve _) Bh Ah CW yu wB Ai DB
theorem Ca:Tryz.prog.headLifts=[]:=Ez Tryz.prog py (ve _)
theorem BX:Tryz.prog.liftsFinal=false:=Ec Tryz.prog py Ca zX
theorem Dt:Tryz.prog.make=some .cut:=F1 Tryz.prog py yu wB Fb
end Go.Proofs.YtdehaommhbjakaaGreat
namespace Go
namespace Stg
def aY (o:Oper):Bool:=
 match o.op with
 | .move _| .assign _| .pick .. | .load .. | .nilCheck _| .binOp .. | .unOp .. | .convert .. | .fieldAddr .. | .field .. | .indexAddr .. | .index .. | .lookup ..
 | .build .. | .extract .. | .slice .. =>false
 | .call c=>match c.callee with
  | .builtin b=>match b with
   | .len| .cap=>false
   |_=>true
  |_=>true
 |_=>true
section
variable {P:Program} {ops:Array Oper} {md:Region.Mode} {I:World→Prop} {fin:Nat}
def gives (P:Program) (o:Oper) (a:Act) (w:World) (Out:Prop) (R:Value→World→Prop):Prop:=
 match(execOp a.eval o).run P w with
 | .ok (.value v) w'=>R v w'
 | .ok .skip w'=>R undef w'
 | .ok (.enter f args) w'=>Calls P f args w' fun e w''=>match e with
  | .returned v=>R v w''
  | .panicked _=>False
  | .outgrown=>Out
 |_=>False
def dx (P:Program) (o:Oper) (a:Act) (w:World) (v:Value):Prop:=
 match(execOp a.eval o).run P w with
 | .ok (.value u) w'=>w'=w∧u=v
 | .ok .skip w'=>w'=w∧v=undef
 |_=>False
theorem rp {o:Oper} {a:Act} {w:World} {u v:Value} (h:dx P o a w u) (k:dx P o a w v):u=v:=by
 unfold dx at h k;generalize(execOp a.eval o).run P w=r at*
 cases r with
 |ok n w'=>
  cases n<;>simp only[]at h k
  case value x=>exact h.2.symm.trans k.2
  case skip=>exact h.2.trans k.2.symm
 |halt x w'=>simp only[]at h
def eU (o:Oper):Bool:=match o.op with
 | .move _| .extract .. =>true
 |_=>false
theorem x9 {o:Oper} {a:Act} {w w':World} {v:Value} (hf:eU o=true) (h:dx P o a w v):dx P o a w' v:=by
 obtain⟨dst,op,type,pos,after,guard⟩:=o;cases op<;>simp[eU]at hf
 case move x=>simpa[dx,execOp]using h
 case extract t ix=>
  unfold dx at*;simp only[execOp,Instr.extract]at*;cases ht:a.eval t<;>rw[ht]at h<;>try (simp[stuck]at h;done)
  rename_i vs;simp only at h⊢
  cases hx:vs[ix]? with
  |some u=>rw[hx]at h;simpa using h
  |none=>rw[hx]at h;simp[stuck]at h
theorem qg {o:Oper} {a:Act} {v:Value} {w0:World} (hw0:I w0) (g:∀w,I w→dx P o a w v):∀w,(eU o=true∨I w)→dx P o a w v:=
 fun w hw'=>hw'.elim (fun hf=>x9 hf (g w0 hw0)) (g w)
def dT (P:Program) (ops:Array Oper) (I:World→Prop) (fin:Nat) (Out:Prop) (i:Nat) (K:(World→Prop)→Act→Prop) (C:World→Prop) (a:Act):Prop:=
 match ops[i]? with
 |none=>K C a
 |some o=>
  if Region.wanted o (yielded ops a.tmps)then
   (if aY o then∃(V:Value→Prop) (R:Value→World→Prop),(∃v,V v)∧(∀w,C w→gives P o a w Out R)∧(∀v w,R v w→V v∧(i=fin∨I w))∧∀v,V v→K (R v) (a.put o.dst v)
    else∃v,(∀w,(eU o=true∨I w)→dx P o a w v)∧K C (a.put o.dst v))
  else K C (a.put o.dst undef)
def dZ (P:Program) (md:Region.Mode) (ops:Array Oper) (I:World→Prop) (fin:Nat) (Out:Prop) (Q:Act→World→Prop):Nat→Array Bool→(World→Prop)→Act→Prop
 |0,listed,C,a=>Region.ready md ops listed=[]∧∀w,C w→Q a w
 |fuel+1,listed,C,a=>
  (Region.ready md ops listed=[]→∀w,C w→Q a w)∧
  ∀i∈Region.ready md ops listed,dT P ops I fin Out i (dZ P md ops I fin Out Q fuel (listed.setIfInBounds i true)) C a
theorem ED {Out:Prop} {i:Nat} {K K':(World→Prop)→Act→Prop} (h:∀C a,K C a→K' C a) {C:World→Prop} {a:Act} (hh:dT P ops I fin Out i K C a):
  dT P ops I fin Out i K' C a:=by
 unfold dT at*;split
 ·rename_i ho;simp only[ho]at hh;exact h _ _ hh
 ·rename_i o ho;simp only[ho]at hh;split
  ·rename_i hw;simp only[hw,if_true]at hh;split
   ·rename_i he;simp only[he,if_true]at hh;obtain⟨V,R,h0,h1,h2,h3⟩:=hh;exact⟨V,R,h0,h1,h2,fun v hv=>h _ _ (h3 v hv)⟩
   ·rename_i he;simp only[he,if_false,Bool.false_eq_true]at hh;obtain⟨v,h1,h2⟩:=hh;exact⟨v,h1,h _ _ h2⟩
  ·rename_i hw;simp only[hw,if_false,Bool.false_eq_true]at hh;exact h _ _ hh
theorem zP {Q':Exit→Act→World→Prop} {o:Oper} {a:Act} {w:World} {R:Value→World→Prop} {K:Act→World→Prop}
  (h:gives P o a w (LetsOut Q') R) (hk:∀v w',R v w'→K (a.put o.dst v) w'):o.wp P a w K Q':=by
 unfold gives at h;unfold Oper.wp;generalize(execOp a.eval o).run P w=r at*
 cases r with
 |ok n w'=>
  cases n<;>simp only[]at h<;>simp only[Oper.upon]
  case value v=>exact hk _ _ h
  case skip=>exact hk _ _ h
  case enter f args=>
   refine h.mono fun e w'' he=> ?_
   cases e with
   |returned v=>exact hk _ _ he
   |panicked c=>exact he.elim
   |outgrown=>exact he
 |halt x w'=>simp only[]at h
theorem zS {Q':Exit→Act→World→Prop} {o:Oper} {a:Act} {w:World} {v:Value} {K:Act→World→Prop}
  (h:dx P o a w v) (hk:K (a.put o.dst v) w):o.wp P a w K Q':=by
 unfold dx at h;unfold Oper.wp;generalize(execOp a.eval o).run P w=r at*
 cases r with
 |ok n w'=>
  cases n<;>simp only[]at h<;>simp only[Oper.upon]
  case value u=>obtain⟨rfl,rfl⟩:=h;exact hk
  case skip=>obtain⟨rfl,rfl⟩:=h;exact hk
 |halt x w'=>simp only[]at h
def closed (md:Region.Mode) (ops:Array Oper) (listed:Array Bool):Prop:=
 ∀j oj,ops[j]? =some oj→listed.getD j false=true→∀e∈oj.after,Region.binds md e=true→listed.getD e.on false=true
theorem closed.set {listed:Array Bool} (h:closed md ops listed) {i:Nat} (hi:i∈Region.ready md ops listed):closed md ops (listed.setIfInBounds i true):=by
 obtain⟨_,oi,hoi,hall⟩:=mem_ready.1 hi;intro j oj hj hl e he hb;by_cases hij:i=j
 ·subst hij;have:oj=oi:=Option.some.inj (hj.symm.trans hoi);subst this;exact getD_set_true (hall e he hb)
 ·rw[getD_set_ne false hij]at hl;exact getD_set_true (h j oj hj hl e he hb)
def forced (md:Region.Mode) (ops:Array Oper) (j i:Nat):Prop:=
 ∀listed:Array Bool,closed md ops listed→(∀oj,ops[j]? =some oj→∀e∈oj.after,Region.binds md e=true→listed.getD e.on false=true)→listed.getD i false=true
theorem EN (hfin:fin<ops.size→∀i oi,ops[i]? =some oi→i≠fin→eU oi=false→forced md ops fin i) {listed:Array Bool} (hcl:closed md ops listed) (hr:fin∈Region.ready md ops listed):
  ∀i oi,ops[i]? =some oi→(listed.setIfInBounds fin true).getD i true=false→eU oi=true:=by
 obtain⟨hun,oi,hoi,hall⟩:=mem_ready.1 hr;have hlt:=(Array.getElem?_eq_some_iff.1 hoi).1;have hlt0:fin<listed.size:=by
  rcases Nat.lt_or_ge fin listed.size with h'|h'
  ·exact h'
  ·simp[Array.getElem?_eq_none h']at hun
 intro j oj hoj hjun;by_cases hjf:j=fin
 ·subst hjf;simp[hlt0]at hjun
 ·cases hfr:eU oj with
  |true=>rfl
  |false=>
   have:=hfin hlt j oj hoj hjf hfr listed hcl (fun o ho e he hb=>by
    have:o=oi:=Option.some.inj (ho.symm.trans hoi);subst this;exact hall e he hb)
   rw[getD_set_ne true (Ne.symm hjf)]at hjun;rcases Nat.lt_or_ge j listed.size with h'|h'
   ·simp[h']at this hjun;rw[this]at hjun;cases hjun
   ·simp[Array.getElem?_eq_none h']at this
theorem l0 {Q:Act→World→Prop} {Q':Exit→Act→World→Prop} (hQ:∀a w,Q a w→Q' .normal a w) (hfin:fin<ops.size→∀i oi,ops[i]? =some oi→i≠fin→eU oi=false→forced md ops fin i):
  ∀(fuel:Nat) (listed:Array Bool) (C:World→Prop) (a:Act) (w:World),closed md ops listed→((∀i oi,ops[i]? =some oi→listed.getD i true=false→eU oi=true)∨∀w,C w→I w)→C w→
   dZ P md ops I fin (LetsOut Q') Q fuel listed C a→wpAny P md ops Q' fuel listed a w
 |0,_,_,_,_,_,_,hw,h=>⟨h.1,hQ _ _ (h.2 _ hw)⟩
 |fuel+1,listed,C,a,w,hcl,hCI0,hw,h=>by
  refine⟨fun h0=>hQ _ _ (h.1 h0 _ hw),fun i hi=> ?_⟩;have hun':∀j oj,ops[j]? =some oj→(listed.setIfInBounds i true).getD j true=false→listed.getD j true=false:=fun j oj _ h=>by
   by_cases hij:i=j
   ·subst hij;rcases Nat.lt_or_ge i listed.size with h'|h'
    ·simp[h']at h
    ·rw[Array.setIfInBounds_eq_of_size_le h']at h;exact h
   ·rwa [getD_set_ne true hij]at h
  have hnext:(∀j oj,ops[j]? =some oj→(listed.setIfInBounds i true).getD j true=false→eU oj=true)∨∀w,C w→I w:=hCI0.imp (fun h j oj hj hu=>h j oj hj (hun' j oj hj hu)) id;have hiu:=(mem_ready.1 hi).1;have hcl':=hcl.set hi;have h2:=h.2 i hi;unfold dT at h2;unfold wpOp;split
  ·rename_i ho;simp only[ho]at h2;exact l0 hQ hfin fuel _ _ _ _ hcl' hnext hw h2
  ·rename_i o ho;simp only[ho]at h2;split
   ·rename_i hwant;simp only[hwant,if_true]at h2;left;split at h2
    ·obtain⟨V,R,_,h3,h4,h5⟩:=h2;refine zP (h3 w hw) fun v w' hr=>l0 hQ hfin fuel _ _ _ _ hcl' ?_ hr (h5 v (h4 v w' hr).1)
     by_cases hn:i=fin
     ·subst hn;exact .inl (EN hfin hcl hi)
     ·exact .inr fun w hr=>(h4 v w hr).2.resolve_left hn
    ·obtain⟨v,h3,h4⟩:=h2;exact zS (h3 w (hCI0.imp (fun h=>h i o ho hiu) (fun h=>h w hw))) (l0 hQ hfin fuel _ _ _ _ hcl' hnext hw h4)
   ·rename_i hwant;simp only[hwant,if_false,Bool.false_eq_true]at h2;exact l0 hQ hfin fuel _ _ _ _ hcl' hnext hw h2
def ji (P:Program) (ops:Array Oper) (I:World→Prop) (o:Oper) (v:Value) (a:Act):Prop:=
 (Region.wanted o (yielded ops a.tmps)=true∧aY o=false∧∀w,(eU o=true∨I w)→dx P o a w v)∨
 (Region.wanted o (yielded ops a.tmps)=false∧v=undef)
theorem ji.dT {Out:Prop} {i:Nat} {o:Oper} {v:Value} {a:Act} {C:World→Prop} (hi:ops[i]? =some o) (hy:ji P ops I o v a) {K:(World→Prop)→Act→Prop} (h:K C (a.put o.dst v)):
  dT P ops I fin Out i K C a:=by
 unfold Stg.dT;simp only[hi];rcases hy with⟨hw,he,hv⟩|⟨hw,rfl⟩
 ·simp only[hw,he,if_true,if_false,Bool.false_eq_true];exact⟨v,hv,h⟩
 ·simp only[hw,Bool.false_eq_true,if_false];exact h
theorem ji.of_same {o:Oper} {v:Value} {a a':Act} (hy:ji P ops I o v a) (he:execOp a'.eval o=execOp a.eval o)
  (hw:Region.wanted o (yielded ops a'.tmps)=Region.wanted o (yielded ops a.tmps)):ji P ops I o v a':=by
 unfold ji dx at*;rw[he,hw];exact hy
theorem F2 {Out:Prop} {j:Nat} {oi oj:Oper} {v:Value} (hj:ops[j]? =some oj) (hap:oi.apart ops oj=true)
  (hsi:∀cs b,oi.op≠ .select cs b) (hsj:∀cs b,oj.op≠ .select cs b) {K:(World→Prop)→Act→Prop} {C:World→Prop} {a:Act}
  (hy:ji P ops I oi v a) (h:dT P ops I fin Out j K C (a.put oi.dst v)):
  dT P ops I fin Out j (fun C' a'=>ji P ops I oi v a'∧K C' (a'.put oi.dst v)) C a:=by
 obtain⟨h1,h2,h3⟩:=Oper.apart_spec hap;have bj:∀(a:Act),ji P ops I oi v a→∀u,ji P ops I oi v (a.put oj.dst u):=fun a hy u=>
  hy.of_same (execOp_put oi hsi a oj.dst u h3) (wanted_put oi a oj.dst u h3)
 have hex:=execOp_put (ops:=ops) oj hsj a oi.dst v h1;unfold dT at*;simp only[hj]at*;rw[wanted_put oj a oi.dst v h1]at h;split
 ·rename_i hw;simp only[hw,if_true]at h;split
  ·rename_i he;simp only[he,if_true]at h;obtain⟨V,R,g0,g1,g2,g3⟩:=h;refine⟨V,R,g0,fun w hw'=> ?_,g2,fun u hu=>⟨bj a hy u,by rw[←Act.put_comm a v u h2];exact g3 u hu⟩⟩;have:=g1 w hw';unfold gives at*
   rwa [hex]at this
  ·rename_i he;simp only[he,if_false,Bool.false_eq_true]at h;obtain⟨u,g1,g2⟩:=h;refine⟨u,fun w hw'=> ?_,bj a hy u,by rw[←Act.put_comm a v u h2];exact g2⟩;have:=g1 w hw';unfold dx at*
   rwa [hex]at this
 ·rename_i hw;simp only[hw,if_false,Bool.false_eq_true]at h;exact⟨bj a hy _,by rw[←Act.put_comm a v undef h2];exact h⟩
theorem rh {Out:Prop} {Q:Act→World→Prop} {i:Nat} {oi:Oper} {v:Value} (hi:ops[i]? =some oi) (hsel:∀(j:Nat) (o:Oper) cs b,ops[j]? =some o→o.op≠ .select cs b):
  ∀(fuel:Nat) (listed:Array Bool) (C:World→Prop) (a:Act),closed md ops listed→
   (∀j oj,ops[j]? =some oj→j≠i→listed.getD j true=false→(∀e∈oj.after,Region.binds md e=true→e.on≠i)→oi.apart ops oj=true)→
   i∈Region.ready md ops listed→ji P ops I oi v a→
   dZ P md ops I fin Out Q fuel (listed.setIfInBounds i true) C (a.put oi.dst v)→dZ P md ops I fin Out Q (fuel+1) listed C a:=by
 intro fuel;induction fuel with
 |zero=>
  intro listed C a _ _ hr hy H;refine⟨fun h=>(by rw[h]at hr;cases hr),fun j hj=> ?_⟩;by_cases hji:j=i
  ·subst hji;exact hy.dT hi H
  ·have:=ready_mono hj hji;rw[H.1]at this;cases this
 |succ fuel ih=>
  intro listed C a hcl hfree hr hy H;refine⟨fun h=>(by rw[h]at hr;cases hr),fun j hj=> ?_⟩;by_cases hji:j=i
  ·subst hji;exact hy.dT hi H
  ·have h1:=H.2 j (ready_mono hj hji);obtain⟨hjun,oj,hoj,hall⟩:=mem_ready.1 hj;have hnot:∀e∈oj.after,Region.binds md e=true→e.on≠i:=fun e he hb heq=>by
    have h1:=hall e he hb;have h0:=(mem_ready.1 hr).1;rw[heq]at h1;rcases Nat.lt_or_ge i listed.size with h'|h'
    ·simp[h']at h0 h1;rw[h0]at h1;cases h1
    ·simp[Array.getElem?_eq_none h']at h1
   have h2:=F2 hoj (hfree j oj hoj hji hjun hnot) (fun cs b=>hsel i oi cs b hi) (fun cs b=>hsel j oj cs b hoj) hy h1;have hfree':∀k ok,ops[k]? =some ok→k≠i→(listed.setIfInBounds j true).getD k true=false→
     (∀e∈ok.after,Region.binds md e=true→e.on≠i)→oi.apart ops ok=true:=fun k ok hk hki hun hno=>by
    refine hfree k ok hk hki ?_ hno;by_cases hjk:j=k
    ·subst hjk;exact hjun
    ·rw[getD_set_ne true hjk]at hun;exact hun
   refine ED (fun C' a' h3=>ih (listed.setIfInBounds j true) C' a' (hcl.set hj) hfree' (ready_mono hr (Ne.symm hji)) h3.1 ?_) h2;rw[Array.setIfInBounds_comm _ _ hji];exact h3.2
theorem mO {Out:Prop} {Q:Act→World→Prop} {i:Nat} {oi:Oper} {v:Value} (hi:ops[i]? =some oi) (hsel:∀(j:Nat) (o:Oper) cs b,ops[j]? =some o→o.op≠ .select cs b)
  (fuel:Nat) (listed:Array Bool) (C:World→Prop) (a:Act) (hcl:closed md ops listed) (_:∀w,C w→I w)
  (hfree:∀j oj,ops[j]? =some oj→j≠i→listed.getD j true=false→(∀e∈oj.after,Region.binds md e=true→e.on≠i)→oi.apart ops oj=true)
  (hr:i∈Region.ready md ops listed) (hy:ji P ops I oi v a)
  (H:dZ P md ops I fin Out Q fuel (listed.setIfInBounds i true) C (a.put oi.dst v)):dZ P md ops I fin Out Q (fuel+1) listed C a:=
 rh hi hsel fuel listed C a hcl hfree hr hy H
theorem zJ {Out:Prop} {Q:Act→World→Prop} {i:Nat} {oi:Oper} (hi:ops[i]? =some oi) (hsel:∀(j:Nat) (o:Oper) cs b,ops[j]? =some o→o.op≠ .select cs b)
  (heff:aY oi=true) (hsolo:∀j oj,ops[j]? =some oj→j≠i→aY oj=true→i<j→forced md ops j i) (w0:World) (hw0:I w0) (V:Value→Prop) (R:Value→World→Prop) (hV:∃v,V v) (hRI:∀v w,R v w→V v∧(i=fin∨I w)) (C:World→Prop):
  ∀(fuel:Nat) (listed:Array Bool) (a:Act),closed md ops listed→(∀j,j<i→listed.getD j true=true)→
   (∀j oj,ops[j]? =some oj→j≠i→listed.getD j true=false→(∀e∈oj.after,Region.binds md e=true→e.on≠i)→oi.apart ops oj=true)→
   i∈Region.ready md ops listed→Region.wanted oi (yielded ops a.tmps)=true→(∀w,C w→gives P oi a w Out R)→
   (∀v,V v→dZ P md ops I fin Out Q fuel (listed.setIfInBounds i true) (R v) (a.put oi.dst v))→dZ P md ops I fin Out Q (fuel+1) listed C a:=by
 intro fuel;induction fuel with
 |zero=>
  intro listed a _ _ _ hr hw hg H;refine⟨fun h=>(by rw[h]at hr;cases hr),fun j hj=> ?_⟩;by_cases hji:j=i
  ·subst hji;unfold dT;simp only[hi,hw,heff,if_true];exact⟨V,R,hV,hg,hRI,H⟩
  ·have:=ready_mono hj hji;rw[(H _ hV.choose_spec).1]at this;cases this
 |succ fuel ih=>
  intro listed a hcl hlow hfree hr hw hg H;refine⟨fun h=>(by rw[h]at hr;cases hr),fun j hj=> ?_⟩;by_cases hji:j=i
  ·subst hji;unfold dT;simp only[hi,hw,heff,if_true];exact⟨V,R,hV,hg,hRI,H⟩
  ·obtain⟨hjun,oj,hoj,hall⟩:=mem_ready.1 hj;have hiun:=(mem_ready.1 hr).1;have hifalse:listed.getD i false=false:=by
    rcases Nat.lt_or_ge i listed.size with h'|h'
    ·simp[h']at hiun⊢;exact hiun
    ·simp[Array.getElem?_eq_none h']
   have hij:i<j:=by
    rcases Nat.lt_trichotomy j i with h|h|h
    ·rw[hlow j h]at hjun;cases hjun
    ·exact absurd h hji
    ·exact h
   have hje:aY oj=false:=by
    cases h:aY oj with
    |false=>rfl
    |true=>
     have:=hsolo j oj hoj hji h hij listed hcl (fun o ho e he hb=>by
      have:o=oj:=Option.some.inj (ho.symm.trans hoj);subst this;exact hall e he hb)
     rw[hifalse]at this;cases this
   have hnot:∀e∈oj.after,Region.binds md e=true→e.on≠i:=fun e he hb heq=>by
    have h1:=hall e he hb;rw[heq,hifalse]at h1;cases h1
   have hap:=hfree j oj hoj hji hjun hnot;obtain⟨h1,h2,h3⟩:=Oper.apart_spec hap;have hsi:=fun cs b=>hsel i oi cs b hi
   have hsj:=fun cs b=>hsel j oj cs b hoj
   have hfree':∀k ok,ops[k]? =some ok→k≠i→(listed.setIfInBounds j true).getD k true=false→
     (∀e∈ok.after,Region.binds md e=true→e.on≠i)→oi.apart ops ok=true:=fun k ok hk hki hun hno=>by
    refine hfree k ok hk hki ?_ hno;by_cases hjk:j=k
    ·subst hjk;exact hjun
    ·rw[getD_set_ne true hjk]at hun;exact hun
   have hlow':∀k,k<i→(listed.setIfInBounds j true).getD k true=true:=fun k hk=>by
    rw[getD_set_ne true (by omega)];exact hlow k hk
   have next:∀u,(∀v,V v→dZ P md ops I fin Out Q fuel ((listed.setIfInBounds i true).setIfInBounds j true) (R v) ((a.put oi.dst v).put oj.dst u))→
     dZ P md ops I fin Out Q (fuel+1) (listed.setIfInBounds j true) C (a.put oj.dst u):=fun u hu=>by
    refine ih (listed.setIfInBounds j true) (a.put oj.dst u) (hcl.set hj) hlow' hfree' (ready_mono hr (Ne.symm hji)) (by rw[wanted_put oi a oj.dst u h3];exact hw) ?_ ?_
    ·intro w hC;have:=hg w hC;unfold gives at*
     rwa [execOp_put oi hsi a oj.dst u h3]
    ·intro v hv;rw[Array.setIfInBounds_comm _ _ hji, ←Act.put_comm a v u h2];exact hu v hv
   unfold dT;simp only[hoj,hje,if_false,Bool.false_eq_true];have each:∀v,V v→dT P ops I fin Out j (dZ P md ops I fin Out Q fuel ((listed.setIfInBounds i true).setIfInBounds j true)) (R v) (a.put oi.dst v):=fun v hv=>(H v hv).2 j (ready_mono hj hji)
   unfold dT at each;simp only[hoj,hje,if_false,Bool.false_eq_true]at each;cases hwj:Region.wanted oj (yielded ops a.tmps)with
   |true=>
    simp only[if_true];have e2:∀v,V v→∃u,(∀w,(eU oj=true∨I w)→dx P oj a w u)∧dZ P md ops I fin Out Q fuel ((listed.setIfInBounds i true).setIfInBounds j true) (R v) ((a.put oi.dst v).put oj.dst u):=fun v hv=>by
     have:=each v hv;rw[wanted_put oj a oi.dst v h1,hwj]at this;simp only[if_true]at this;obtain⟨u,k1,k2⟩:=this;refine⟨u,fun w hw'=> ?_,k2⟩;have:=k1 w hw';unfold dx at*
     rwa [execOp_put oj hsj a oi.dst v h1]at this
    obtain⟨u,k1,_⟩:=e2 _ hV.choose_spec;refine⟨u,k1,next u fun v hv=> ?_⟩;obtain⟨u',k1',k2'⟩:=e2 v hv;have:u'=u:=rp (k1' w0 (.inr hw0)) (k1 w0 (.inr hw0));subst this;exact k2'
   |false=>
    simp only[Bool.false_eq_true,if_false];refine next undef fun v hv=> ?_
    have:=each v hv;rw[wanted_put oj a oi.dst v h1,hwj]at this;simpa using this
def qz (md:Region.Mode) (acc:List Nat) (o:Oper):Nat:=
 o.after.toList.foldl (fun s e=>if Region.binds md e then s|||2^e.on|||acc.getD e.on 0 else s) 0
def iZ (md:Region.Mode):List Oper→List Nat→List Nat
 | [],acc=>acc
 |o::rest,acc=>iZ md rest (acc++[qz md acc o])
def sx (ms:List Nat) (l:List (Oper×Nat)):Bool:=
 l.all fun x=>l.all fun y=> !(aY x.1)|| !(aY y.1)|| !(decide (x.2<y.2))||(ms.getD y.2 0).testBit x.2
def oR (md:Region.Mode) (ops:Array Oper):Bool:=
 Region.lexB md ops&&sx (iZ md ops.toList []) ops.toList.zipIdx
theorem AO {acc:List Nat} {o:Oper} {n:Nat} (hacc:∀j i,j<acc.length→(acc.getD j 0).testBit i=true→forced md ops j i) (hj:ops[n]? =some o) {i:Nat} (h:(qz md acc o).testBit i=true):forced md ops n i:=by
 unfold qz at h;have key:∀(l:List Edge) (s:Nat),(∀e∈l,e∈o.after)→(s.testBit i=true→forced md ops n i)→
   (l.foldl (fun s e=>if Region.binds md e then s|||2^e.on|||acc.getD e.on 0 else s) s).testBit i=true→forced md ops n i:=by
  intro l;induction l with
  |nil=>intro s _ hs h;exact hs h
  |cons e l ih=>
   intro s hm hs h;simp only[List.foldl_cons]at h;refine ih _ (fun x hx=>hm x (List.mem_cons_of_mem _ hx)) ?_ h;intro h2;split at h2
   ·rename_i hb;rw[Nat.testBit_or,Nat.testBit_or,Nat.testBit_two_pow]at h2;simp only[Bool.or_eq_true,decide_eq_true_eq]at h2;rcases h2 with(h2|h2)|h2
    ·exact hs h2
    ·intro listed hcl hall;rw[←h2];exact hall o hj e (hm e (List.mem_cons_self)) hb
    ·by_cases hlt:e.on<acc.length
     ·have hf:=hacc e.on i hlt h2;intro listed hcl hall;have hon:=hall o hj e (hm e (List.mem_cons_self)) hb;exact hf listed hcl (fun oj hoj e' he' hb'=>hcl e.on oj hoj hon e' he' hb')
     ·simp[List.getD_eq_getElem?_getD,List.getElem?_eq_none (Nat.le_of_not_lt hlt)]at h2
   ·exact hs h2
 exact key o.after.toList 0 (fun e he=>by simpa using he) (by simp) h
theorem pH:∀(l:List Oper) (acc:List Nat),(∀j,l[j]? =ops[acc.length+j]?)→(∀j i,j<acc.length→(acc.getD j 0).testBit i=true→forced md ops j i)→
  ∀j i,((iZ md l acc).getD j 0).testBit i=true→forced md ops j i
 | [],acc,_,hacc,j,i,h=>by
  by_cases hlt:j<acc.length
  ·exact hacc j i hlt h
  ·simp[iZ,List.getD_eq_getElem?_getD,List.getElem?_eq_none (Nat.le_of_not_lt hlt)]at h
 |o::l,acc,hl,hacc,j,i,h=>by
  have h0:ops[acc.length]? =some o:=by simpa using(hl 0).symm
  refine pH l (acc++[qz md acc o]) (fun j=>by have:=hl (j+1);simpa[Nat.add_assoc,Nat.add_comm 1 j]using this) ?_ j i h;intro j i hj ht;by_cases hlt:j<acc.length
  ·refine hacc j i hlt ?_;simpa[List.getD_eq_getElem?_getD,List.getElem?_append_left hlt]using ht
  ·have:j=acc.length:=by simp at hj;omega
   subst this;refine AO hacc h0 ?_;simpa[List.getD_eq_getElem?_getD]using ht
def gH (ops:Array Oper):Bool:=
 (List.range (ops.size-1)).all fun i=>((iZ .any ops.toList []).getD (ops.size-1) 0).testBit i||(match ops[i]? with|some o=>eU o|none=>false)
theorem qZ (h:gH ops=true):∀i oi,ops[i]? =some oi→i≠ops.size-1→eU oi=false→forced .any ops (ops.size-1) i:=by
 intro i oi hoi hne hfr;have hi:=(Array.getElem?_eq_some_iff.1 hoi).1;unfold gH at h;rw[List.all_eq_true]at h;have:=h i (List.mem_range.2 (by omega));rw[hoi]at this;simp only[hfr,Bool.or_false]at this;exact pH ops.toList [] (fun j=>by simp) (fun j i hj=>by simp at hj) _ i this
def aH (P:Program) (ops:Array Oper) (I:World→Prop) (Out:Prop) (Q:Act→World→Prop):List Oper→(World→Prop)→Act→Prop
 | [],C,a=>∀w,C w→Q a w
 |o::rest,C,a=>
  if Region.wanted o (yielded ops a.tmps)then
   (if aY o then∃(V:Value→Prop) (R:Value→World→Prop),(∃v,V v)∧(∀w,C w→gives P o a w Out R)∧(∀v w,R v w→V v∧((rest=[]∧gH ops=true)∨I w))∧∀v,V v→aH P ops I Out Q rest (R v) (a.put o.dst v)
    else∃v,(∀w,I w→dx P o a w v)∧aH P ops I Out Q rest C (a.put o.dst v))
  else aH P ops I Out Q rest C (a.put o.dst undef)
theorem pC {Out:Prop} {Q:Act→World→Prop} (hfl:gH ops=true→fin=ops.size-1) (hs:Region.noSelect ops=true) (hchain:∀i oi j oj,ops[i]? =some oi→ops[j]? =some oj→aY oi=true→aY oj=true→i<j→forced md ops j i)
  (w0:World) (hw0:I w0):
  ∀(l:List Oper) (k:Nat) (listed:Array Bool) (C:World→Prop) (a:Act),(∀j,l[j]? =ops[k+j]?)→closed md ops listed→(∀j,j<k→listed.getD j true=true)→
  Region.lexFrom md ops l.length k listed=true→aH P ops I Out Q l C a→dZ P md ops I fin Out Q l.length listed C a
 | [],_,_,_,_,_,_,_,hB,h=>⟨by simpa[Region.lexFrom]using hB,h⟩
 |o::l,k,listed,C,a,hl,hcl,hlow,hB,h=>by
  have h0:ops[k]? =some o:=by simpa using(hl 0).symm
  have hkl:l=[]→k=ops.size-1:=fun he=>by
   subst he;have h1:=(hl 1).symm;simp at h1;have h2:=(Array.getElem?_eq_some_iff.1 h0).1;omega
  have hl':∀j,l[j]? =ops[k+1+j]? :=fun j=>by have:=hl (j+1);simpa[Nat.add_assoc,Nat.add_comm 1 j]using this
  simp only[List.length_cons,Region.lexFrom,Bool.and_eq_true]at hB;obtain⟨⟨hr,hf⟩,hB'⟩:=hB;have hr':k∈Region.ready md ops listed:=by simpa using hr
  have hlow':∀j,j<k+1→(listed.setIfInBounds k true).getD j true=true:=fun j hj=>by
   by_cases hjk:j=k
   ·subst hjk;by_cases hs:j<listed.size<;>simp[hs]
   ·rw[getD_set_ne true (by omega)];exact hlow j (by omega)
  unfold aH at h;by_cases hw:Region.wanted o (yielded ops a.tmps)=true
  ·simp only[hw,if_true]at h;by_cases he:aY o=true
   ·simp only[he,if_true]at h;obtain⟨V,R,g0,g1,g2,g3⟩:=h;exact zJ h0 (Region.noSelect_spec hs) he (fun j oj hj hne hej hlt=>hchain k o j oj h0 hj he hej hlt) w0 hw0 V R g0 (fun v w hr=>⟨(g2 v w hr).1,(g2 v w hr).2.imp (fun h=>(hkl h.1).trans (hfl h.2).symm) id⟩) C l.length listed a hcl hlow (Region.free_spec h0 hf) hr' hw g1
     (fun v hv=>pC hfl hs hchain w0 hw0 l (k+1) _ _ _ hl' (hcl.set hr') hlow' hB' (g3 v hv))
   ·simp only[he,if_false,Bool.false_eq_true]at h;obtain⟨v,g1,g2⟩:=h;exact rh h0 (Region.noSelect_spec hs) l.length listed C a hcl (Region.free_spec h0 hf) hr' (.inl ⟨hw,by simpa using he,fun w hw'=>hw'.elim (fun hf=>x9 hf (g1 w0 hw0)) (g1 w)⟩)
     (pC hfl hs hchain w0 hw0 l (k+1) _ _ _ hl' (hcl.set hr') hlow' hB' g2)
  ·simp only[hw,if_false,Bool.false_eq_true]at h;exact rh h0 (Region.noSelect_spec hs) l.length listed C a hcl (Region.free_spec h0 hf) hr' (.inr ⟨by simpa using hw,rfl⟩)
    (pC hfl hs hchain w0 hw0 l (k+1) _ _ _ hl' (hcl.set hr') hlow' hB' h)
theorem Ci (h:sx (iZ md ops.toList []) ops.toList.zipIdx=true) (i:Nat) (oi:Oper) (j:Nat) (oj:Oper) (hi:ops[i]? =some oi) (hj:ops[j]? =some oj) (hei:aY oi=true) (hej:aY oj=true) (hlt:i<j):
  forced md ops j i:=by
 unfold sx at h;rw[List.all_eq_true]at h;have m:∀k ok,ops[k]? =some ok→(ok,k)∈ops.toList.zipIdx:=fun k ok hk=>by
  rw[List.mem_zipIdx_iff_getElem?];simpa using hk
 have h1:=h _ (m i oi hi);rw[List.all_eq_true]at h1;have h2:=h1 _ (m j oj hj);simp[hei,hej,hlt]at h2;refine pH ops.toList [] (fun j=>by simp) (fun j i hj=>by simp at hj) j i ?_;simpa[List.getD_eq_getElem?_getD]using h2
theorem bY {id:Nat} {Q:Exit→Act→World→Prop} {a:Act} {w:World} {l:List Oper} (I C:World→Prop) (hm:P.follows .mixedOrders=true) (hB:oR .any l.toArray=true)
  (hCI:∀w,C w→I w) (hC:C w.drew) (h:aH P l.toArray I (LetsOut Q) (fun a' w'=>Q .normal a' w') l C a):(Code.region id l.toArray true).wp P Q a w:=by
 simp only[oR,Bool.and_eq_true]at hB;obtain⟨hlex,hch⟩:=hB;simp only[Region.lexB,Bool.and_eq_true]at hlex;have hc0:closed .any l.toArray (Array.replicate l.toArray.size false):=fun j oj _ hl=>by rw[getD_replicate_false']at hl;cases hl
 obtain⟨fin,hfin,hfl⟩:∃fin,(fin<l.toArray.size→∀i oi,l.toArray[i]? =some oi→i≠fin→eU oi=false→forced .any l.toArray fin i)∧(gH l.toArray=true→fin=l.toArray.size-1):=by
  by_cases h:gH l.toArray=true
  ·exact⟨_,fun _=>qZ h,fun _=>rfl⟩
  ·exact⟨l.toArray.size,fun h'=>absurd h' (Nat.lt_irrefl _),fun h'=>absurd h' h⟩
 refine wp_region_any hm (l0 (I:=I) (fin:=fin) (Q:=fun a' w'=>Q .normal a' w') (fun _ _ h=>h) hfin _ _ C _ _ hc0 (.inr hCI) hC ?_);have:=pC (P:=P) (I:=I) (md:=.any) (fin:=fin) hfl hlex.1 (Ci hch) _ (hCI _ hC) l 0 (Array.replicate l.toArray.size false) C a (by simp)
  hc0 (fun j hj=>by omega) (by simpa using hlex.2) h
 simpa using this
where
 getD_replicate_false' {m j:Nat}:(Array.replicate m false).getD j false=false:=by
  rcases Nat.lt_or_ge j m with h|h
  ·simp[h]
  ·simp[h]
end
def VO (s:Sem Next):Prop:=∀(P:Program) (w w':World) (f:FuncId) (args:Array Value),s.run P w≠ .ok (.enter f args) w'
theorem VO.bind {α:Type} (s:Sem α) {k:α→Sem Next} (h:∀x,VO (k x)):VO (s>>=k):=by
 intro P w w' f args e;rw[Sem.run_bind]at e
 cases hs:s.run P w with
 |ok a w1=>rw[hs]at e;exact h a P w1 w' f args e
 |halt x w1=>rw[hs]at e;cases e
theorem VO.value (v:Value):VO (pure (.value v)):=by
 intro P w w' f args e;cases e
theorem VO.halt (x:Halt):VO (Sem.halt x):=by
 intro P w w' f args e;simp[Sem.run]at e
theorem VO.panic (x:RuntimeError):VO (runtimePanic x):=by
 refine VO.bind _ (fun p=> ?_);cases x<;>first
  |exact VO.halt _
  |exact VO.bind _ fun _=>VO.bind _ fun _=>VO.halt _
theorem yG {P:Program} {o:Oper} (he:aY o=false) {ρ:Operand→Value} {w w':World} {f:FuncId} {args:Array Value} (h:(execOp ρ o).run P w=.ok (.enter f args) w'):False:=by
 refine(?_:VO (execOp ρ o)) P w w' f args h;obtain⟨dst,op,type,pos,after,guard⟩:=o;cases op<;>simp only[aY,Bool.true_eq_false]at he<;>simp only[execOp]
 case nilCheck=>
  split
  ·exact VO.panic _
  ·exact VO.panic _
  ·exact VO.panic _
  ·split
   ·exact VO.panic _
   ·refine VO.bind _ fun _=>VO.bind _ fun _=> ?_
    split
    ·exact VO.bind _ fun _=>VO.value _
    ·exact VO.value _
   ·exact VO.value _
  ·exact VO.value _
 case call c=>
  cases hc:c.callee with
  |builtin b=>
   cases b<;>simp[hc]at he
   all_goals
    simp only[resolve,hc];intro P w w' f args e;rw[Sem.run_bind]at e;simp only[Sem.run_pure,Result.andThen_ok,invoke,builtin]at e;exact(VO.bind _ fun _=>VO.value _) P w w' f args e
  |_=>simp[hc]at he
 all_goals first
  |exact VO.value _
  |exact VO.bind _ fun _=>VO.value _
end Stg
end Go
