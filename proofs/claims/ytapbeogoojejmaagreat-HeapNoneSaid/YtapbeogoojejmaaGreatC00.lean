/- Joined contracts. No conditions. -/
import Derived.Test.YtapbeogoojejmaaGreatRows
import Derived.KernelRfl
import Derived.Test.YtapbeogoojejmaaGreatCS
namespace Go.Proofs.YtapbeogoojejmaaGreat
open Go
def initW0:List Char:=[Char.ofNat 104,Char.ofNat 97,Char.ofNat 114,Char.ofNat 110,Char.ofNat 101,Char.ofNat 115,Char.ofNat 115]
def initW1:List Char:=[Char.ofNat 53,Char.ofNat 57,Char.ofNat 102,Char.ofNat 100,Char.ofNat 52,Char.ofNat 54,Char.ofNat 102,Char.ofNat 48,Char.ofNat 49,Char.ofNat 56,Char.ofNat 97,Char.ofNat 99,Char.ofNat 49,Char.ofNat 100,Char.ofNat 49,Char.ofNat 99,Char.ofNat 97,Char.ofNat 101,Char.ofNat 57,Char.ofNat 57,Char.ofNat 101,Char.ofNat 102,Char.ofNat 55,Char.ofNat 99,Char.ofNat 55,Char.ofNat 48,Char.ofNat 54,Char.ofNat 53,Char.ofNat 50,Char.ofNat 56,Char.ofNat 57,Char.ofNat 53,Char.ofNat 50,Char.ofNat 49,Char.ofNat 97,Char.ofNat 102,Char.ofNat 100,Char.ofNat 57,Char.ofNat 54,Char.ofNat 99,Char.ofNat 102,Char.ofNat 52,Char.ofNat 57,Char.ofNat 97,Char.ofNat 101,Char.ofNat 48,Char.ofNat 100,Char.ofNat 53,Char.ofNat 48,Char.ofNat 102,Char.ofNat 55,Char.ofNat 97,Char.ofNat 54,Char.ofNat 97,Char.ofNat 100,Char.ofNat 100,Char.ofNat 56,Char.ofNat 50,Char.ofNat 57,Char.ofNat 102,Char.ofNat 101,Char.ofNat 56,Char.ofNat 102,Char.ofNat 49]
def initW2:List Char:=[Char.ofNat 99,Char.ofNat 117,Char.ofNat 116]
def initR0:List Char:=[Char.ofNat 97,Char.ofNat 116,Char.ofNat 32,Char.ofNat 112,Char.ofNat 108,Char.ofNat 117,Char.ofNat 103,Char.ofNat 105,Char.ofNat 110,Char.ofNat 104,Char.ofNat 111,Char.ofNat 115,Char.ofNat 116,Char.ofNat 47,Char.ofNat 112,Char.ofNat 108,Char.ofNat 117,Char.ofNat 103,Char.ofNat 105,Char.ofNat 110,Char.ofNat 104,Char.ofNat 111,Char.ofNat 115,Char.ofNat 116,Char.ofNat 108,Char.ofNat 97,Char.ofNat 119,Char.ofNat 49,Char.ofNat 56,Char.ofNat 46,Char.ofNat 72,Char.ofNat 101,Char.ofNat 97,Char.ofNat 112,Char.ofNat 78,Char.ofNat 111,Char.ofNat 110,Char.ofNat 101,Char.ofNat 32,Char.ofNat 112,Char.ofNat 108,Char.ofNat 117,Char.ofNat 103,Char.ofNat 105,Char.ofNat 110,Char.ofNat 104,Char.ofNat 111,Char.ofNat 115,Char.ofNat 116,Char.ofNat 47,Char.ofNat 112,Char.ofNat 108,Char.ofNat 117,Char.ofNat 103,Char.ofNat 105,Char.ofNat 110,Char.ofNat 104,Char.ofNat 111,Char.ofNat 115,Char.ofNat 116]
def initR1:List Char:=[Char.ofNat 108,Char.ofNat 97,Char.ofNat 119,Char.ofNat 49,Char.ofNat 56,Char.ofNat 46,Char.ofNat 72,Char.ofNat 101,Char.ofNat 97,Char.ofNat 112,Char.ofNat 67,Char.ofNat 111,Char.ofNat 110,Char.ofNat 102,Char.ofNat 105,Char.ofNat 103]
def initR:List Char:=initR0++(initR1)
def initL:List Char:=initW0++Char.ofNat 32::(initW1++Char.ofNat 32::(initW2++Char.ofNat 32::initR))
theorem init_eq:Tryz.prog.initOrder=String.ofList initL:=by kernel_rfl
theorem init_list:Tryz.prog.initOrder.toList=initL:=by rw[init_eq,String.toList_ofList]
theorem words_word:∀(w r:List Char),(∀c∈w,c≠Char.ofNat 32)→wordsSigns (w++Char.ofNat 32::r)=w::wordsSigns r
 | [],r,_=>rfl
 |c::w,r,h=>by
  have ih:=words_word w r fun x hx=>h x (List.mem_cons_of_mem _ hx)
  rw[List.cons_append,wordsSigns,ih];exact h c (by simp)
theorem init_words:wordsSigns Tryz.prog.initOrder.toList=initW0::initW1::initW2::wordsSigns initR:=by
 rw[init_list];unfold initL;rw[words_word _ _ (by decide),words_word _ _ (by decide),words_word _ _ (by decide)]
theorem init_behind:behindMainWord (wordsSigns Tryz.prog.initOrder.toList)=initW2::wordsSigns initR:=by
 rw[init_words];generalize wordsSigns initR=X;kernel_rfl
theorem init_strip (X:List (List Char)):stripLifts liftWords (initW2::X)=([],initW2::X):=by kernel_rfl
theorem init_later:Tryz.prog.laysLater=false:=by
 unfold Program.laysLater;rw[←Array.any_toList];kernel_rfl
theorem init_reflect:Tryz.prog.bearsReflect=false:=by kernel_rfl
theorem init_door:Tryz.prog.doorFits []=true:=by kernel_rfl
theorem init_gc:(initW2== "gc".toList)=false:=by kernel_rfl
theorem init_spec:(initW2== "spec".toList)=false:=by kernel_rfl
theorem init_carried:(initW2== "carried".toList)=false:=by kernel_rfl
theorem init_cut:(initW2== "cut".toList)=true:=by kernel_rfl
theorem init_cut2:(some initW2==some "cut".toList)=true:=by kernel_rfl
theorem init_carried2:(some initW2==some "carried".toList)=false:=by kernel_rfl
theorem enter_of (P:Program) {w:List Char} {X:List (List Char)} (h:behindMainWord (wordsSigns P.initOrder.toList)=w::X) (hs:stripLifts liftWords (w::X)=([],w::X)) (h1:P.laysLater=false) (h2:P.bearsReflect=false) (h3:P.doorFits []=true)
  (g1:(w== "gc".toList)=false) (g2:(w== "spec".toList)=false) (g3:(w== "carried".toList)=false) (g4:(some w==some "cut".toList)=true):P.mayEnter=true:=by
 unfold Program.mayEnter;rw[h];simp only[hs,h1,h2,h3,g1,g2,g3,g4,List.head?_cons];rfl
theorem lifts_of (P:Program) {w:List Char} {X:List (List Char)} (h:behindMainWord (wordsSigns P.initOrder.toList)=w::X) (hs:stripLifts liftWords (w::X)=([],w::X)):P.headLifts=[]:=by
 unfold Program.headLifts;rw[h];simp only[hs];split<;>rfl
theorem final_of (P:Program) {w:List Char} {X:List (List Char)} (h:behindMainWord (wordsSigns P.initOrder.toList)=w::X) (hl:P.headLifts=[]) (g:(some w==some "carried".toList)=false):P.liftsFinal=false:=by
 unfold Program.liftsFinal;rw[h,hl];simp only[List.head?_cons,g];rfl
theorem make_of (P:Program) {w:List Char} {X:List (List Char)} (h:behindMainWord (wordsSigns P.initOrder.toList)=w::X) (g1:(w== "gc".toList)=false) (g2:(w== "spec".toList)=false) (g3:(w== "cut".toList)=true):P.make=some .cut:=by
 unfold Program.make;rw[h];simp only[g1,g2,g3];rfl
theorem init_enter:Tryz.prog.mayEnter=true:=enter_of Tryz.prog init_behind (init_strip _) init_later init_reflect init_door init_gc init_spec init_carried init_cut2
theorem init_lifts:Tryz.prog.headLifts=[]:=lifts_of Tryz.prog init_behind (init_strip _)
theorem init_final:Tryz.prog.liftsFinal=false:=final_of Tryz.prog init_behind init_lifts init_carried2
theorem init_make:Tryz.prog.make=some .cut:=make_of Tryz.prog init_behind init_gc init_spec init_cut
end Go.Proofs.YtapbeogoojejmaaGreat
