/- Short names for lemmas of the walks' simp sets. No conditions. -/
import Derived.Lib.Hide
namespace Go
theorem zh {p:Prop} (h:p):RowKit.Hid p:=h
end Go
namespace Go.Stg
theorem tA {X:Type} {i:Nat} {a:X} {l:List X}:List.take (i+1) (a::l)=a::List.take i l:=rfl
theorem tB {X:Type} {l:List X}:List.take 0 l=[]:=rfl
theorem tC {X:Type} {i:Nat} {a:X} {l:List X}:List.drop (i+1) (a::l)=List.drop i l:=rfl
theorem tD {X:Type} {l:List X}:List.drop 0 l=l:=rfl
theorem sA {X:Type} (l:List X) (i:Nat) (a:X):l.toArray.setIfInBounds i a=(l.set i a).toArray:=List.setIfInBounds_toArray l i a
theorem sB {X:Type} {i:Nat} {x a:X} {l:List X}:(x::l).set (i+1) a=x::l.set i a:=rfl
theorem sC {X:Type} {x a:X} {l:List X}:(x::l).set 0 a=a::l:=rfl
end Go.Stg
