/- HeapConfig: the closed facts of its row. -/
import Derived.Test.YtapbeogoojejmaaGreatRows
import Derived.JoinedOf
import Derived.Test.YtapbeogoojejmaaGreatC00
import Derived.Test.YtapbeogoojejmaaGreatCS
set_option maxRecDepth 100000
namespace Go.Proofs.YtapbeogoojejmaaGreat.heapConfig
open Go
theorem fact0:(Rows.heapConfigRow.wf (OpenSpec.ofChange Rows.heapConfigSpec))=true:=by kernel_rfl
theorem fact1:(laidOutB Tryz.prog)=true:=by kernel_rfl
theorem fact2:(mapsRowed Tryz.prog)=true:=by kernel_rfl
theorem fact3:(Tryz.f4.params.all (Tryz.prog.readableRec ·))=true:=by kernel_rfl
theorem fact4:(namedTie Tryz.prog Rows.heapConfigRow.named Rows.heapConfigSpec.vars)=true:=by kernel_rfl
theorem fact5:((Rows.heapConfigRow.stops== []))=true:=by kernel_rfl
theorem fact6:((Tryz.prog.stops== []))=true:=by kernel_rfl
theorem fact7:((Rows.heapConfigRow.knobs== []))=true:=by kernel_rfl
theorem fact8:((Tryz.prog.stopKnobs== []))=true:=by kernel_rfl
theorem fact9:((Rows.heapConfigRow.inPlace==Tryz.prog.inPlace 4))=true:=by kernel_rfl
theorem fact10:((Rows.heapConfigRow.unfollowed==Tryz.prog.unfollowed 4))=true:=by kernel_rfl
theorem fact11:((Rows.heapConfigRow.recurses==Tryz.prog.recurses 4))=true:=by kernel_rfl
theorem fact12:((Rows.heapConfigRow.named==Tryz.prog.varsNamed 4))=true:=by kernel_rfl
theorem fact13:((Rows.heapConfigRow.maps==(Tryz.f4.params.toList++Rows.heapConfigSpec.plain.varTypes Tryz.prog).any (Tryz.prog.mapsRec ·)))=true:=by kernel_rfl
theorem fact14:((Rows.heapConfigRow.ifaces==(Tryz.f4.params.toList++Rows.heapConfigSpec.plain.varTypes Tryz.prog).any (Tryz.prog.ifacesRec ·)))=true:=by kernel_rfl
theorem fact15:((Rows.heapConfigRow.mapsOut==Tryz.prog.mapsAmong Tryz.f4.resultTypes.toList))=true:=by kernel_rfl
theorem fact16:((Rows.heapConfigRow.loops==(Tryz.f4.params.toList++Rows.heapConfigSpec.plain.varTypes Tryz.prog).any (Tryz.prog.loopsFrom ·)))=true:=by kernel_rfl
theorem fact17:((Rows.heapConfigRow.wideKeys==(Tryz.f4.params.toList++Rows.heapConfigSpec.plain.varTypes Tryz.prog++Tryz.f4.resultTypes.toList).any (Tryz.prog.wideKeysFrom ·)))=true:=by kernel_rfl
theorem fact18:(Rows.heapConfigSpec.vars.all (Tryz.prog.varReadable ·))=true:=by kernel_rfl
theorem fact19:(Tryz.f4.resultTypes.all (fun t=>Tryz.prog.readableRec t&&decide (t<Tryz.prog.types.size)))=true:=by kernel_rfl
theorem fact20:((Rows.heapConfigRow.ifacesOut==Tryz.f4.resultTypes.toList.any (Tryz.prog.ifacesRec ·)))=true:=by kernel_rfl
theorem fact21:((Rows.heapConfigRow.loopsOut==Tryz.f4.resultTypes.toList.any (Tryz.prog.loopsFrom ·)))=true:=by kernel_rfl
theorem fact22:((Rows.heapConfigRow.plainKeys==Tryz.prog.plainKeys))=true:=by kernel_rfl
theorem fact23:(Rows.heapConfigRow.shortTexts.isNone)=true:=by kernel_rfl
theorem fact24:(Tryz.prog.stopsHeard)=true:=by kernel_rfl
theorem fact25:(Tryz.prog.mayEnter)=true:=init_enter
theorem fact26:((Rows.heapConfigRow.lifted==Tryz.prog.liftsFinal))=true:=by rw[init_final];kernel_rfl
theorem fact27:((Tryz.prog.make==some Rows.heapConfigRow.make))=true:=by rw[init_make];kernel_rfl
theorem fact28:((Rows.heapConfigRow.kinds==(if Rows.heapConfigRow.domain.isEmpty then []else Tryz.f4.params.toList.map fun t=>match Tryz.prog.underlying t with|some (.int k)=>some k|_=>none)))=true:=by kernel_rfl
theorem fact29:((Rows.heapConfigRow.pinned==Rows.heapConfigRow.pinnedBy))=true:=by kernel_rfl
theorem fact30:((Rows.heapConfigRow.veiled==(Tryz.f4.params.toList++Rows.heapConfigSpec.plain.varTypes Tryz.prog++Tryz.f4.resultTypes.toList).any (Tryz.prog.veiledRec ·)))=true:=by kernel_rfl
theorem fact31:(Rows.heapConfigRow.veiledFits Tryz.prog Tryz.f4.params.toList (Tryz.f4.params.toList++Rows.heapConfigSpec.plain.varTypes Tryz.prog++Tryz.f4.resultTypes.toList))=true:=by kernel_rfl
theorem and_mk {a b:Bool} (ha:a=true) (hb:b=true):(a&&b)=true:=by rw[ha,hb];rfl
theorem closed:joinedFacts Tryz.prog 4 Tryz.f4 Rows.heapConfigSpec Rows.heapConfigRow=true:=(and_mk (and_mk (and_mk (and_mk (and_mk (and_mk (and_mk (and_mk (and_mk (and_mk (and_mk (and_mk (and_mk (and_mk (and_mk (and_mk (and_mk (and_mk (and_mk (and_mk (and_mk (and_mk (and_mk (and_mk (and_mk (and_mk (and_mk (and_mk (and_mk (and_mk (and_mk fact0 fact1) fact2) fact3) fact4) fact5) fact6) fact7) fact8) fact9) fact10) fact11) fact12) fact13) fact14) fact15) fact16) fact17) fact18) fact19) fact20) fact21) fact22) fact23) fact24) fact25) fact26) fact27) fact28) fact29) fact30) fact31)
end Go.Proofs.YtapbeogoojejmaaGreat.heapConfig
