/- HeapTypes: the closed facts of its row. -/
import Derived.Test.YteidpgdfocjdbaaGreatRows
import Derived.JoinedOf
import Derived.Test.YteidpgdfocjdbaaGreatC00
import Derived.Test.YteidpgdfocjdbaaGreatC01
import Derived.Test.YteidpgdfocjdbaaGreatC05
import Derived.Test.YteidpgdfocjdbaaGreatX0
import Derived.Test.YteidpgdfocjdbaaGreatCS
set_option maxRecDepth 100000
namespace Go.Proofs.YteidpgdfocjdbaaGreat.heapTypes
open Go
theorem fact0:(Rows.heapTypesRow.wf (OpenSpec.ofChange Rows.heapTypesSpec))=true:=by kernel_rfl
theorem fact1:(laidOutB Tryz.prog)=true:=by kernel_rfl
theorem fact2:(mapsRowed Tryz.prog)=true:=by kernel_rfl
theorem fact3:(Tryz.f3.params.all (Tryz.prog.readableRec ·))=true:=by kernel_rfl
theorem fact4:(namedTie Tryz.prog Rows.heapTypesRow.named Rows.heapTypesSpec.vars)=true:=by kernel_rfl
theorem fact5:((Rows.heapTypesRow.stops== []))=true:=by kernel_rfl
theorem fact6:((Tryz.prog.stops== []))=true:=by kernel_rfl
theorem fact7:((Rows.heapTypesRow.knobs== []))=true:=by kernel_rfl
theorem fact8:((Tryz.prog.stopKnobs== []))=true:=by kernel_rfl
theorem fact9:((Rows.heapTypesRow.inPlace==Tryz.prog.inPlace 3))=true:=by kernel_rfl
theorem fact10:((Rows.heapTypesRow.unfollowed==Tryz.prog.unfollowed 3))=true:=by kernel_rfl
theorem fact11:((Rows.heapTypesRow.recurses==Tryz.prog.recurses 3))=true:=by kernel_rfl
theorem fact12:((Rows.heapTypesRow.named==Tryz.prog.varsNamed 3))=true:=by kernel_rfl
theorem fact13:((Rows.heapTypesRow.maps==(Tryz.f3.params.toList++Rows.heapTypesSpec.plain.varTypes Tryz.prog).any (Tryz.prog.mapsRec ·)))=true:=by kernel_rfl
theorem fact14:((Rows.heapTypesRow.ifaces==(Tryz.f3.params.toList++Rows.heapTypesSpec.plain.varTypes Tryz.prog).any (Tryz.prog.ifacesRec ·)))=true:=by kernel_rfl
theorem fact15:((Rows.heapTypesRow.mapsOut==Tryz.prog.mapsAmong Tryz.f3.resultTypes.toList))=true:=by kernel_rfl
theorem fact16:((Rows.heapTypesRow.loops==(Tryz.f3.params.toList++Rows.heapTypesSpec.plain.varTypes Tryz.prog).any (Tryz.prog.loopsFrom ·)))=true:=by kernel_rfl
theorem fact17:((Rows.heapTypesRow.wideKeys==(Tryz.f3.params.toList++Rows.heapTypesSpec.plain.varTypes Tryz.prog++Tryz.f3.resultTypes.toList).any (Tryz.prog.wideKeysFrom ·)))=true:=by kernel_rfl
theorem fact18:(Rows.heapTypesSpec.vars.all (Tryz.prog.varReadable ·))=true:=by kernel_rfl
theorem fact19:(Tryz.f3.resultTypes.all (fun t=>Tryz.prog.readableRec t&&decide (t<Tryz.prog.types.size)))=true:=by kernel_rfl
theorem fact20:((Rows.heapTypesRow.ifacesOut==Tryz.f3.resultTypes.toList.any (Tryz.prog.ifacesRec ·)))=true:=by kernel_rfl
theorem fact21:((Rows.heapTypesRow.loopsOut==Tryz.f3.resultTypes.toList.any (Tryz.prog.loopsFrom ·)))=true:=by kernel_rfl
theorem fact22:((Rows.heapTypesRow.plainKeys==Tryz.prog.plainKeys))=true:=by kernel_rfl
theorem fact23:(Rows.heapTypesRow.shortTexts.isNone)=true:=by kernel_rfl
theorem fact24:(Tryz.prog.stopsHeard)=true:=by kernel_rfl
theorem fact25:(Tryz.prog.mayEnter)=true:=init_enter
theorem fact26:((Rows.heapTypesRow.lifted==Tryz.prog.liftsFinal))=true:=by rw[init_final];kernel_rfl
theorem fact27:((Tryz.prog.make==some Rows.heapTypesRow.make))=true:=by rw[init_make];kernel_rfl
theorem fact28:((Rows.heapTypesRow.kinds==(if Rows.heapTypesRow.domain.isEmpty then []else Tryz.f3.params.toList.map fun t=>match Tryz.prog.underlying t with|some (.int k)=>some k|_=>none)))=true:=by kernel_rfl
theorem fact29:((Rows.heapTypesRow.pinned==Rows.heapTypesRow.pinnedBy))=true:=by kernel_rfl
theorem fact30:((Rows.heapTypesRow.veiled==(Tryz.f3.params.toList++Rows.heapTypesSpec.plain.varTypes Tryz.prog++Tryz.f3.resultTypes.toList).any (Tryz.prog.veiledRec ·)))=true:=by kernel_rfl
theorem fact31:(Rows.heapTypesRow.veiledFits Tryz.prog Tryz.f3.params.toList (Tryz.f3.params.toList++Rows.heapTypesSpec.plain.varTypes Tryz.prog++Tryz.f3.resultTypes.toList))=true:=by kernel_rfl
theorem and_mk {a b:Bool} (ha:a=true) (hb:b=true):(a&&b)=true:=by rw[ha,hb];rfl
theorem closed:joinedFacts Tryz.prog 3 Tryz.f3 Rows.heapTypesSpec Rows.heapTypesRow=true:=(and_mk (and_mk (and_mk (and_mk (and_mk (and_mk (and_mk (and_mk (and_mk (and_mk (and_mk (and_mk (and_mk (and_mk (and_mk (and_mk (and_mk (and_mk (and_mk (and_mk (and_mk (and_mk (and_mk (and_mk (and_mk (and_mk (and_mk (and_mk (and_mk (and_mk (and_mk fact0 fact1) fact2) fact3) fact4) fact5) fact6) fact7) fact8) fact9) fact10) fact11) fact12) fact13) fact14) fact15) fact16) fact17) fact18) fact19) fact20) fact21) fact22) fact23) fact24) fact25) fact26) fact27) fact28) fact29) fact30) fact31)
end Go.Proofs.YteidpgdfocjdbaaGreat.heapTypes
