/- HostcallNone: the closed facts of its row. -/
import Derived.Test.YtgfdeiijblakfaaGreatRows
import Derived.JoinedOf
import Derived.Test.YtgfdeiijblakfaaGreatC00
import Derived.Test.YtgfdeiijblakfaaGreatC01
import Derived.Test.YtgfdeiijblakfaaGreatC06
import Derived.Test.YtgfdeiijblakfaaGreatC07
import Derived.Test.YtgfdeiijblakfaaGreatC38
import Derived.Test.YtgfdeiijblakfaaGreatC39
import Derived.Test.YtgfdeiijblakfaaGreatCS
set_option maxRecDepth 100000
namespace Go.Proofs.YtgfdeiijblakfaaGreat.hostcallNone
open Go
theorem fact0:(Rows.hostcallNoneRow.wf (OpenSpec.ofChange Rows.hostcallNoneSpec))=true:=by kernel_rfl
theorem fact1:(laidOutB Tryz.prog)=true:=by kernel_rfl
theorem fact2:(mapsRowed Tryz.prog)=true:=by kernel_rfl
theorem fact3:(Tryz.f4.params.all (Tryz.prog.readableRec ·))=true:=by kernel_rfl
theorem fact4:(namedTie Tryz.prog Rows.hostcallNoneRow.named Rows.hostcallNoneSpec.vars)=true:=by kernel_rfl
theorem fact5:((Rows.hostcallNoneRow.stops== []))=true:=by kernel_rfl
theorem fact6:((Tryz.prog.stops== []))=true:=by kernel_rfl
theorem fact7:((Rows.hostcallNoneRow.knobs== []))=true:=by kernel_rfl
theorem fact8:((Tryz.prog.stopKnobs== []))=true:=by kernel_rfl
theorem fact9:((Rows.hostcallNoneRow.inPlace==Tryz.prog.inPlace 4))=true:=by kernel_rfl
theorem fact10:((Rows.hostcallNoneRow.unfollowed==Tryz.prog.unfollowed 4))=true:=by kernel_rfl
theorem fact11:((Rows.hostcallNoneRow.recurses==Tryz.prog.recurses 4))=true:=by kernel_rfl
theorem fact12:((Rows.hostcallNoneRow.named==Tryz.prog.varsNamed 4))=true:=by kernel_rfl
theorem fact13:((Rows.hostcallNoneRow.maps==(Tryz.f4.params.toList++Rows.hostcallNoneSpec.plain.varTypes Tryz.prog).any (Tryz.prog.mapsRec ·)))=true:=by kernel_rfl
theorem fact14:((Rows.hostcallNoneRow.ifaces==(Tryz.f4.params.toList++Rows.hostcallNoneSpec.plain.varTypes Tryz.prog).any (Tryz.prog.ifacesRec ·)))=true:=by kernel_rfl
theorem fact15:((Rows.hostcallNoneRow.mapsOut==Tryz.prog.mapsAmong Tryz.f4.resultTypes.toList))=true:=by kernel_rfl
theorem fact16:((Rows.hostcallNoneRow.loops==(Tryz.f4.params.toList++Rows.hostcallNoneSpec.plain.varTypes Tryz.prog).any (Tryz.prog.loopsFrom ·)))=true:=by kernel_rfl
theorem fact17:((Rows.hostcallNoneRow.wideKeys==(Tryz.f4.params.toList++Rows.hostcallNoneSpec.plain.varTypes Tryz.prog++Tryz.f4.resultTypes.toList).any (Tryz.prog.wideKeysFrom ·)))=true:=by kernel_rfl
theorem fact18:(Rows.hostcallNoneSpec.vars.all (Tryz.prog.varReadable ·))=true:=by kernel_rfl
theorem fact19:(Tryz.f4.resultTypes.all (fun t=>Tryz.prog.readableRec t&&decide (t<Tryz.prog.types.size)))=true:=by kernel_rfl
theorem fact20:((Rows.hostcallNoneRow.ifacesOut==Tryz.f4.resultTypes.toList.any (Tryz.prog.ifacesRec ·)))=true:=by kernel_rfl
theorem fact21:((Rows.hostcallNoneRow.loopsOut==Tryz.f4.resultTypes.toList.any (Tryz.prog.loopsFrom ·)))=true:=by kernel_rfl
theorem fact22:((Rows.hostcallNoneRow.plainKeys==Tryz.prog.plainKeys))=true:=by kernel_rfl
theorem fact23:(Rows.hostcallNoneRow.shortTexts.isNone)=true:=by kernel_rfl
theorem fact24:(Tryz.prog.stopsHeard)=true:=by kernel_rfl
theorem fact25:(Tryz.prog.mayEnter)=true:=init_enter
theorem fact26:((Rows.hostcallNoneRow.lifted==Tryz.prog.liftsFinal))=true:=by rw[init_final];kernel_rfl
theorem fact27:((Tryz.prog.make==some Rows.hostcallNoneRow.make))=true:=by rw[init_make];kernel_rfl
theorem fact28:((Rows.hostcallNoneRow.kinds==(if Rows.hostcallNoneRow.domain.isEmpty then []else Tryz.f4.params.toList.map fun t=>match Tryz.prog.underlying t with|some (.int k)=>some k|_=>none)))=true:=by kernel_rfl
theorem fact29:((Rows.hostcallNoneRow.pinned==Rows.hostcallNoneRow.pinnedBy))=true:=by kernel_rfl
theorem fact30:((Rows.hostcallNoneRow.veiled==(Tryz.f4.params.toList++Rows.hostcallNoneSpec.plain.varTypes Tryz.prog++Tryz.f4.resultTypes.toList).any (Tryz.prog.veiledRec ·)))=true:=by kernel_rfl
theorem fact31:(Rows.hostcallNoneRow.veiledFits Tryz.prog Tryz.f4.params.toList (Tryz.f4.params.toList++Rows.hostcallNoneSpec.plain.varTypes Tryz.prog++Tryz.f4.resultTypes.toList))=true:=by kernel_rfl
theorem and_mk {a b:Bool} (ha:a=true) (hb:b=true):(a&&b)=true:=by rw[ha,hb];rfl
theorem closed:joinedFacts Tryz.prog 4 Tryz.f4 Rows.hostcallNoneSpec Rows.hostcallNoneRow=true:=(and_mk (and_mk (and_mk (and_mk (and_mk (and_mk (and_mk (and_mk (and_mk (and_mk (and_mk (and_mk (and_mk (and_mk (and_mk (and_mk (and_mk (and_mk (and_mk (and_mk (and_mk (and_mk (and_mk (and_mk (and_mk (and_mk (and_mk (and_mk (and_mk (and_mk (and_mk fact0 fact1) fact2) fact3) fact4) fact5) fact6) fact7) fact8) fact9) fact10) fact11) fact12) fact13) fact14) fact15) fact16) fact17) fact18) fact19) fact20) fact21) fact22) fact23) fact24) fact25) fact26) fact27) fact28) fact29) fact30) fact31)
end Go.Proofs.YtgfdeiijblakfaaGreat.hostcallNone
