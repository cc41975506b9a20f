/- The engine and the contracts of the functions that the statement reaches, part 5. -/
import Derived.Test.YtnfdieeaelhpbaaGreatDoorMd
import Derived.Shelf.Strconv.Atoi
import Derived.Shelf.Strconv.Itoa0
import Derived.Shelf.Strconv.Itoa1
import Derived.Shelf.LaysM
import Derived.Shelf.Strconv.Itoa2
import Derived.Shelf.Strconv.Itoa3
import Derived.Shelf.Strconv.AtoiErrFast
import Derived.Shelf.Strconv.ParseIntEmpty
import Derived.Shelf.Strconv.AtoiFail
import Derived.Shelf.Strconv.Clone
import Derived.Shelf.Strconv.SyntaxError
import Derived.Shelf.LaysC
import Derived.Shelf.Strconv.ToError
import Derived.Shelf.Strconv.AtoiErr
import Derived.Ground.MpProg
import Derived.Shelf.Pu.ParseUintPublic10
import Derived.Shelf.Pu.ErrVarParseUint
import Derived.Shelf.Strings.Search1
import Derived.Shelf.Strings.Search2
import Derived.Shelf.Strings.Search3
import Derived.Shelf.Strings.Count
import Derived.Shelf.Strings.Shaped
import Derived.Shelf.Strings.LastIndex
import Derived.Shelf.Strings.Fields
import Derived.Shelf.Unicode.Latin
import Derived.Shelf.Unicode.Is16White
import Derived.Shelf.Unicode.IsSpaceAny
import Derived.Shelf.Unicode.Is16Any
import Derived.Shelf.Unicode.Is32Any
import Derived.Shelf.Unicode.ExclAny
import Derived.Shelf.Slices.Turned
import Derived.Shelf.Slices.Reverse
import Derived.Shelf.Slices.Equal
import Derived.Ground.Names2Prog
import Derived.Shelf.Slices.Clone
import Derived.Shelf.Slices.Cells
import Derived.Shelf.Slices.Empties2
import Derived.Test.YtnfdieeaelhpbaaGreatDoorProg
import Derived.Lib.AtoiErrMem
import Derived.Tactics
import Derived.Tactics2
import Derived.Defers
import Derived.Recover
import Derived.Laws.Pointers
import Derived.WalkKit
import Derived.KernelRfl
set_option linter.unusedVariables false
set_option linter.unusedSimpArgs false
set_option maxRecDepth 100000
set_option maxHeartbeats 8000000
namespace Go.Proofs.YtnfdieeaelhpbaaGreatDoor
open Go.RowKit
end Go.Proofs.YtnfdieeaelhpbaaGreatDoor
namespace Go.Proofs
open Go.Shelf
def Tryz.lays172_ren:Go.Shelf.Ren:=⟨fun|172=>136|244=>148|245=>147|247=>163|279=>159|280=>160|281=>161|282=>162|287=>146|316=>169|171=>137|205=>170|321=>157|322=>158|243=>149|246=>164|283=>171|284=>172|285=>173|286=>174|129=>177|317=>176|318=>178|319=>179|320=>180|337=>183|338=>184|n=>n,fun|9=>9|3=>3|75=>177|76=>180|4=>4|5=>5|167=>192|37=>194|0=>0|85=>198|2=>2|168=>195|53=>54|175=>178|46=>47|210=>206|127=>218|145=>221|143=>219|21=>21|171=>208|173=>211|212=>223|51=>189|20=>20|213=>224|232=>240|233=>241|80=>242|n=>n,fun|15=>2|16=>3|17=>5|18=>6|19=>7|n=>n⟩
theorem Tryz.lays172:Go.Proofs.Lays.n172 Tryz.prog Tryz.lays172_ren:= {
 mixed:=by kernel_rfl
 f129:=Tryz.func177.trans (congrArg some (by kernel_rfl))
 f171:=Tryz.func137.trans (congrArg some (by kernel_rfl))
 f172:=Tryz.func136.trans (congrArg some (by kernel_rfl))
 f205:=Tryz.func170.trans (congrArg some (by kernel_rfl))
 f243:=Tryz.func149.trans (congrArg some (by kernel_rfl))
 f244:=Tryz.func148.trans (congrArg some (by kernel_rfl))
 f245:=Tryz.func147.trans (congrArg some (by kernel_rfl))
 f246:=Tryz.func164.trans (congrArg some (by kernel_rfl))
 f247:=Tryz.func163.trans (congrArg some (by kernel_rfl))
 f279:=Tryz.func159.trans (congrArg some (by kernel_rfl))
 f280:=Tryz.func160.trans (congrArg some (by kernel_rfl))
 f281:=Tryz.func161.trans (congrArg some (by kernel_rfl))
 f282:=Tryz.func162.trans (congrArg some (by kernel_rfl))
 f283:=Tryz.func171.trans (congrArg some (by kernel_rfl))
 f284:=Tryz.func172.trans (congrArg some (by kernel_rfl))
 f285:=Tryz.func173.trans (congrArg some (by kernel_rfl))
 f286:=Tryz.func174.trans (congrArg some (by kernel_rfl))
 f287:=Tryz.func146.trans (congrArg some (by kernel_rfl))
 f316:=Tryz.func169.trans (congrArg some (by kernel_rfl))
 f317:=Tryz.func176.trans (congrArg some (by kernel_rfl))
 f318:=Tryz.func178.trans (congrArg some (by kernel_rfl))
 f319:=Tryz.func179.trans (congrArg some (by kernel_rfl))
 f320:=Tryz.func180.trans (congrArg some (by kernel_rfl))
 f321:=Tryz.func157.trans (congrArg some (by kernel_rfl))
 f322:=Tryz.func158.trans (congrArg some (by kernel_rfl))
 f337:=Tryz.func183.trans (congrArg some (by kernel_rfl))
 f338:=Tryz.func184.trans (congrArg some (by kernel_rfl))
 t0:=Tryz.underlying0
 a0:=Tryz.isAgg0
 z0:=Tryz.sizeOf0
 v0:=Tryz.zeroValue0
 t2:=Tryz.underlying2
 a2:=Tryz.isAgg2
 z2:=Tryz.sizeOf2
 v2:=Tryz.zeroValue2
 t3:=Tryz.underlying3
 a3:=Tryz.isAgg3
 z3:=Tryz.sizeOf3
 v3:=Tryz.zeroValue3
 t4:=Tryz.underlying4
 a4:=Tryz.isAgg4
 z4:=Tryz.sizeOf4
 v4:=Tryz.zeroValue4
 t5:=Tryz.underlying5
 a5:=Tryz.isAgg5
 z5:=Tryz.sizeOf5
 v5:=Tryz.zeroValue5
 t9:=Tryz.underlying9
 a9:=Tryz.isAgg9
 z9:=Tryz.sizeOf9
 v9:=Tryz.zeroValue9
 t20:=Tryz.underlying20
 a20:=Tryz.isAgg20
 z20:=Tryz.sizeOf20
 v20:=Tryz.zeroValue20
 t21:=Tryz.underlying21
 a21:=Tryz.isAgg21
 z21:=Tryz.sizeOf21
 v21:=Tryz.zeroValue21
 t37:=Tryz.underlying194
 a37:=Tryz.isAgg194
 z37:=Tryz.sizeOf194
 v37:=Tryz.zeroValue194
 t46:=Tryz.underlying47
 a46:=Tryz.isAgg47
 z46:=Tryz.sizeOf47
 v46:=Tryz.zeroValue47
 t51:=Tryz.underlying189
 a51:=Tryz.isAgg189
 z51:=Tryz.sizeOf189
 v51:=Tryz.zeroValue189
 t53:=Tryz.underlying54
 a53:=Tryz.isAgg54
 z53:=Tryz.sizeOf54
 v53:=Tryz.zeroValue54
 t75:=Tryz.underlying177
 a75:=Tryz.isAgg177
 z75:=Tryz.sizeOf177
 v75:=Tryz.zeroValue177
 t76:=Tryz.underlying180
 a76:=Tryz.isAgg180
 z76:=Tryz.sizeOf180
 v76:=Tryz.zeroValue180
 t85:=Tryz.underlying198
 a85:=Tryz.isAgg198
 z85:=Tryz.sizeOf198
 v85:=Tryz.zeroValue198
 t127:=Tryz.underlying218
 a127:=Tryz.isAgg218
 z127:=Tryz.sizeOf218
 v127:=Tryz.zeroValue218
 t143:=Tryz.underlying219
 a143:=Tryz.isAgg219
 z143:=Tryz.sizeOf219
 v143:=Tryz.zeroValue219
 t145:=Tryz.underlying221
 a145:=Tryz.isAgg221
 z145:=Tryz.sizeOf221
 v145:=Tryz.zeroValue221
 t167:=Tryz.underlying192
 a167:=Tryz.isAgg192
 z167:=Tryz.sizeOf192
 v167:=Tryz.zeroValue192
 t168:=Tryz.underlying195
 a168:=Tryz.isAgg195
 z168:=Tryz.sizeOf195
 v168:=Tryz.zeroValue195
 t171:=Tryz.underlying208
 a171:=Tryz.isAgg208
 z171:=Tryz.sizeOf208
 v171:=Tryz.zeroValue208
 t173:=Tryz.underlying211
 a173:=Tryz.isAgg211
 z173:=Tryz.sizeOf211
 v173:=Tryz.zeroValue211
 t175:=Tryz.underlying178
 a175:=Tryz.isAgg178
 z175:=Tryz.sizeOf178
 v175:=Tryz.zeroValue178
 t210:=Tryz.underlying206
 a210:=Tryz.isAgg206
 z210:=Tryz.sizeOf206
 v210:=Tryz.zeroValue206
 t212:=Tryz.underlying223
 a212:=Tryz.isAgg223
 z212:=Tryz.sizeOf223
 v212:=Tryz.zeroValue223
 t213:=Tryz.underlying224
 a213:=Tryz.isAgg224
 z213:=Tryz.sizeOf224
 t232:=Tryz.underlying240
 a232:=Tryz.isAgg240
 z232:=Tryz.sizeOf240
 v232:=Tryz.zeroValue240
 t233:=Tryz.underlying241
 a233:=Tryz.isAgg241
 z233:=Tryz.sizeOf241
 v233:=Tryz.zeroValue241
 g15:=by kernel_rfl
 g16:=by kernel_rfl
 g17:=by kernel_rfl
 g18:=by kernel_rfl
 g19:=by kernel_rfl}
open Go.RowKit in
theorem Tryz.strconv_Atoi (s:ByteArray) (n:Int) (hl:s.size<=18) (h:Lib.atoi s.data.toList=some n) (w:World):
  Calls Tryz.prog 136 #[.string s] w fun e w'=>e= .returned (.tuple #[.int .i64 n,.nilIface])/\ ∃t,w'=Lib.bytesWorld w 5 t:=Any.strconv_Atoi Tryz.lays172 s n hl h w
def Tryz.laysM171_ren:Go.Shelf.Ren:=⟨fun|171=>137|243=>149|246=>164|283=>171|284=>172|285=>173|286=>174|129=>177|317=>176|318=>178|319=>179|320=>180|337=>183|338=>184|n=>n,fun|3=>3|9=>9|2=>2|4=>4|171=>208|0=>0|53=>54|37=>194|5=>5|173=>211|212=>223|51=>189|20=>20|213=>224|46=>47|232=>240|233=>241|n=>n,fun|17=>5|18=>6|19=>7|n=>n⟩
theorem Tryz.laysM171:Go.Proofs.LaysM.n171 Tryz.prog Tryz.laysM171_ren:= {
 mixed:=by kernel_rfl
 f129:=Tryz.func177.trans (congrArg some (by kernel_rfl))
 f171:=Tryz.func137.trans (congrArg some (by kernel_rfl))
 f243:=Tryz.func149.trans (congrArg some (by kernel_rfl))
 f246:=Tryz.func164.trans (congrArg some (by kernel_rfl))
 f283:=Tryz.func171.trans (congrArg some (by kernel_rfl))
 f284:=Tryz.func172.trans (congrArg some (by kernel_rfl))
 f285:=Tryz.func173.trans (congrArg some (by kernel_rfl))
 f286:=Tryz.func174.trans (congrArg some (by kernel_rfl))
 f317:=Tryz.func176.trans (congrArg some (by kernel_rfl))
 f318:=Tryz.func178.trans (congrArg some (by kernel_rfl))
 f319:=Tryz.func179.trans (congrArg some (by kernel_rfl))
 f320:=Tryz.func180.trans (congrArg some (by kernel_rfl))
 f337:=Tryz.func183.trans (congrArg some (by kernel_rfl))
 f338:=Tryz.func184.trans (congrArg some (by kernel_rfl))
 t0:=Tryz.underlying0
 a0:=Tryz.isAgg0
 z0:=Tryz.sizeOf0
 v0:=Tryz.zeroValue0
 t2:=Tryz.underlying2
 a2:=Tryz.isAgg2
 z2:=Tryz.sizeOf2
 v2:=Tryz.zeroValue2
 t3:=Tryz.underlying3
 a3:=Tryz.isAgg3
 z3:=Tryz.sizeOf3
 v3:=Tryz.zeroValue3
 t4:=Tryz.underlying4
 a4:=Tryz.isAgg4
 z4:=Tryz.sizeOf4
 v4:=Tryz.zeroValue4
 t5:=Tryz.underlying5
 a5:=Tryz.isAgg5
 z5:=Tryz.sizeOf5
 v5:=Tryz.zeroValue5
 t9:=Tryz.underlying9
 a9:=Tryz.isAgg9
 z9:=Tryz.sizeOf9
 v9:=Tryz.zeroValue9
 t20:=Tryz.underlying20
 a20:=Tryz.isAgg20
 z20:=Tryz.sizeOf20
 v20:=Tryz.zeroValue20
 t37:=Tryz.underlying194
 a37:=Tryz.isAgg194
 z37:=Tryz.sizeOf194
 v37:=Tryz.zeroValue194
 t46:=Tryz.underlying47
 a46:=Tryz.isAgg47
 z46:=Tryz.sizeOf47
 v46:=Tryz.zeroValue47
 t51:=Tryz.underlying189
 a51:=Tryz.isAgg189
 z51:=Tryz.sizeOf189
 v51:=Tryz.zeroValue189
 t53:=Tryz.underlying54
 a53:=Tryz.isAgg54
 z53:=Tryz.sizeOf54
 v53:=Tryz.zeroValue54
 t171:=Tryz.underlying208
 a171:=Tryz.isAgg208
 z171:=Tryz.sizeOf208
 v171:=Tryz.zeroValue208
 t173:=Tryz.underlying211
 a173:=Tryz.isAgg211
 z173:=Tryz.sizeOf211
 v173:=Tryz.zeroValue211
 t212:=Tryz.underlying223
 a212:=Tryz.isAgg223
 z212:=Tryz.sizeOf223
 v212:=Tryz.zeroValue223
 t213:=Tryz.underlying224
 a213:=Tryz.isAgg224
 z213:=Tryz.sizeOf224
 t232:=Tryz.underlying240
 a232:=Tryz.isAgg240
 z232:=Tryz.sizeOf240
 v232:=Tryz.zeroValue240
 t233:=Tryz.underlying241
 a233:=Tryz.isAgg241
 z233:=Tryz.sizeOf241
 v233:=Tryz.zeroValue241
 g17:=by kernel_rfl
 g18:=by kernel_rfl
 g19:=by kernel_rfl
 i0:=by kernel_rfl
 i2:=by kernel_rfl
 i3:=by kernel_rfl
 i4:=by kernel_rfl
 i5:=by kernel_rfl
 i9:=by kernel_rfl
 i20:=by kernel_rfl
 i37:=by kernel_rfl
 i46:=by kernel_rfl
 i51:=by kernel_rfl
 i53:=by kernel_rfl
 i171:=by kernel_rfl
 i173:=by kernel_rfl
 i212:=by kernel_rfl
 i232:=by kernel_rfl
 i233:=by kernel_rfl
 m17:=by kernel_rfl
 m18:=by kernel_rfl
 m19:=by kernel_rfl}
open Go.RowKit Go.Sort Go.Lib in
theorem Tryz.strconv_Itoa (n:Int) (h0: -9223372036854775808<=n) (h1:n<=9223372036854775807) (w:World) (htab:Lib.TabIs Tryz.prog w "internal/strconv.uint64pow10" .u64 Lib.pow10Tab):
  Calls Tryz.prog 137 #[.int .i64 n] w fun e w'=>e= .returned (.string ⟨(Lib.itoa n).toArray⟩)/\ ∃k os,w'=grow (w.drewN k) os:=Any.strconv_Itoa Tryz.laysM171 n h0 h1 w htab
def Tryz.laysPu14_ren:Go.Shelf.Ren:=⟨fun|14=>135|16=>146|17=>147|19=>157|20=>158|21=>159|22=>160|23=>161|24=>162|25=>169|27=>137|26=>170|28=>149|29=>164|30=>171|31=>172|32=>173|33=>174|35=>177|34=>176|36=>178|37=>179|38=>180|39=>183|40=>184|n=>n,fun|9=>9|3=>3|22=>54|24=>177|25=>178|4=>4|34=>192|5=>5|36=>47|37=>194|0=>0|39=>195|21=>21|44=>206|47=>218|50=>221|48=>219|2=>2|52=>208|55=>211|59=>223|60=>189|20=>20|61=>224|65=>240|66=>241|67=>242|n=>n,fun|0=>2|1=>3|2=>5|3=>6|4=>7|n=>n⟩
theorem Tryz.laysPu14:Go.Proofs.LaysPu.n14 Tryz.prog Tryz.laysPu14_ren:= {
 mixed:=by kernel_rfl
 f14:=Tryz.func135.trans (congrArg some (by kernel_rfl))
 f16:=Tryz.func146.trans (congrArg some (by kernel_rfl))
 f17:=Tryz.func147.trans (congrArg some (by kernel_rfl))
 f19:=Tryz.func157.trans (congrArg some (by kernel_rfl))
 f20:=Tryz.func158.trans (congrArg some (by kernel_rfl))
 f21:=Tryz.func159.trans (congrArg some (by kernel_rfl))
 f22:=Tryz.func160.trans (congrArg some (by kernel_rfl))
 f23:=Tryz.func161.trans (congrArg some (by kernel_rfl))
 f24:=Tryz.func162.trans (congrArg some (by kernel_rfl))
 f25:=Tryz.func169.trans (congrArg some (by kernel_rfl))
 f26:=Tryz.func170.trans (congrArg some (by kernel_rfl))
 f27:=Tryz.func137.trans (congrArg some (by kernel_rfl))
 f28:=Tryz.func149.trans (congrArg some (by kernel_rfl))
 f29:=Tryz.func164.trans (congrArg some (by kernel_rfl))
 f30:=Tryz.func171.trans (congrArg some (by kernel_rfl))
 f31:=Tryz.func172.trans (congrArg some (by kernel_rfl))
 f32:=Tryz.func173.trans (congrArg some (by kernel_rfl))
 f33:=Tryz.func174.trans (congrArg some (by kernel_rfl))
 f34:=Tryz.func176.trans (congrArg some (by kernel_rfl))
 f35:=Tryz.func177.trans (congrArg some (by kernel_rfl))
 f36:=Tryz.func178.trans (congrArg some (by kernel_rfl))
 f37:=Tryz.func179.trans (congrArg some (by kernel_rfl))
 f38:=Tryz.func180.trans (congrArg some (by kernel_rfl))
 f39:=Tryz.func183.trans (congrArg some (by kernel_rfl))
 f40:=Tryz.func184.trans (congrArg some (by kernel_rfl))
 t0:=Tryz.underlying0
 a0:=Tryz.isAgg0
 z0:=Tryz.sizeOf0
 v0:=Tryz.zeroValue0
 i0:=by kernel_rfl
 t2:=Tryz.underlying2
 a2:=Tryz.isAgg2
 z2:=Tryz.sizeOf2
 v2:=Tryz.zeroValue2
 i2:=by kernel_rfl
 t3:=Tryz.underlying3
 a3:=Tryz.isAgg3
 z3:=Tryz.sizeOf3
 v3:=Tryz.zeroValue3
 i3:=by kernel_rfl
 t4:=Tryz.underlying4
 a4:=Tryz.isAgg4
 z4:=Tryz.sizeOf4
 v4:=Tryz.zeroValue4
 i4:=by kernel_rfl
 t5:=Tryz.underlying5
 a5:=Tryz.isAgg5
 z5:=Tryz.sizeOf5
 v5:=Tryz.zeroValue5
 i5:=by kernel_rfl
 t9:=Tryz.underlying9
 a9:=Tryz.isAgg9
 z9:=Tryz.sizeOf9
 v9:=Tryz.zeroValue9
 i9:=by kernel_rfl
 t20:=Tryz.underlying20
 a20:=Tryz.isAgg20
 z20:=Tryz.sizeOf20
 v20:=Tryz.zeroValue20
 i20:=by kernel_rfl
 t21:=Tryz.underlying21
 a21:=Tryz.isAgg21
 z21:=Tryz.sizeOf21
 v21:=Tryz.zeroValue21
 i21:=by kernel_rfl
 t22:=Tryz.underlying54
 a22:=Tryz.isAgg54
 z22:=Tryz.sizeOf54
 v22:=Tryz.zeroValue54
 i22:=by kernel_rfl
 t24:=Tryz.underlying177
 a24:=Tryz.isAgg177
 z24:=Tryz.sizeOf177
 v24:=Tryz.zeroValue177
 i24:=by kernel_rfl
 t25:=Tryz.underlying178
 a25:=Tryz.isAgg178
 z25:=Tryz.sizeOf178
 v25:=Tryz.zeroValue178
 i25:=by kernel_rfl
 t34:=Tryz.underlying192
 a34:=Tryz.isAgg192
 z34:=Tryz.sizeOf192
 v34:=Tryz.zeroValue192
 i34:=by kernel_rfl
 c34:=by kernel_rfl
 t36:=Tryz.underlying47
 a36:=Tryz.isAgg47
 z36:=Tryz.sizeOf47
 v36:=Tryz.zeroValue47
 i36:=by kernel_rfl
 t37:=Tryz.underlying194
 a37:=Tryz.isAgg194
 z37:=Tryz.sizeOf194
 v37:=Tryz.zeroValue194
 i37:=by kernel_rfl
 t39:=Tryz.underlying195
 a39:=Tryz.isAgg195
 z39:=Tryz.sizeOf195
 v39:=Tryz.zeroValue195
 i39:=by kernel_rfl
 t44:=Tryz.underlying206
 a44:=Tryz.isAgg206
 z44:=Tryz.sizeOf206
 v44:=Tryz.zeroValue206
 i44:=by kernel_rfl
 t47:=Tryz.underlying218
 a47:=Tryz.isAgg218
 z47:=Tryz.sizeOf218
 v47:=Tryz.zeroValue218
 i47:=by kernel_rfl
 t48:=Tryz.underlying219
 a48:=Tryz.isAgg219
 z48:=Tryz.sizeOf219
 v48:=Tryz.zeroValue219
 i48:=by kernel_rfl
 t50:=Tryz.underlying221
 a50:=Tryz.isAgg221
 z50:=Tryz.sizeOf221
 v50:=Tryz.zeroValue221
 i50:=by kernel_rfl
 t52:=Tryz.underlying208
 a52:=Tryz.isAgg208
 z52:=Tryz.sizeOf208
 v52:=Tryz.zeroValue208
 i52:=by kernel_rfl
 t55:=Tryz.underlying211
 a55:=Tryz.isAgg211
 z55:=Tryz.sizeOf211
 v55:=Tryz.zeroValue211
 i55:=by kernel_rfl
 t59:=Tryz.underlying223
 a59:=Tryz.isAgg223
 z59:=Tryz.sizeOf223
 v59:=Tryz.zeroValue223
 i59:=by kernel_rfl
 t60:=Tryz.underlying189
 a60:=Tryz.isAgg189
 z60:=Tryz.sizeOf189
 v60:=Tryz.zeroValue189
 i60:=by kernel_rfl
 t61:=Tryz.underlying224
 a61:=Tryz.isAgg224
 z61:=Tryz.sizeOf224
 t65:=Tryz.underlying240
 a65:=Tryz.isAgg240
 z65:=Tryz.sizeOf240
 v65:=Tryz.zeroValue240
 i65:=by kernel_rfl
 t66:=Tryz.underlying241
 a66:=Tryz.isAgg241
 z66:=Tryz.sizeOf241
 v66:=Tryz.zeroValue241
 i66:=by kernel_rfl
 t67:=Tryz.underlying242
 a67:=Tryz.isAgg242
 z67:=Tryz.sizeOf242
 v67:=Tryz.zeroValue242
 i67:=by kernel_rfl
 g0:=by kernel_rfl
 m0:=by kernel_rfl
 g1:=by kernel_rfl
 m1:=by kernel_rfl
 g2:=by kernel_rfl
 m2:=by kernel_rfl
 g3:=by kernel_rfl
 m3:=by kernel_rfl
 g4:=by kernel_rfl
 m4:=by kernel_rfl}
open Go.RowKit in
theorem Tryz.strconv_ParseUint_10_at64_ok (s:ByteArray) (hmax:s.size<=9223372036854775806) (u:Nat) (h:Lib.parseUintB 64 s.data.toList= .ok u) (w:World):
  Calls Tryz.prog 135 #[.string s,.int .i64 10,.int .i64 64] w fun e w'=>e= .returned (.tuple #[.int .u64 u,.nilIface])/\(w'=w\/w'=Lib.bytesWorld w 5 s):=Any.strconv_ParseUint_10_at64_ok Tryz.laysPu14 s hmax u h w
def Tryz.lays138_ren:Go.Shelf.Ren:=⟨fun|138=>84|195=>111|218=>112|143=>113|219=>134|217=>142|225=>143|224=>144|267=>145|266=>155|314=>156|n=>n,fun|9=>9|3=>3|4=>4|5=>5|0=>0|46=>47|146=>190|51=>189|n=>n,fun|1=>0|n=>n⟩
theorem Tryz.lays138:Go.Proofs.Lays.n138 Tryz.prog Tryz.lays138_ren:= {
 mixed:=by kernel_rfl
 f138:=Tryz.func84.trans (congrArg some (by kernel_rfl))
 f143:=Tryz.func113.trans (congrArg some (by kernel_rfl))
 f195:=Tryz.func111.trans (congrArg some (by kernel_rfl))
 f217:=Tryz.func142.trans (congrArg some (by kernel_rfl))
 f218:=Tryz.func112.trans (congrArg some (by kernel_rfl))
 f219:=Tryz.func134.trans (congrArg some (by kernel_rfl))
 f224:=Tryz.func144.trans (congrArg some (by kernel_rfl))
 f225:=Tryz.func143.trans (congrArg some (by kernel_rfl))
 f266:=Tryz.func155.trans (congrArg some (by kernel_rfl))
 f267:=Tryz.func145.trans (congrArg some (by kernel_rfl))
 f314:=Tryz.func156.trans (congrArg some (by kernel_rfl))
 t0:=Tryz.underlying0
 a0:=Tryz.isAgg0
 z0:=Tryz.sizeOf0
 v0:=Tryz.zeroValue0
 t3:=Tryz.underlying3
 a3:=Tryz.isAgg3
 z3:=Tryz.sizeOf3
 v3:=Tryz.zeroValue3
 t4:=Tryz.underlying4
 a4:=Tryz.isAgg4
 z4:=Tryz.sizeOf4
 v4:=Tryz.zeroValue4
 t5:=Tryz.underlying5
 a5:=Tryz.isAgg5
 z5:=Tryz.sizeOf5
 v5:=Tryz.zeroValue5
 t9:=Tryz.underlying9
 a9:=Tryz.isAgg9
 z9:=Tryz.sizeOf9
 v9:=Tryz.zeroValue9
 t46:=Tryz.underlying47
 a46:=Tryz.isAgg47
 z46:=Tryz.sizeOf47
 v46:=Tryz.zeroValue47
 t51:=Tryz.underlying189
 a51:=Tryz.isAgg189
 z51:=Tryz.sizeOf189
 v51:=Tryz.zeroValue189
 t146:=Tryz.underlying190
 a146:=Tryz.isAgg190
 z146:=Tryz.sizeOf190
 v146:=Tryz.zeroValue190
 g1:=by kernel_rfl}
open Go.RowKit Go.Lib in
theorem Tryz.strings_Count_one (s:ByteArray) (c:UInt8) (w:World):
  Calls Tryz.prog 84 #[.string s,.string ⟨#[c]⟩] w fun e w'=>e= .returned (.int .i64 (Lib.countByte s.data.toList c))/\w'=w:=Any.strings_Count_one Tryz.lays138 s c w
def Tryz.lays149_ren:Go.Shelf.Ren:=⟨fun|149=>85|222=>114|n=>n,fun|9=>9|5=>5|3=>3|4=>4|n=>n,fun|n=>n⟩
theorem Tryz.lays149:Go.Proofs.Lays.n149 Tryz.prog Tryz.lays149_ren:= {
 mixed:=by kernel_rfl
 f149:=Tryz.func85.trans (congrArg some (by kernel_rfl))
 f222:=Tryz.func114.trans (congrArg some (by kernel_rfl))
 t3:=Tryz.underlying3
 a3:=Tryz.isAgg3
 z3:=Tryz.sizeOf3
 v3:=Tryz.zeroValue3
 t4:=Tryz.underlying4
 a4:=Tryz.isAgg4
 z4:=Tryz.sizeOf4
 v4:=Tryz.zeroValue4
 t5:=Tryz.underlying5
 a5:=Tryz.isAgg5
 z5:=Tryz.sizeOf5
 v5:=Tryz.zeroValue5
 t9:=Tryz.underlying9
 a9:=Tryz.isAgg9
 z9:=Tryz.sizeOf9
 v9:=Tryz.zeroValue9}
open Go.RowKit Go.Lib in
theorem Tryz.strings_LastIndexByte (s:ByteArray) (c:Int) (hs:s.size<4611686018427387904) (w:World):
  Calls Tryz.prog 85 #[.string s,.int .u8 c] w fun e w'=>e= .returned (.int .i64 (Lib.lastIndexByte s c))/\w'=w:=Any.strings_LastIndexByte Tryz.lays149 s c hs w
def Tryz.lays157_ren:Go.Shelf.Ren:=⟨fun|157=>150|229=>165|199=>166|261=>175|311=>181|312=>182|n=>n,fun|9=>9|31=>101|3=>3|5=>5|4=>4|119=>201|0=>0|40=>203|152=>213|21=>21|154=>215|51=>189|141=>217|196=>229|193=>226|198=>232|49=>230|194=>227|201=>235|226=>238|46=>47|227=>239|n=>n,fun|0=>1|6=>4|n=>n⟩
theorem Tryz.lays157:Go.Proofs.Lays.n157 Tryz.prog Tryz.lays157_ren:= {
 mixed:=by kernel_rfl
 f157:=Tryz.func150.trans (congrArg some (by kernel_rfl))
 f199:=Tryz.func166.trans (congrArg some (by kernel_rfl))
 f229:=Tryz.func165.trans (congrArg some (by kernel_rfl))
 f261:=Tryz.func175.trans (congrArg some (by kernel_rfl))
 f311:=Tryz.func181.trans (congrArg some (by kernel_rfl))
 f312:=Tryz.func182.trans (congrArg some (by kernel_rfl))
 t0:=Tryz.underlying0
 a0:=Tryz.isAgg0
 z0:=Tryz.sizeOf0
 v0:=Tryz.zeroValue0
 t3:=Tryz.underlying3
 a3:=Tryz.isAgg3
 z3:=Tryz.sizeOf3
 v3:=Tryz.zeroValue3
 t4:=Tryz.underlying4
 a4:=Tryz.isAgg4
 z4:=Tryz.sizeOf4
 v4:=Tryz.zeroValue4
 t5:=Tryz.underlying5
 a5:=Tryz.isAgg5
 z5:=Tryz.sizeOf5
 v5:=Tryz.zeroValue5
 t9:=Tryz.underlying9
 a9:=Tryz.isAgg9
 z9:=Tryz.sizeOf9
 v9:=Tryz.zeroValue9
 t21:=Tryz.underlying21
 a21:=Tryz.isAgg21
 z21:=Tryz.sizeOf21
 v21:=Tryz.zeroValue21
 t31:=Tryz.underlying101
 a31:=Tryz.isAgg101
 z31:=Tryz.sizeOf101
 v31:=Tryz.zeroValue101
 t40:=Tryz.underlying203
 a40:=Tryz.isAgg203
 z40:=Tryz.sizeOf203
 v40:=Tryz.zeroValue203
 t46:=Tryz.underlying47
 a46:=Tryz.isAgg47
 z46:=Tryz.sizeOf47
 v46:=Tryz.zeroValue47
 t49:=Tryz.underlying230
 a49:=Tryz.isAgg230
 z49:=Tryz.sizeOf230
 v49:=Tryz.zeroValue230
 t51:=Tryz.underlying189
 a51:=Tryz.isAgg189
 z51:=Tryz.sizeOf189
 v51:=Tryz.zeroValue189
 t119:=Tryz.underlying201
 a119:=Tryz.isAgg201
 z119:=Tryz.sizeOf201
 t141:=Tryz.underlying217
 a141:=Tryz.isAgg217
 z141:=Tryz.sizeOf217
 v141:=Tryz.zeroValue217
 t152:=Tryz.underlying213
 a152:=Tryz.isAgg213
 z152:=Tryz.sizeOf213
 v152:=Tryz.zeroValue213
 t154:=Tryz.underlying215
 a154:=Tryz.isAgg215
 z154:=Tryz.sizeOf215
 v154:=Tryz.zeroValue215
 t193:=Tryz.underlying226
 a193:=Tryz.isAgg226
 z193:=Tryz.sizeOf226
 v193:=Tryz.zeroValue226
 t194:=Tryz.underlying227
 a194:=Tryz.isAgg227
 z194:=Tryz.sizeOf227
 v194:=Tryz.zeroValue227
 t196:=Tryz.underlying229
 a196:=Tryz.isAgg229
 z196:=Tryz.sizeOf229
 v196:=Tryz.zeroValue229
 t198:=Tryz.underlying232
 a198:=Tryz.isAgg232
 z198:=Tryz.sizeOf232
 v198:=Tryz.zeroValue232
 t201:=Tryz.underlying235
 a201:=Tryz.isAgg235
 z201:=Tryz.sizeOf235
 v201:=Tryz.zeroValue235
 t226:=Tryz.underlying238
 a226:=Tryz.isAgg238
 z226:=Tryz.sizeOf238
 v226:=Tryz.zeroValue238
 t227:=Tryz.underlying239
 a227:=Tryz.isAgg239
 z227:=Tryz.sizeOf239
 v227:=Tryz.zeroValue239
 g0:=by kernel_rfl
 g6:=by kernel_rfl}
open Go.RowKit Go.Lib in
theorem Tryz.strings_Fields (s:ByteArray) (w:World) (hs:s.size<4294967281) (hascii: ∀(j:Nat) b,s.data.toList[j]?=some b->b.toNat<128) (htab:Lib.TabIs Tryz.prog w "strings.asciiSpace" .u8 Lib.asciiSpaceTab):
  Calls Tryz.prog 150 #[.string s] w fun e w'=>
   e= .returned (.slice (some ⟨w.heap.size,0,none⟩) (Lib.fields s.data.toList).length (Lib.fields s.data.toList).length)/\w'=w.alloc (.cells ((Lib.fields s.data.toList).map fun l=>Value.string ⟨l.toArray⟩).toArray 9):=Any.strings_Fields Tryz.lays157 (by kernel_rfl) (by kernel_rfl) s w hs hascii htab
def Tryz.lays112_ren:Go.Shelf.Ren:=⟨fun|112=>125|n=>n,fun|28=>39|3=>3|4=>4|0=>0|n=>n,fun|n=>n⟩
theorem Tryz.lays112:Go.Proofs.Lays.n112 Tryz.prog Tryz.lays112_ren:= {
 mixed:=by kernel_rfl
 f112:=Tryz.func125.trans (congrArg some (by kernel_rfl))
 t0:=Tryz.underlying0
 a0:=Tryz.isAgg0
 z0:=Tryz.sizeOf0
 v0:=Tryz.zeroValue0
 t3:=Tryz.underlying3
 a3:=Tryz.isAgg3
 z3:=Tryz.sizeOf3
 v3:=Tryz.zeroValue3
 t4:=Tryz.underlying4
 a4:=Tryz.isAgg4
 z4:=Tryz.sizeOf4
 v4:=Tryz.zeroValue4
 t28:=Tryz.underlying39
 a28:=Tryz.isAgg39
 z28:=Tryz.sizeOf39
 v28:=Tryz.zeroValue39}
open Go.RowKit Go.Lib Go.Sort in
theorem Tryz.slices_Reverse_int (blk off cap:Nat) (zs:List Int) (w:World) (hH:Holds (Value.int .i64) w blk off zs.toArray) (hsz:zs.length<=9223372036854775807):
  Calls Tryz.prog 125 #[.slice (some ⟨blk,off,none⟩) zs.length cap] w fun e w'=>e= .returned (.tuple #[])/\ ∃n,w'=putRow (Value.int .i64) (Sort.ahead w n) blk off zs.reverse.toArray:=Any.slices_Reverse_int Tryz.lays112 blk off cap zs w hH hsz
open Go.RowKit Go.Lib Go.Sort in
theorem Tryz.slices_Reverse_int_empty (a:Option Addr) (cap:Nat) (w:World):
  Calls Tryz.prog 125 #[.slice a 0 cap] w fun e w'=>e= .returned (.tuple #[])/\w'=w:=Any.slices_Reverse_int_empty Tryz.lays112 a cap w
end Go.Proofs

namespace Go.Proofs.YtnfdieeaelhpbaaGreatDoor
open Go.RowKit
open Go.RowKit Go.Shelf Go.Sort
theorem grow_below (w:World) (k:Nat) (os:Array Go.Obj):Below w.heap.size w (grow (w.drewN k) os):=
 ⟨rfl,rfl,rfl,by simp[grow,World.drewN],fun j hj=>by simp[grow,World.drewN,Array.getElem?_append_left hj]⟩
theorem ASpec.lib {f:FuncId} {args:List AV} {r:AV} (henter: ∀args w,(callFunc f args).run Tryz.prog w= .ok (.enter f args) w) (hn:noOwn r=true) (h: ∀(S:Nat->Prop) (w:World) (us:List Value),rels S W0 w args us->Vr w->Calls Tryz.prog f us.toArray w fun e w'=>∃v,e= .returned v/\Below w.heap.size w w'/\ ∀S',rel S' W0 w' r v):ASpec Tryz.prog f args r []:=by
 refine⟨henter,Clo.one hn,fun S w us hus hv=>?_⟩
 refine(h S w us hus hv.now).mono ?_
 rintro e w' ⟨v,rfl,hb,hr⟩
 exact⟨v,W0,rfl,hb,fun id ob hl=>by simp[lk] at hl,fun k hk=>by simp[feet] at hk,by simp[feet],by simp,hr _⟩
def itoaB (n:Int):ByteArray:=⟨(Lib.itoa n).toArray⟩
theorem Itoa_S (n:Int) (h0: -9223372036854775808<=n) (h1:n<=9223372036854775807):ASpec Tryz.prog 137 [.i .i64 n] (.s (itoaB n)) []:=by
 refine ASpec.lib Tryz.call137 rfl fun S w us hus hv=>?_
 obtain⟨u,us',rfl,e1,e2⟩:=hus
 unfold rels at e2;subst e2
 unfold rel at e1;subst e1
 refine(Tryz.strconv_Itoa n h0 h1 w hv.1).mono ?_
 rintro e w' ⟨rfl,k,os,rfl⟩
 exact⟨_,rfl,grow_below w k os,fun S'=>rfl⟩
theorem bw_below (w:World) (t:ByteArray):Below w.heap.size w (Lib.bytesWorld w 5 t):=
 Lib.bytesWorld_below _ _ _
theorem Atoi_S (s:ByteArray) (n:Int) (hl:s.size<=18) (h:Lib.atoi s.data.toList=some n):ASpec Tryz.prog 136 [.s s] (.tup [.i .i64 n,.v .nilIface]) []:=by
 refine ASpec.lib Tryz.call136 rfl fun S w us hus hv=>?_
 obtain⟨u,us',rfl,e1,e2⟩:=hus
 unfold rels at e2;subst e2
 unfold rel at e1;subst e1
 refine(Tryz.strconv_Atoi s n hl h w).mono ?_
 rintro e w' ⟨rfl,t,rfl⟩
 exact⟨_,rfl,bw_below w t,fun S'=>⟨_,rfl,_,_,rfl,rfl,_,_,rfl,rfl,rfl⟩⟩
theorem ParseUint_S (s:ByteArray) (u:Nat) (hl:s.size<=9223372036854775806) (h:Lib.parseUintB 64 s.data.toList= .ok u):ASpec Tryz.prog 135 [.s s,.i .i64 10,.i .i64 64] (.tup [.i .u64 u,.v .nilIface]) []:=by
 refine ASpec.lib Tryz.call135 rfl fun S w us hus hv=>?_
 obtain⟨u1,us',rfl,e1,u2,us2,rfl,e2,u3,us3,rfl,e3,e4⟩:=hus
 unfold rels at e4;subst e4
 unfold rel at e1 e2 e3;subst e1 e2 e3
 refine(Tryz.strconv_ParseUint_10_at64_ok s hl u h w).mono ?_
 rintro e w' ⟨rfl,hb⟩
 rcases hb with rfl|rfl
 ·exact⟨_,rfl,Below.refl _ _,fun S'=>⟨_,rfl,_,_,rfl,rfl,_,_,rfl,rfl,rfl⟩⟩
 ·exact⟨_,rfl,bw_below w s,fun S'=>⟨_,rfl,_,_,rfl,rfl,_,_,rfl,rfl,rfl⟩⟩
theorem CountK_S (s:ByteArray) (c:UInt8):ASpec Tryz.prog 84 [.s s,.s ⟨#[c]⟩] (.i .i64 (Lib.countByte s.data.toList c)) []:=by
 refine ASpec.lib Tryz.call84 rfl fun S w us hus hv=>?_
 obtain⟨u1,us',rfl,e1,u2,us2,rfl,e2,e4⟩:=hus
 unfold rels at e4;subst e4
 unfold rel at e1 e2;subst e1 e2
 refine(Tryz.strings_Count_one s c w).mono ?_
 rintro e w' ⟨rfl,rfl⟩
 exact⟨_,rfl,Below.refl _ _,fun S'=>rfl⟩
theorem LastByte_S (s:ByteArray) (c:Int) (hs:s.size<4611686018427387904):ASpec Tryz.prog 85 [.s s,.i .u8 c] (.i .i64 (Lib.lastIndexByte s c)) []:=by
 refine ASpec.lib Tryz.call85 rfl fun S w us hus hv=>?_
 obtain⟨u1,us',rfl,e1,u2,us2,rfl,e2,e4⟩:=hus
 unfold rels at e4;subst e4
 unfold rel at e1 e2;subst e1 e2
 refine(Tryz.strings_LastIndexByte s c hs w).mono ?_
 rintro e w' ⟨rfl,rfl⟩
 exact⟨_,rfl,Below.refl _ _,fun S'=>rfl⟩
theorem Fields_S (s:ByteArray) (hs:s.size<4294967281) (hascii: ∀b∈s.data.toList,b.toNat<128):ASpec Tryz.prog 150 [.s s] (eL ((Lib.fields s.data.toList).map fun l=>(⟨l.toArray⟩:ByteArray))) []:=by
 refine⟨Tryz.call150,Clo.one rfl,fun S w us hus hv=>?_⟩
 obtain⟨q,us',rfl,e1,e3⟩:=hus
 unfold rels at e3;subst e3
 unfold rel at e1;subst e1
 refine(Tryz.strings_Fields s w hs (fun j b hj=>hascii b (List.mem_of_getElem? hj)) hv.now.2).mono ?_
 rintro e w' ⟨rfl,rfl⟩
 refine⟨_,W0,rfl,(Below.refl _ _).alloc (Nat.le_refl _) _,fun id ob hl=>by simp[lk] at hl,fun k hk=>by simp[feet] at hk,by simp[feet],by simp,?_⟩
 generalize hl:(Lib.fields s.data.toList).map (fun l=>(⟨l.toArray⟩:ByteArray))=l
 have hlen:(Lib.fields s.data.toList).length=l.length:=by rw[<-hl,List.length_map]
 have hcs:((Lib.fields s.data.toList).map fun l=>Value.string ⟨l.toArray⟩)=l.map Value.string:=by rw[<-hl,List.map_map];rfl
 rw[hlen,hcs]
 have hsm:l.length<=s.size:=by
  rw[<-hlen,Lib.fields_length]
  have: ∀(l:List UInt8) b,Lib.cntF b l<=l.length:=by
   intro l
   induction l with
   |nil=>intro b;exact Nat.le_refl _
   |cons x l ih=>intro b;have:=ih (Lib.isSp x);simp only[Lib.cntF,List.length_cons];split<;>omega
  exact Nat.le_trans (this _ _) (by rw[Array.length_toList];exact Nat.le_refl _)
 refine⟨some ⟨w.heap.size,0,none⟩,_,fun i=>[.string (l.getD i ⟨#[]⟩)],rfl,(fun z hz=>by cases hz),by unfold maxLen;omega,fun i hi=>⟨⟨_,rfl,?_⟩,⟨rfl,rfl⟩,_,_,rfl,rfl,rfl⟩⟩
 intro w'' hz hb j u hu
 have hk:=hb w.heap.size (by rw[heap_push];omega) ⟨.inr (Nat.le_refl _),by simp[feet]⟩
 rw[heap_alloc_new] at hk
 cases j with
 |succ j=>simp at hu
 |zero=>
  simp only[List.getElem?_cons_zero,Option.some.injEq] at hu
  subst hu
  show w''.cell? (((⟨w.heap.size,0,none⟩:Addr).add (i*1)).add 0)=_
  rw[add_none,add_none,cell_blk hk]
  simp only[Nat.zero_add,Nat.mul_one,Nat.add_zero,List.getElem?_map]
  rw[List.getElem?_eq_getElem hi,Option.map_some,List.getD_eq_getElem?_getD,List.getElem?_eq_getElem hi];rfl
def letK (c:Int):Bool:=(decide (97<=c)&&decide (c<=122))||decide (c=95)
def digK (c:Int):Bool:=decide (48<=c)&&decide (c<=57)
theorem letterK_S (c:Int):ASpec Tryz.prog 93 [.i .u8 c] (.b (letK c)) []:=by
 refine ASpec.enter TYok mixed Tryz.func93 rfl Tryz.call93 Tryz.ntmps93 rfl (rs:=[.tmp 2]) rfl (nodupB_ok rfl) (Clo.one rfl) (keep:=[0,2]) ?_;conv=>whnf
 repeat' first|(refine iG ?_ ?_<;>intro hb hc<;>first|exact yE|conv=>whnf)|(refine gqs ?_;conv=>whnf)|(refine yt ?_;conv=>whnf)|exact yK|fail
 all_goals exact⟨_,.keep (by(try simp only[pickB_or,pickB_and]);unfold letK;repeat' (first|rfl|omega|split|(simp_all;done))) rfl⟩
theorem digitK_S (c:Int):ASpec Tryz.prog 109 [.i .u8 c] (.b (digK c)) []:=by
 refine ASpec.enter TYok mixed Tryz.func109 rfl Tryz.call109 Tryz.ntmps109 rfl (rs:=[.tmp 2]) rfl (nodupB_ok rfl) (Clo.one rfl) (keep:=[0,2]) ?_;conv=>whnf
 repeat' first|(refine iG ?_ ?_<;>intro hb hc<;>first|exact yE|conv=>whnf)|(refine gqs ?_;conv=>whnf)|(refine yt ?_;conv=>whnf)|exact yK|fail
def skipW (p:Int->Bool) (s:ByteArray):Nat->Nat->Nat
 |0,i=>i
 |k+1,i=>if i<s.size/\p (byteAt s i)=true then skipW p s k (i+1) else i
def wordC (c:Int):Bool:=letK c||digK c
def behF (s:ByteArray) (i:Nat):Nat:=skipW wordC s (s.size-i) i
def digF (s:ByteArray) (i:Nat):Nat:=skipW digK s (s.size-i) i
theorem skipW_on {p:Int->Bool} {s:ByteArray} {i:Nat} (h:i<s.size) (hp:p (byteAt s i)=true):skipW p s (s.size-i) i=skipW p s (s.size-(i+1)) (i+1):=by
 rw[show s.size-i=(s.size-(i+1))+1 by omega,skipW,if_pos ⟨h,hp⟩]
theorem skipW_off {p:Int->Bool} {s:ByteArray} {i:Nat} (h: ¬(i<s.size/\p (byteAt s i)=true)):skipW p s (s.size-i) i=i:=by
 cases hk:s.size-i with
 |zero=>rfl
 |succ k=>rw[skipW,if_neg h]
theorem skipW_le {p:Int->Bool} {s:ByteArray}: ∀ {k i:Nat},i<=skipW p s k i/\skipW p s k i<=max i s.size
 |0,i=>⟨Nat.le_refl _,Nat.le_max_left _ _⟩
 |k+1,i=>by
  rw[skipW]
  split
  ·have:=skipW_le (p:=p) (s:=s) (k:=k) (i:=i+1);omega
  ·exact⟨Nat.le_refl _,Nat.le_max_left _ _⟩
theorem behindK_S (s:ByteArray) (i:Nat) (hs:s.size<4294967296):ASpec Tryz.prog 94 [.s s,.i .i64 i] (.i .i64 (behF s i)) []:=by
 refine ASpec.enter TYok mixed Tryz.func94 rfl Tryz.call94 Tryz.ntmps94 rfl (rs:=[.tmp 4]) rfl (nodupB_ok rfl) (Clo.one rfl) (keep:=[0,1,4]) ?_;conv=>whnf
 refine lp [1] (fun q:Nat=>[.i .i64 q]) (fun q=>[]) (fun q=>i<=q/\behF s q=behF s i) (fun q=>s.size-q) i ⟨by omega,rfl⟩ ?_ fun q hq=>?_
 ·refine eP [] [] ?_ ?_<;>repeat' first|exact eN|apply zi
 conv=>whnf
 obtain⟨hq,hv⟩:=hq
 repeat' first|(refine iG ?_ ?_<;>intro hb hc<;>first|exact yE|conv=>whnf)|(refine gqs ?_;conv=>whnf)|(refine gqc (x:=fun _=>letterK_S _) (k:= ?_);conv=>whnf)|(refine gqc (x:=fun _=>digitK_S _) (k:= ?_);conv=>whnf)|(refine yt ?_;conv=>whnf)|exact yK|fail
 ·refine .mk (q+1) ⟨by omega,?_⟩ (by omega) ?_
  ·rw[<-hv];exact(skipW_on (by omega) (by simpa[wordC] using hc.2)).symm
  ·refine eP [] [] ?_ ?_<;>repeat' first|exact eN|apply zi
 ·have e:behF s q=q:=skipW_off (by simp only[wordC,Bool.or_eq_true];rintro ⟨h1,h2⟩;rcases hc with h|⟨h,h'⟩<;>simp_all)
  exact⟨_,.keep (by rw[<-hv,e]) rfl⟩
theorem digits_S (s:ByteArray) (i:Nat) (hs:s.size<4294967296):ASpec Tryz.prog 132 [.s s,.i .i64 i] (.i .i64 (digF s i)) []:=by
 refine ASpec.enter TYok mixed Tryz.func132 rfl Tryz.call132 Tryz.ntmps132 rfl (rs:=[.tmp 4]) rfl (nodupB_ok rfl) (Clo.one rfl) (keep:=[0,1,4]) ?_;conv=>whnf
 refine lp [1] (fun q:Nat=>[.i .i64 q]) (fun q=>[]) (fun q=>i<=q/\digF s q=digF s i) (fun q=>s.size-q) i ⟨by omega,rfl⟩ ?_ fun q hq=>?_
 ·refine eP [] [] ?_ ?_<;>repeat' first|exact eN|apply zi
 conv=>whnf
 obtain⟨hq,hv⟩:=hq
 repeat' first|(refine iG ?_ ?_<;>intro hb hc<;>first|exact yE|conv=>whnf)|(refine gqs ?_;conv=>whnf)|(refine gqc (x:=fun _=>digitK_S _) (k:= ?_);conv=>whnf)|(refine yt ?_;conv=>whnf)|exact yK|fail
 ·refine .mk (q+1) ⟨by omega,?_⟩ (by omega) ?_
  ·rw[<-hv];exact(skipW_on (by omega) hc.2).symm
  ·refine eP [] [] ?_ ?_<;>repeat' first|exact eN|apply zi
 ·have e:digF s q=q:=skipW_off (by rintro ⟨h1,h2⟩;rcases hc with h|h<;>simp_all)
  exact⟨_,.keep (by rw[<-hv,e]) rfl⟩
structure TokE where
 kind:Int
 text:ByteArray
 line:Int
 col:Int
 deriving DecidableEq
instance:Enc TokE:=⟨fun x=>[.i .i64 x.kind,.s x.text,.i .i64 x.line,.i .i64 x.col],4,⟨0,⟨#[]⟩,0,0⟩⟩
structure FltE where
 code:Int
 line:Int
 col:Int
 deriving DecidableEq
instance:Enc FltE:=⟨fun x=>[.i .i64 x.code,.i .i64 x.line,.i .i64 x.col],3,⟨0,0,0⟩⟩
def numF (s:ByteArray) (most u:Nat):Bool:= !(decide (s=⟨#[]⟩)||decide (1<(s.size:Int))&&decide (byteAt s 0=48))&&decide ((u:Int)<=most)
theorem numeral_S (s:ByteArray) (most u:Nat) (hs:s.size<4294967296) (h:Lib.parseUintB 64 s.data.toList= .ok u):ASpec Tryz.prog 133 [.s s,.i .u64 most] (.b (numF s most u)) []:=by
 refine ASpec.enter TYok mixed Tryz.func133 rfl Tryz.call133 Tryz.ntmps133 rfl (rs:=[.tmp 4]) rfl (nodupB_ok rfl) (Clo.one rfl) (keep:=[0,1,4,5,6]) ?_;conv=>whnf
 repeat' first|(refine iG ?_ ?_<;>intro hb hc<;>first|exact yE|conv=>whnf)|(refine gqs ?_;conv=>whnf)|(refine gqc (x:=fun _=>ParseUint_S _ _ (by omega) h) (k:= ?_);conv=>whnf)|(refine yt ?_;conv=>whnf)|exact yK|fail
 ·exact⟨_,.keep (by rw[numF,hb];rfl) rfl⟩
 ·exact⟨_,.keep (by rw[numF,hb,pickB_and];rfl) rfl⟩
structure CutE where
 i:Nat
 line:Int
 fr:Nat
 out:List TokE
 code:Int
def cuB (s:ByteArray) (c:CutE):Obj:= .box none (some 128) [.s s,.i .i64 c.i,.i .i64 c.line,.i .i64 c.fr,.orow 1001 4 0 c.out.length,.i .i64 c.code]
def cuO (s:ByteArray) (c:CutE):Os:=[(1000,cuB s c),(1001,oL c.out)]
theorem cuClo {s:ByteArray} {c:CutE} {v:AV} (hv:noOwn v=true):Clo v (cuO s c):=by
 refine⟨fun id hm=>(Bool.noConfusion ((noOwn_men hv).symm.trans hm)),fun i ob h id hm=>?_⟩
 unfold cuO at h⊢
 rw[lk_cons] at h
 split at h
 ·cases h
  have:id=1001:=by
   simp only[cuB,omen,mens,men,Bool.or_false,Bool.false_or] at hm
   exact(Nat.eq_of_beq_eq_true hm).symm
  subst this;rfl
 ·rw[lk_cons] at h
  split at h
  ·cases h;cases hm
  ·simp[lk] at h
def putF (s:ByteArray) (c:CutE) (k:Int) (a b:Nat):CutE:=⟨b,c.line,c.fr,c.out++[⟨k,s.extract a b,c.line,c.i-c.fr+1⟩],c.code⟩
theorem put_S (s:ByteArray) (c:CutE) (k:Int) (a b:Nat) (h:a<=b/\b<=s.size) (hs:s.size<4294967296) (hi:c.fr<=c.i/\c.i<=s.size) (hl:c.out.length<4294967296):
  ASpecM Tryz.prog 82 [.op 1000 0,.i .i64 k,.i .i64 a,.i .i64 b] (cuO s c) (.tup []) (cuO s (putF s c k a b)):=by
 refine ASpecM.enter TYok mixed Tryz.func82 rfl Tryz.call82 Tryz.ntmps82 rfl (rs:=[]) rfl (cuClo rfl) rfl (keep:=[0,1,2,3]) fun pin=>?_;conv=>whnf
 repeat' first|(refine iG ?_ ?_<;>intro hb hc<;>first|exact yE|conv=>whnf)|(refine gqs ?_;conv=>whnf)|(refine yt ?_;conv=>whnf)|exact yK|fail
 refine⟨[(1001,37)],[],?_,?_,rfl⟩<;>repeat' first|exact eN|apply zi|exact snoc_len rfl|exact snoc_get rfl rfl|rw[rfl]
theorem put_A (s:ByteArray) (c:CutE) (k:Int) (a b:Nat) (x y:Int) (hx:x=a) (hy:y=b) (h:a<=b/\b<=s.size) (hs:s.size<4294967296) (hi:c.fr<=c.i/\c.i<=s.size) (hl:c.out.length<4294967296):
  ASpecM Tryz.prog 82 [.op 1000 0,.i .i64 k,.i .i64 x,.i .i64 y] (cuO s c) (.tup []) (cuO s (putF s c k a b)):=by subst hx hy;exact put_S s c k a b h hs hi hl
def numberF (s:ByteArray) (c:CutE) (k:Int) (a most u:Nat):CutE×Bool:=
 if numF (s.extract a (digF s a)) most u then(putF s c k a (digF s a),true) else({ c with code:=2},false)
theorem number_S (s:ByteArray) (c:CutE) (k:Int) (a most u:Nat) (ha:a<=s.size) (hu:Lib.parseUintB 64 (s.extract a (digF s a)).data.toList= .ok u) (hm:most<18446744073709551616) (hs:s.size<4294967296) (hi:c.fr<=c.i/\c.i<=s.size) (hl:c.out.length<4294967296):
  ASpecM Tryz.prog 110 [.op 1000 0,.i .i64 k,.i .i64 a,.i .u64 most] (cuO s c) (.b (numberF s c k a most u).2) (cuO s (numberF s c k a most u).1):=by
 have h1:a<=digF s a/\digF s a<=s.size:=by have:=skipW_le (p:=digK) (s:=s) (k:=s.size-a) (i:=a);unfold digF;omega
 have h2:(s.extract a (digF s a)).size<4294967296:=by rw[ByteArray.size_extract];omega
 refine ASpecM.enter TYok mixed Tryz.func110 rfl Tryz.call110 Tryz.ntmps110 rfl (rs:=[.tmp 8]) rfl (cuClo rfl) rfl (keep:=[0,1,2,3,8,9]) fun pin=>?_;conv=>whnf
 repeat' first|(refine iG ?_ ?_<;>intro hb hc<;>first|exact yE|conv=>whnf)|(refine gqs ?_;conv=>whnf)|(refine gqc (x:=fun _=>digits_S s a hs) (k:= ?_);conv=>whnf)|(refine gqc (x:=fun _=>numeral_S _ most u h2 hu) (k:= ?_);conv=>whnf)|(refine gqm (x:=put_S s c k a (digF s a) h1 hs hi hl) (k:= ?_);conv=>whnf)|(refine yt ?_;conv=>whnf)|exact yK|fail
 ·rw[show numberF s c k a most u=({ c with code:=2},false) by rw[numberF,if_neg (by rw[hc];exact fun h=>nomatch h)]]
  refine⟨[],[],?_,?_,rfl⟩<;>repeat' first|exact eN|apply zi
 ·rw[show numberF s c k a most u=(putF s c k a (digF s a),true) by rw[numberF,if_pos hc]]
  refine⟨[],[],?_,?_,rfl⟩<;>repeat' first|exact eN|apply zi
theorem number_A (s:ByteArray) (c:CutE) (k:Int) (a most u:Nat) (x y:Int) (hx:x=a) (hy:y=most) (ha:a<=s.size) (hu:Lib.parseUintB 64 (s.extract a (digF s a)).data.toList= .ok u) (hm:most<18446744073709551616) (hs:s.size<4294967296) (hi:c.fr<=c.i/\c.i<=s.size) (hl:c.out.length<4294967296):
  ASpecM Tryz.prog 110 [.op 1000 0,.i .i64 k,.i .i64 x,.i .u64 y] (cuO s c) (.b (numberF s c k a most u).2) (cuO s (numberF s c k a most u).1):=by subst hx hy;exact number_S s c k a most u ha hu hm hs hi hl
theorem behind_A (s:ByteArray) (i:Nat) (x:Int) (hx:x=i) (hs:s.size<4294967296):ASpec Tryz.prog 94 [.s s,.i .i64 x] (.i .i64 (behF s i)) []:=by subst hx;exact behindK_S s i hs
def markB (b:Int):Bool:=decide (b=61)||decide (b=44)||decide (b=40)||decide (b=41)||decide (b=58)
def pieceF (s:ByteArray) (c:CutE) (b:Int) (u:Nat):CutE×Bool:=
 if markB b=true then(putF s c 5 c.i (c.i+1),true)
 else if letK b=true then(putF s c 1 c.i (behF s c.i),true)
 else if digK b=true then numberF s c 2 c.i 18446744073709551615 u
 else if b=37 then numberF s c 3 (c.i+1) 4095 u
 else if(decide (b=64)&&decide ((c.i:Int)+1<s.size)&&letK (byteAt s (c.i+1)))=true then(putF s c 4 (c.i+1) (behF s (c.i+1)),true)
 else({ c with code:=1},false)
theorem behF_le {s:ByteArray} {i:Nat} (h:i<=s.size):i<=behF s i/\behF s i<=s.size:=by
 have:=skipW_le (p:=wordC) (s:=s) (k:=s.size-i) (i:=i);unfold behF;omega
theorem piece_S (s:ByteArray) (c:CutE) (b:Int) (u:Nat) (hb0:digK b=true->Lib.parseUintB 64 (s.extract c.i (digF s c.i)).data.toList= .ok u) (hb1:b=37->Lib.parseUintB 64 (s.extract (c.i+1) (digF s (c.i+1))).data.toList= .ok u) (hs:s.size<4294967296) (hi:c.fr<=c.i/\c.i<s.size) (hl:c.out.length<4294967296):
  ASpecM Tryz.prog 83 [.op 1000 0,.i .u8 b] (cuO s c) (.b (pieceF s c b u).2) (cuO s (pieceF s c b u).1):=by
 have h1:=behF_le (s:=s) (i:=c.i) (by omega)
 have h2:=behF_le (s:=s) (i:=c.i+1) (by omega)
 refine ASpecM.enter TYok mixed Tryz.func83 rfl Tryz.call83 Tryz.ntmps83 rfl (rs:=[.tmp 4]) rfl (cuClo rfl) rfl (keep:=[0,1,4]) fun pin=>?_;conv=>whnf
 repeat' first|(refine iG ?_ ?_<;>intro hb hc<;>first|exact yE|conv=>whnf)|(refine gqs ?_;conv=>whnf)|(refine gqc (x:=fun _=>letterK_S _) (k:= ?_);conv=>whnf)|(refine gqc (x:=fun _=>digitK_S _) (k:= ?_);conv=>whnf)|(refine yt ?_;conv=>whnf)|exact yK|fail
 ·have e:pieceF s c b u=(putF s c 5 c.i (c.i+1),true):=by rw[pieceF,if_pos (by simp only[markB,Bool.or_eq_true,decide_eq_true_eq];omega)]
  refine CallW.chg ?_;(conv=>whnf);refine cM (put_A s c 5 c.i (c.i+1) c.i (c.i+1) rfl (by omega) (by omega) hs (by omega) hl) ?_;conv=>whnf
  repeat' first|(refine iG ?_ ?_<;>intro hb hc<;>first|exact yE|conv=>whnf)|(refine gqs ?_;conv=>whnf)|(refine yt ?_;conv=>whnf)|exact yK|fail
  rw[e]
  refine⟨[],[],?_,?_,rfl⟩<;>repeat' first|exact eN|apply zi
 all_goals have hm: ¬markB b=true:=by simp only[markB,Bool.or_eq_true,decide_eq_true_eq];omega
 ·have e:pieceF s c b u=(putF s c 1 c.i (behF s c.i),true):=by rw[pieceF,if_neg hm,if_pos (by assumption)]
  repeat' first|(refine iG ?_ ?_<;>intro hb hc<;>first|exact yE|conv=>whnf)|(refine gqs ?_;conv=>whnf)|(refine gqc (x:=fun _=>behindK_S s c.i hs) (k:= ?_);conv=>whnf)|(refine gqm (x:=put_S s c 1 c.i (behF s c.i) h1 hs (by omega) hl) (k:= ?_);conv=>whnf)|(refine yt ?_;conv=>whnf)|exact yK|fail
  rw[e]
  refine⟨[],[],?_,?_,rfl⟩<;>repeat' first|exact eN|apply zi
 ·have e:pieceF s c b u=numberF s c 2 c.i 18446744073709551615 u:=by rw[pieceF,if_neg hm,if_neg (by simp_all),if_pos (by assumption)]
  refine CallW.chg ?_;(conv=>whnf);refine cM (number_A s c 2 c.i 18446744073709551615 u c.i 18446744073709551615 rfl rfl (by omega) (hb0 (by assumption)) (by omega) hs (by omega) hl) ?_;conv=>whnf
  repeat' first|(refine iG ?_ ?_<;>intro hb hc<;>first|exact yE|conv=>whnf)|(refine gqs ?_;conv=>whnf)|(refine yt ?_;conv=>whnf)|exact yK|fail
  rw[e]
  refine⟨[],[],?_,?_,rfl⟩<;>repeat' first|exact eN|apply zi
 ·have e:pieceF s c b u=numberF s c 3 (c.i+1) 4095 u:=by rw[pieceF,if_neg hm,if_neg (by simp_all),if_neg (by simp_all),if_pos (by assumption)]
  refine CallW.chg ?_;(conv=>whnf);refine cM (number_A s c 3 (c.i+1) 4095 u (c.i+1) 4095 (by omega) rfl (by omega) (hb1 (by assumption)) (by omega) hs (by omega) hl) ?_;conv=>whnf
  repeat' first|(refine iG ?_ ?_<;>intro hb hc<;>first|exact yE|conv=>whnf)|(refine gqs ?_;conv=>whnf)|(refine yt ?_;conv=>whnf)|exact yK|fail
  rw[e]
  refine⟨[],[],?_,?_,rfl⟩<;>repeat' first|exact eN|apply zi
 ·have e:pieceF s c b u=(putF s c 4 (c.i+1) (behF s (c.i+1)),true):=by rw[pieceF,if_neg hm,if_neg (by simp_all),if_neg (by simp_all),if_neg (by simp_all),if_pos hb]
  repeat' first|(refine iG ?_ ?_<;>intro hb hc<;>first|exact yE|conv=>whnf)|(refine gqs ?_;conv=>whnf)|(refine gqc (x:=fun _=>behind_A s (c.i+1) (c.i+1) (by omega) hs) (k:= ?_);conv=>whnf)|(refine yt ?_;conv=>whnf)|exact yK|fail
  refine CallW.chg ?_;(conv=>whnf);refine cM (put_A s c 4 (c.i+1) (behF s (c.i+1)) (c.i+1) (behF s (c.i+1)) (by omega) rfl h2 hs (by omega) hl) ?_;conv=>whnf
  repeat' first|(refine iG ?_ ?_<;>intro hb hc<;>first|exact yE|conv=>whnf)|(refine gqs ?_;conv=>whnf)|(refine yt ?_;conv=>whnf)|exact yK|fail
  rw[e]
  refine⟨[],[],?_,?_,rfl⟩<;>repeat' first|exact eN|apply zi
 ·have e:pieceF s c b u=({ c with code:=1},false):=by rw[pieceF,if_neg hm,if_neg (by simp_all),if_neg (by simp_all),if_neg (by simp_all),if_neg (by rw[hb];exact fun h=>nomatch h)]
  rw[e]
  refine⟨[],[],?_,?_,rfl⟩<;>repeat' first|exact eN|apply zi
def rem10 (s:ByteArray) (i:Nat):Nat:=skipW (fun c=>decide (c≠10)) s (s.size-i) i
def passF (s:ByteArray) (c:CutE) (u:Nat):CutE×Bool:=
 let b:=byteAt s c.i
 if b=32\/b=9\/b=13 then({ c with i:=c.i+1},true)
 else if b=35 then({ c with i:=rem10 s c.i},true)
 else if b=10 then(⟨c.i+1,c.line+1,c.i+1,(putF s c 6 c.i c.i).out,c.code⟩,true)
 else pieceF s c b u
def numU (s:ByteArray) (i:Nat):Option Nat:=match Lib.parseUintB 64 (s.extract i (digF s i)).data.toList with
 | .ok u=>some u
 |_=>none
def uAt (s:ByteArray) (i:Nat):Nat:=((numU s i).or (numU s (i+1))).getD 0
def okAt (s:ByteArray) (i:Nat):Bool:=
 (!digK (byteAt s i)||decide (Lib.parseUintB 64 (s.extract i (digF s i)).data.toList= .ok (uAt s i)))&&(!decide (byteAt s i=37)||decide (Lib.parseUintB 64 (s.extract (i+1) (digF s (i+1))).data.toList= .ok (uAt s i)))
def runT (s:ByteArray):Nat->CutE->Option CutE
 |0,_=>none
 |k+1,c=>if c.i=s.size then some c else if okAt s c.i=true/\(passF s c (uAt s c.i)).2=true then runT s k (passF s c (uAt s c.i)).1 else none
def cut0:CutE:=⟨0,1,0,[],0⟩
def fltB:Obj:= .box none (some 65) [.i .i64 0,.i .i64 0,.i .i64 0]
def passN (s:ByteArray) (c:CutE):Nat->CutE
 |0=>c
 |q+1=>(passF s (passN s c q) (uAt s (passN s c q).i)).1
theorem passN_shift (s:ByteArray) (c:CutE): ∀q,passN s (passF s c (uAt s c.i)).1 q=passN s c (q+1)
 |0=>rfl
 |q+1=>by rw[passN,passN_shift s c q];rfl
theorem runT_all (s:ByteArray) (c':CutE): ∀(K:Nat) (c:CutE),runT s K c=some c'-> ∃N,N<=K/\c'=passN s c N/\c'.i=s.size/\ ∀q,q<N-> ¬(passN s c q).i=s.size/\okAt s (passN s c q).i=true/\(passF s (passN s c q) (uAt s (passN s c q).i)).2=true
 |0,c,h=>nomatch h
 |K+1,c,h=>by
  rw[runT] at h
  split at h
  ·rename_i e;cases h;exact⟨0,Nat.zero_le _,rfl,e,fun q hq=>by omega⟩
  ·rename_i e
   split at h
   ·rename_i hk
    obtain⟨N,h1,h2,h3,h4⟩:=runT_all s c' K _ h
    refine⟨N+1,by omega,by rw[h2,passN_shift],h3,fun q hq=>?_⟩
    cases q with
    |zero=>exact⟨e,hk⟩
    |succ q=>rw[<-passN_shift];exact h4 q (by omega)
   ·cases h
theorem digF_le {s:ByteArray} {i:Nat} (h:i<=s.size):i<=digF s i/\digF s i<=s.size:=by
 have:=skipW_le (p:=digK) (s:=s) (k:=s.size-i) (i:=i);unfold digF;omega
theorem rem10_le {s:ByteArray} {i:Nat} (h:i<=s.size):i<=rem10 s i/\rem10 s i<=s.size:=by
 have:=skipW_le (p:=fun c=>decide (c≠10)) (s:=s) (k:=s.size-i) (i:=i);unfold rem10;omega
def cutOk (s:ByteArray) (c:CutE) (n:Nat):Prop:=(c.fr<=c.i/\c.i<=s.size)/\c.out.length<=n/\0<=c.line/\c.line<=n+1
theorem putF_ok {s:ByteArray} {c:CutE} {k:Int} {a b n:Nat} (h:cutOk s c n) (h1:c.i<=b) (h2:b<=s.size):cutOk s (putF s c k a b) (n+1):=
 ⟨⟨Nat.le_trans h.1.1 h1,h2⟩,by show(c.out++[_]).length<=_;rw[List.length_append];have:=h.2.1;simp;omega,h.2.2.1,by show c.line<=_;have:=h.2.2.2;omega⟩
theorem numberF_ok {s:ByteArray} {c:CutE} {k:Int} {a m u n:Nat} (h:cutOk s c n) (h1:c.i<=a) (h2:a<=s.size):cutOk s (numberF s c k a m u).1 (n+1):=by
 have h3:=digF_le h2
 have h4:=h.2.2.2
 unfold numberF
 split
 ·exact putF_ok h (by omega) (by omega)
 ·exact⟨h.1,Nat.le_succ_of_le h.2.1,h.2.2.1,by show c.line<=_;omega⟩
theorem passF_ok {s:ByteArray} {c:CutE} {u n:Nat} (h:cutOk s c n) (hi:c.i<s.size):cutOk s (passF s c u).1 (n+1):=by
 have h1:=behF_le (s:=s) (i:=c.i) (by omega)
 have h2:=behF_le (s:=s) (i:=c.i+1) (by omega)
 have h3:=rem10_le (s:=s) (i:=c.i) (by omega)
 have h4:=h.1.1
 have h5:=Nat.le_succ_of_le h.2.1
 have h6:=h.2.2.1
 have h7:c.line<=((n+1:Nat):Int)+1:=by have:=h.2.2.2;omega
 unfold passF
 simp only
 split
 ·exact⟨⟨by show c.fr<=c.i+1;omega,hi⟩,h5,h6,h7⟩
 ·split
  ·exact⟨⟨by show c.fr<=rem10 s c.i;omega,by show rem10 s c.i<=_;omega⟩,h5,h6,h7⟩
  ·split
   ·exact⟨⟨Nat.le_refl _,hi⟩,(putF_ok (k:=6) (a:=c.i) (b:=c.i) h (Nat.le_refl _) (by omega)).2.1,by show 0<=c.line+1;omega,by show c.line+1<=_;have:=h.2.2.2;omega⟩
   ·unfold pieceF
    split
    ·exact putF_ok h (by omega) (by omega)
    ·split
     ·exact putF_ok h (by omega) (by omega)
     ·split
      ·exact numberF_ok h (Nat.le_refl _) (by omega)
      ·split
       ·exact numberF_ok h (by omega) (by omega)
       ·split
        ·exact putF_ok h (by omega) (by omega)
        ·exact⟨h.1,h5,h6,h7⟩
theorem Tokens_S (s:ByteArray) (K:Nat) (c':CutE) (h:runT s K cut0=some c') (hs:s.size<=65536) (hK:K<=4294967):ASpec Tryz.prog 44 [.s s] (.tup [eL c'.out,eS (⟨0,0,0⟩:FltE)]) []:=by
 obtain⟨N,hN,e0,e1,hall⟩:=runT_all s c' K cut0 h
 have hok: ∀q,q<=N->cutOk s (passN s cut0 q) q:=fun q=>by
  induction q with
  |zero=>intro _;exact⟨⟨Nat.le_refl _,Nat.zero_le _⟩,Nat.le_refl _,(by show(0:Int)<=1;decide),(by show(1:Int)<=0+1;decide)⟩
  |succ q ih=>
   intro hq
   have h1:=ih (by omega)
   have:=(hall q (by omega)).1
   exact passF_ok h1 (by have:=h1.1.2;omega)
 refine ASpec.enterS TYok mixed Tryz.func44 rfl Tryz.call44 Tryz.ntmps44 rfl (rs:=[.tmp 2,.cell 3 65]) rfl (nodupB_ok rfl) (Clo.one rfl) (keep:=[0,2,3,4,5]) ?_;conv=>whnf
 repeat' first|(refine iG ?_ ?_<;>intro hb hc<;>first|exact yE|conv=>whnf)|(refine gqs ?_;conv=>whnf)|(refine yt ?_;conv=>whnf)|exact yK|fail
 refine lp [4] (fun q:Nat=>[.op 1000 0]) (fun q=>(3,fltB)::cuO s (passN s cut0 q)) (fun q=>q<=N) (fun q=>N-q) 0 (Nat.zero_le _) ?_ fun q hq=>?_
 ·refine eP [(1000,12)] [1001] ?_ ?_<;>repeat' first|exact eN|apply zi
 conv=>whnf
 have hg:=hok q hq
 have hall:=hall q
 have e2:passN s cut0 (q+1)=(passF s (passN s cut0 q) (uAt s (passN s cut0 q).i)).1:=rfl
 have e3:q=N->c'=passN s cut0 q:=fun e=>by rw[e0,e]
 have e4: ∀c2,(passF s (passN s cut0 q) (uAt s (passN s cut0 q).i)).1=c2->passN s cut0 (q+1)=c2:=fun c2 e=>e
 generalize hc0:passN s cut0 q=c at*
 obtain⟨⟨h1,h2⟩,h3,h4,h5⟩:=hg
 have hlt: ¬(c.i:Int)=s.size->q<N:=fun hne=>by
  rcases Nat.lt_or_ge q N with h|h
  ·exact h
  ·exfalso;have:=e3 (by omega);rw[this] at e1;omega
 repeat' first|(refine iG ?_ ?_<;>intro hb hc<;>first|exact yE|conv=>whnf)|(refine gqs ?_;conv=>whnf)|(refine yt ?_;conv=>whnf)|exact yK|fail
 ·have hqN:q=N:=by
   rcases Nat.lt_or_ge q N with h|h
   ·exact absurd (by omega) (hall h).1
   ·omega
  rw[e3 hqN]
  exact⟨_,.tup (.cons (.freeze rfl (by omega) rfl (fun _ _=>rfl) rfl) (.cons (.keep rfl rfl) .nil (by simp)) (by simp))⟩
 ·have hq2:=hlt (by assumption)
  have e5:=e4 _ (show(passF s c (uAt s c.i)).1= { c with i:=c.i+1} by simp only[passF];rw[if_pos (by simpa[or_assoc] using hc)])
  refine .mk (q+1) hq2 (by omega) ?_
  refine eP [] [] ?_ ?_<;>repeat' first|exact eN|apply zi|exact snoc_len e5|exact snoc_get e5 rfl|rw[e5]
 ·have hq2:=hlt (by assumption)
  have e5:=e4 _ (show(passF s c (uAt s c.i)).1= { c with i:=rem10 s c.i} by simp only[passF];rw[if_neg (by simp_all),if_pos hc])
  refine lp [] (fun j:Nat=>[]) (fun j=>(3,fltB)::cuO s { c with i:=j}) (fun j=>c.i<=j/\j<=s.size/\rem10 s j=rem10 s c.i) (fun j=>s.size-j) c.i ⟨Nat.le_refl _,h2,rfl⟩ ?_ fun j hj=>?_
  ·refine eP [] [] ?_ ?_<;>repeat' first|exact eN|apply zi
  conv=>whnf
  obtain⟨hj1,hj2,hj3⟩:=hj
  repeat' first|(refine iG ?_ ?_<;>intro hb hc<;>first|exact yE|conv=>whnf)|(refine gqs ?_;conv=>whnf)|(refine yt ?_;conv=>whnf)|exact yK|fail
  ·refine .mk (j+1) ⟨by omega,by omega,?_⟩ (by omega) ?_
   ·rw[<-hj3];exact(skipW_on (by omega) (decide_eq_true hc.2)).symm
   ·refine eP [] [] ?_ ?_<;>repeat' first|exact eN|apply zi
  ·have ej:rem10 s j=j:=skipW_off (by rintro ⟨g1,g2⟩;have:=of_decide_eq_true g2;omega)
   rw[<-hj3,ej] at e5
   refine .mk (q+1) hq2 (by omega) ?_
   refine eP [] [] ?_ ?_<;>repeat' first|exact eN|apply zi|exact snoc_len e5|exact snoc_get e5 rfl|rw[e5]
 ·have hq2:=hlt (by assumption)
  have e5:=e4 _ (show(passF s c (uAt s c.i)).1=⟨c.i+1,c.line+1,c.i+1,(putF s c 6 c.i c.i).out,c.code⟩ by simp only[passF];rw[if_neg (by simp_all),if_neg (by simp_all),if_pos hc])
  have e6:(putF s c 6 c.i c.i).i=c.i:=rfl
  have e7:(putF s c 6 c.i c.i).line=c.line:=rfl
  refine CallW.chg ?_;(conv=>whnf);refine cM (put_A s c 6 c.i c.i c.i c.i rfl rfl (by omega) (by omega) (by omega) (by omega)) ?_;conv=>whnf
  repeat' first|(refine iG ?_ ?_<;>intro hb hc<;>first|exact yE|conv=>whnf)|(refine gqs ?_;conv=>whnf)|(refine yt ?_;conv=>whnf)|exact yK|fail
  refine .mk (q+1) hq2 (by omega) ?_
  refine eP [] [] ?_ ?_<;>repeat' first|exact eN|apply zi|exact snoc_len e5|exact snoc_get e5 rfl|rw[e5]
 ·have hq2:=hlt (by assumption)
  have e6:passF s c (uAt s c.i)=pieceF s c (byteAt s c.i) (uAt s c.i):=by simp only[passF];rw[if_neg (by simp_all),if_neg (by simp_all),if_neg (by simp_all)]
  have e5:=e4 _ (by rw[e6])
  obtain⟨g1,g2,g3⟩:=hall hq2
  rw[e6] at g3
  simp only[okAt,Bool.and_eq_true,Bool.or_eq_true,Bool.not_eq_true',decide_eq_true_eq,decide_eq_false_iff_not] at g2
  refine CallW.chg ?_;(conv=>whnf);refine cM (piece_S s c (byteAt s c.i) (uAt s c.i) (fun h=>g2.1.resolve_left (by rw[h];exact fun h=>nomatch h)) (fun h=>g2.2.resolve_left (fun k=>k h)) (by omega) (by omega) (by omega)) ?_;conv=>whnf
  have e7:=passF_ok (u:=uAt s c.i) (⟨⟨h1,h2⟩,h3,h4,h5⟩:cutOk s c q) (by omega)
  rw[e6] at e7
  have e8:=e7.1
  repeat' first|(refine iG ?_ ?_<;>intro hb hc<;>first|exact yE|conv=>whnf)|(refine gqs ?_;conv=>whnf)|(refine yt ?_;conv=>whnf)|exact yK|fail
  ·rw[g3] at hb;cases hb
  refine .mk (q+1) hq2 (by omega) ?_
  refine eP [] [] ?_ ?_<;>repeat' first|exact eN|apply zi|exact snoc_len e5|exact snoc_get e5 rfl|rw[e5]
mutual
def renA (σ:Nat->Nat):AV->AV
 | .op id off=>.op (σ id) off
 | .orow id e off n=>.orow (σ id) e off n
 | .rp id e i j=>.rp (σ id) e i j
 | .omap id=>.omap (σ id)
 | .pth id p e off n=>.pth (σ id) p e off n
 | .pp id p e i j=>.pp (σ id) p e i j
 | .agg cs=>.agg (renAs σ cs)
 | .tup cs=>.tup (renAs σ cs)
 | .clo f cs=>.clo f (renAs σ cs)
 | .ifc t x=>.ifc t (renA σ x)
 |x=>x
def renAs (σ:Nat->Nat):List AV->List AV
 |[]=>[]
 |x::xs=>renA σ x::renAs σ xs
end
def renOb (σ:Nat->Nat):Obj->Obj
 | .box p q cs=>.box p q (renAs σ cs)
 |x=>x
def renO (σ:Nat->Nat):Os->Os
 |[]=>[]
 |(i,ob)::o=>(σ i,renOb σ ob)::renO σ o
mutual
theorem rel_ren {σ:Nat->Nat} {S:Nat->Prop} {β:Nat->Wt} {w:World}: ∀(x:AV) (u:Value),rel S β w (renA σ x) u↔rel S (fun i=>β (σ i)) w x u
 | .i k z,u=>Iff.rfl
 | .b t,u=>Iff.rfl
 | .s x,u=>Iff.rfl
 | .v x,u=>Iff.rfl
 | .nil,u=>Iff.rfl
 | .row nz e n get,u=>Iff.rfl
 | .cp cs,u=>Iff.rfl
 | .op id off,u=>Iff.rfl
 | .orow id e off n,u=>Iff.rfl
 | .rp id e i j,u=>Iff.rfl
 | .omap id,u=>Iff.rfl
 | .any,u=>Iff.rfl
 | .pth _ _ _ _ _,u=>Iff.rfl
 | .pp _ _ _ _ _,u=>Iff.rfl
 | .agg cs,u=>⟨fun⟨us,h1,h2⟩=>⟨us,h1,(rels_ren cs us).1 h2⟩,fun⟨us,h1,h2⟩=>⟨us,h1,(rels_ren cs us).2 h2⟩⟩
 | .tup cs,u=>⟨fun⟨us,h1,h2⟩=>⟨us,h1,(rels_ren cs us).1 h2⟩,fun⟨us,h1,h2⟩=>⟨us,h1,(rels_ren cs us).2 h2⟩⟩
 | .clo f cs,u=>⟨fun⟨us,h1,h2⟩=>⟨us,h1,(rels_ren cs us).1 h2⟩,fun⟨us,h1,h2⟩=>⟨us,h1,(rels_ren cs us).2 h2⟩⟩
 | .ifc t x,u=>⟨fun⟨u',h1,h2⟩=>⟨u',h1,(rel_ren x u').1 h2⟩,fun⟨u',h1,h2⟩=>⟨u',h1,(rel_ren x u').2 h2⟩⟩
theorem rels_ren {σ:Nat->Nat} {S:Nat->Prop} {β:Nat->Wt} {w:World}: ∀(x:List AV) (u:List Value),rels S β w (renAs σ x) u↔rels S (fun i=>β (σ i)) w x u
 |[],u=>Iff.rfl
 |x::xs,u=>⟨fun⟨q,us,h1,h2,h3⟩=>⟨q,us,h1,(rel_ren x q).1 h2,(rels_ren xs us).1 h3⟩,fun⟨q,us,h1,h2,h3⟩=>⟨q,us,h1,(rel_ren x q).2 h2,(rels_ren xs us).2 h3⟩⟩
end
mutual
theorem men_ren {σ:Nat->Nat} {d:Nat}: ∀(x:AV),men d (renA σ x)=true-> ∃i,d=σ i/\men i x=true
 | .i k z,h=>nomatch h
 | .b t,h=>nomatch h
 | .s x,h=>nomatch h
 | .v x,h=>nomatch h
 | .nil,h=>nomatch h
 | .row nz e n get,h=>nomatch h
 | .cp cs,h=>nomatch h
 | .any,h=>nomatch h
 | .op id off,h=>⟨id,(Nat.eq_of_beq_eq_true h).symm,by simp[men]⟩
 | .orow id e off n,h=>⟨id,(Nat.eq_of_beq_eq_true h).symm,by simp[men]⟩
 | .rp id e i j,h=>⟨id,(Nat.eq_of_beq_eq_true h).symm,by simp[men]⟩
 | .omap id,h=>⟨id,(Nat.eq_of_beq_eq_true h).symm,by simp[men]⟩
 | .pth id _ _ _ _,h=>⟨id,(Nat.eq_of_beq_eq_true h).symm,by simp[men]⟩
 | .pp id _ _ _ _,h=>⟨id,(Nat.eq_of_beq_eq_true h).symm,by simp[men]⟩
 | .agg cs,h=>mens_ren cs h
 | .tup cs,h=>mens_ren cs h
 | .clo f cs,h=>mens_ren cs h
 | .ifc t x,h=>men_ren x h
theorem mens_ren {σ:Nat->Nat} {d:Nat}: ∀(x:List AV),mens d (renAs σ x)=true-> ∃i,d=σ i/\mens i x=true
 |[],h=>nomatch h
 |x::xs,h=>by
  simp only[renAs,mens,Bool.or_eq_true] at h
  rcases h with h|h
  ·obtain⟨i,h1,h2⟩:=men_ren x h
   exact⟨i,h1,by simp[mens,h2]⟩
  ·obtain⟨i,h1,h2⟩:=mens_ren xs h
   exact⟨i,h1,by simp[mens,h2]⟩
end
theorem orel_ren {σ:Nat->Nat} {S:Nat->Prop} {β:Nat->Wt} {w:World} {W:Wt}: ∀ {ob:Obj},orel S β w W (renOb σ ob)↔orel S (fun i=>β (σ i)) w W ob
 | .box p q cs=>⟨fun⟨b,us,ty,h1,h2,h3,h4,h5⟩=>⟨b,us,ty,h1,h2,h3,(rels_ren cs us).1 h4,h5⟩,fun⟨b,us,ty,h1,h2,h3,h4,h5⟩=>⟨b,us,ty,h1,h2,h3,(rels_ren cs us).2 h4,h5⟩⟩
 | .row q e n g=>Iff.rfl
 | .tree e n g=>Iff.rfl
 | .mp e n g F=>Iff.rfl
theorem omen_ren {σ:Nat->Nat} {d:Nat}: ∀ {ob:Obj},omen d (renOb σ ob)=true-> ∃i,d=σ i/\omen i ob=true
 | .box p q cs,h=>mens_ren cs h
 | .row q e n g,h=>nomatch h
 | .tree e n g,h=>nomatch h
 | .mp e n g F,h=>nomatch h
theorem keys_ren {σ:Nat->Nat}: ∀ {o:Os},(renO σ o).map (·.1)=(o.map (·.1)).map σ
 |[]=>rfl
 |(i,ob)::o=>by simp only[renO,List.map_cons,keys_ren]
theorem feet_ren {σ:Nat->Nat} {β:Nat->Wt}: ∀ {o:Os},feet (renO σ o) β=feet o (fun i=>β (σ i))
 |[]=>rfl
 |(i,ob)::o=>by rw[renO,feet_cons,feet_cons,feet_ren]
theorem lk_ren {σ:Nat->Nat} {i:Nat} (hσ: ∀i j,σ i=σ j->i=j): ∀ {o:Os},lk (renO σ o) (σ i)=(lk o i).map (renOb σ)
 |[]=>rfl
 |(j,ob)::o=>by
  rw[renO,lk_cons,lk_cons]
  by_cases e:j=i
  ·subst e;rw[if_pos rfl,if_pos rfl];rfl
  ·rw[if_neg fun h=>e (hσ _ _ h),if_neg e,lk_ren hσ]
theorem lk_ren' {σ:Nat->Nat} {j:Nat} {ob':Obj} (hσ: ∀i j,σ i=σ j->i=j): ∀ {o:Os},lk (renO σ o) j=some ob'-> ∃i ob,j=σ i/\lk o i=some ob/\ob'=renOb σ ob
 |[],h=>by simp[renO,lk] at h
 |(k,ob)::o,h=>by
  rw[renO,lk_cons] at h
  split at h
  ·rename_i e;cases h;exact⟨k,ob,e.symm,by rw[lk_cons,if_pos rfl],rfl⟩
  ·obtain⟨i,ob2,h1,h2,h3⟩:=lk_ren' hσ h
   rename_i e
   exact⟨i,ob2,h1,by rw[lk_cons,if_neg fun h=>e (by rw[h,h1])];exact h2,h3⟩
theorem isBox_ren {σ:Nat->Nat}: ∀ {ob:Obj},isBox (renOb σ ob)=isBox ob
 | .box p q cs=>rfl
 | .row q e n g=>rfl
 | .tree e n g=>rfl
 | .mp e n g F=>rfl
theorem nodup_inj {σ:Nat->Nat} (hσ: ∀i j,σ i=σ j->i=j): ∀ {l:List Nat},l.Nodup->(l.map σ).Nodup
 |[],_=>List.nodup_nil
 |x::l,h=>by
  rw[List.nodup_cons] at h
  rw[List.map_cons,List.nodup_cons]
  refine⟨fun hm=>?_,nodup_inj hσ h.2⟩
  obtain⟨y,hy,e⟩:=List.mem_map.1 hm
  exact h.1 (hσ _ _ e▸hy)
theorem nodup_of_map {σ:Nat->Nat}: ∀ {l:List Nat},(l.map σ).Nodup->l.Nodup
 |[],_=>List.nodup_nil
 |x::l,h=>by
  rw[List.map_cons,List.nodup_cons] at h
  rw[List.nodup_cons]
  exact⟨fun hm=>h.1 (List.mem_map.2 ⟨x,hm,rfl⟩),nodup_of_map h.2⟩
theorem ASpecF.ren {fx:Bool} {P:Program} {f:FuncId} {args:List AV} {os:Os} {r:AV} {no:Os} (σ τ:Nat->Nat) (hτ: ∀i,τ (σ i)=i) (h:ASpecF (.b fx) P f args os r no):ASpecF (.b fx) P f (renAs σ args) (renO σ os) (renA σ r) (renO σ no):=by
 obtain⟨h1,⟨h2,h3⟩,h4⟩:=h
 have hσ: ∀i j,σ i=σ j->i=j:=fun i j e=>by rw[<-hτ i,<-hτ j,e]
 refine⟨h1,⟨fun id hm=>?_,fun i ob hl id hm=>?_⟩,fun S β w us hob hap hus hvr=>?_⟩
 ·obtain⟨i,rfl,hi⟩:=men_ren r hm
  rw[lk_ren hσ,Option.isSome_map];exact h2 i hi
 ·obtain⟨j,ob2,rfl,hj,rfl⟩:=lk_ren' hσ hl
  obtain⟨k,rfl,hk⟩:=omen_ren hm
  rw[lk_ren hσ,Option.isSome_map];exact h3 j ob2 hj k hk
 ·rw[feet_ren] at hap⊢
  have hob':OB S (fun i=>β (σ i)) w os:=⟨fun id ob hl=>orel_ren.1 (hob.objs (σ id) (renOb σ ob) (by rw[lk_ren hσ,hl];rfl)),by rw[<-feet_ren];exact hob.nodup,nodup_of_map (σ:=σ) (by rw[<-keys_ren];exact hob.keys),fun k hk=>hob.lt k (by rw[feet_ren];exact hk)⟩
  refine(h4 S _ w us hob' hap ((rels_ren args us).1 hus) hvr).mono ?_
  rintro e w' ⟨v,β',rfl,g1,g2,g3,g4,g5,g6,g7⟩
  have hβ:(fun i=>(fun j=>β' (τ j)) (σ i))=β':=by funext i;show β' (τ (σ i))=_;rw[hτ]
  have hfe:feet (renO σ no) (fun j=>β' (τ j))=feet no β':=by rw[feet_ren,hβ]
  refine⟨v,fun j=>β' (τ j),rfl,g1,fun id ob hl=>?_,by rw[hfe];exact g3,by rw[hfe];exact g4,by rw[keys_ren];exact nodup_inj hσ g5,⟨fun id ob hl hb hs=>?_,fun _ _ _ h=>nomatch h⟩,?_⟩
  ·obtain⟨i,ob2,rfl,hi,rfl⟩:=lk_ren' hσ hl
   rw[orel_ren,hβ,hfe]
   show orel _ _ _ (β' (τ (σ i))) _
   rw[hτ]
   exact g2 i ob2 hi
  ·obtain⟨i,ob2,rfl,hi,rfl⟩:=lk_ren' hσ hl
   rw[isBox_ren] at hb
   rw[lk_ren hσ,Option.isSome_map] at hs
   show β' (τ (σ i))=β (σ i)
   rw[hτ]
   exact g6.1 i ob2 hi hb hs
  ·rw[rel_ren,hβ,hfe];exact g7
def swp (a b i:Nat):Nat:=bif Nat.beq i a then b else bif Nat.beq i b then a else i
theorem beqNe {a b:Nat} (h: ¬a=b):Nat.beq a b=false:=by rw[<-Bool.not_eq_true];simpa using h
theorem swp_swp (a b i:Nat):swp a b (swp a b i)=i:=by
 unfold swp
 by_cases h1:i=a
 ·subst h1
  rw[Nat.beq_refl,cond_true]
  by_cases h2:b=i
  ·subst h2;rw[Nat.beq_refl,cond_true]
  ·rw[beqNe h2,cond_false,Nat.beq_refl,cond_true]
 ·rw[beqNe h1,cond_false]
  by_cases h2:i=b
  ·subst h2;rw[Nat.beq_refl,cond_true,Nat.beq_refl,cond_true]
  ·rw[beqNe h2,cond_false,beqNe h1,cond_false,beqNe h2,cond_false]
theorem ASpecF.lst {P:Program} {f:FuncId} {args:List AV} {os:Os} {r:AV} {no:Os} (h:ASpecF (.b false) P f args os r no):ASpecF (.l [] []) P f args os r no:=by
 obtain⟨h1,h2,h3⟩:=h
 refine⟨h1,h2,fun S β w us hob hap hus hvr=>(h3 S β w us hob hap hus hvr).mono ?_⟩
 rintro e w' ⟨v,β',rfl,g1,g2,g3,g4,g5,g6,g7⟩
 exact⟨v,β',rfl,g1,g2,g3,g4,g5,⟨fun id ob hl hb hs=>g6.1 id ob hl hb hs,fun _ _ _ h=>nomatch h⟩,g7⟩
def noBoxO:Os->Bool
 |[]=>true
 |(_,.box _ _ _)::_=>false
 |_::o=>noBoxO o
theorem noBoxO_at {i d:Nat} {ob:Obj}: ∀ {o:Os},noBoxO o=true->lk o i=some ob->omen d ob=false
 |[],_,h=>by simp[lk] at h
 |(j,.box _ _ _)::o,hn,_=>nomatch hn
 |(j,.row q e n g)::o,hn,h=>by
  rw[lk_cons] at h
  split at h
  ·cases h;rfl
  ·exact noBoxO_at (o:=o) hn h
 |(j,.tree e n g)::o,hn,h=>by
  rw[lk_cons] at h
  split at h
  ·cases h;rfl
  ·exact noBoxO_at (o:=o) hn h
 |(j,.mp a b c d)::o,hn,h=>by
  rw[lk_cons] at h
  split at h
  ·cases h;rfl
  ·exact noBoxO_at (o:=o) hn h
def disK (a:List Nat):List Nat->Bool
 |[]=>true
 |x::l=>!memX x a&&disK a l
theorem memX_iff {d:Nat}: ∀ {l:List Nat},memX d l=true↔d∈l
 |[]=>by simp[memX]
 |x::l=>by
  simp only[memX,Bool.or_eq_true,memX_iff,List.mem_cons,Nat.beq_eq]
  exact⟨fun h=>h.imp Eq.symm id,fun h=>h.imp Eq.symm id⟩
theorem disK_ok {a:List Nat}: ∀ {l:List Nat},disK a l=true-> ∀x∈l,x∉a
 |[],_,x,hx=>nomatch hx
 |y::l,h,x,hx=>by
  simp only[disK,Bool.and_eq_true,Bool.not_eq_true'] at h
  rcases List.mem_cons.1 hx with rfl|hx
  ·exact fun hm=>by rw[memX_iff.2 hm] at h;cases h.1
  ·exact disK_ok h.2 x hx
theorem lk_isSome {i:Nat}: ∀ {o:Os},(lk o i).isSome=true↔i∈keysOf o
 |[]=>by simp[lk,keysOf]
 |(j,ob)::o=>by
  rw[lk_cons,keysOf,List.mem_cons]
  by_cases h:j=i
  ·subst h;simp
  ·rw[if_neg h,lk_isSome]
   exact⟨.inr,fun h'=>h'.resolve_left (Ne.symm h)⟩
theorem keysOf_app {a b:Os}:keysOf (a++b)=keysOf a++keysOf b:=by rw[keysOf_eq,keysOf_eq,keysOf_eq,List.map_append]
theorem feet_congr {o:Os} {β β':Nat->Wt} (h: ∀i∈keysOf o,β' i=β i):feet o β'=feet o β:=by
 unfold feet
 exact flatMap_congr fun p hp=>by rw[h p.1 (by rw[keysOf_eq];exact List.mem_map.2 ⟨p,hp,rfl⟩)]
theorem rels_mid {S:Nat->Prop} {β:Nat->Wt} {w:World} {c:AV} {b:List AV}: ∀ {a:List AV} {us:List Value},rels S β w (a++c::b) us-> ∃u1 x u2,us=u1++x::u2/\rels S β w a u1/\rel S β w c x/\rels S β w b u2
 |[],us,h=>by
  obtain⟨u,us',rfl,h1,h2⟩:=h
  exact⟨[],u,us',rfl,rfl,h1,h2⟩
 |v::a,us,h=>by
  obtain⟨u,us',rfl,h1,h2⟩:=h
  obtain⟨u1,x,u2,rfl,h3,h4,h5⟩:=rels_mid h2
  exact⟨u::u1,x,u2,rfl,⟨u,u1,rfl,h1,h3⟩,h4,h5⟩
theorem rels_midI {S:Nat->Prop} {β:Nat->Wt} {w:World} {a b:List AV} {c:AV} {u1 u2:List Value} {x:Value} (h1:rels S β w a u1) (h2:rel S β w c x) (h3:rels S β w b u2):rels S β w (a++c::b) (u1++x::u2):=
 rels_app h1 ⟨x,u2,rfl,h2,h3⟩
theorem mens_mid {d:Nat} {c:AV} {b:List AV}: ∀ {a:List AV},mens d (a++c::b)=(mens d a||(men d c||mens d b))
 |[]=>rfl
 |v::a=>by simp only[List.cons_append,mens,mens_mid (a:=a),Bool.or_assoc]
theorem ASpecF.frame {P:Program} {f:FuncId} {args:List AV} {id:Nat} {q:Option Nat} {a b a' b':List AV} {c r:AV} {os no F:Os} {fu tp:List Nat} (hF:noBoxO F=true) (hd:(disK (keysOf F) (id::keysOf os)&&disK (keysOf F) (id::keysOf no))=true) (hc: ∀d,men d c=true->d∈keysOf F)
  (h: ∀x:Value,ASpecF (.l fu tp) P f args ((id,.box none q (a++ .v x::b))::os) r ((id,.box none q (a'++ .v x::b'))::no)):
  ASpecF (.l (keysOf F++fu) tp) P f args ((id,.box none q (a++c::b))::(os++F)) r ((id,.box none q (a'++c::b'))::(no++F)):=by
 rw[Bool.and_eq_true] at hd
 have hd1:=disK_ok hd.1
 have hd2:=disK_ok hd.2
 obtain⟨h1,⟨h2,h2'⟩,_⟩:=h (.bool true)
 have hkN: ∀i,i∈keysOf F->lk ((id,Obj.box none q (a'++c::b'))::(no++F)) i=lk F i:=fun i hi=>by
  rw[lk_cons,if_neg fun e=>hd2 i (by rw[<-e];exact List.mem_cons_self) hi,lk_app]
  cases hq:lk no i with
  |none=>rfl
  |some ob=>exact absurd hi (hd2 i (List.mem_cons_of_mem _ (lk_isSome.1 (by rw[hq];rfl))))
 have hkO: ∀i,i∈keysOf F->lk ((id,Obj.box none q (a++c::b))::(os++F)) i=lk F i:=fun i hi=>by
  rw[lk_cons,if_neg fun e=>hd1 i (by rw[<-e];exact List.mem_cons_self) hi,lk_app]
  cases hq:lk os i with
  |none=>rfl
  |some ob=>exact absurd hi (hd1 i (List.mem_cons_of_mem _ (lk_isSome.1 (by rw[hq];rfl))))
 have tr: ∀ {d:Nat} {o1 o2:Obj} {n:Os},(lk ((id,o1)::n) d).isSome=true->(lk ((id,o2)::(n++F)) d).isSome=true:=fun {d o1 o2 n} this=>by
  rw[lk_isSome] at this⊢
  rw[keysOf,keysOf_app]
  rw[keysOf] at this
  rcases List.mem_cons.1 this with e|e
  ·rw[e];exact List.mem_cons_self
  ·exact List.mem_cons_of_mem _ (List.mem_append_left _ e)
 have inF: ∀ {d:Nat} {o2:Obj} {n:Os},d∈keysOf F->(lk ((id,o2)::(n++F)) d).isSome=true:=fun {d o2 n} hdF=>by
  rw[lk_isSome,keysOf,keysOf_app]
  exact List.mem_cons_of_mem _ (List.mem_append_right _ hdF)
 refine⟨h1,⟨fun d hm=>tr (h2 d hm),fun i ob hl d hm=>?_⟩,fun S β w us hob hap hus hvr=>?_⟩
 ·rw[lk_cons] at hl
  split at hl
  ·cases hl
   rw[show omen d (Obj.box none q (a'++c::b'))=mens d (a'++c::b') from rfl,mens_mid,Bool.or_eq_true,Bool.or_eq_true] at hm
   have hbx:mens d (a'++ .v (.bool true)::b')=true->(lk ((id,Obj.box none q (a'++c::b'))::(no++F)) d).isSome=true:=fun hx=>tr (h2' id (.box none q (a'++ .v (.bool true)::b')) (by rw[lk_cons,if_pos rfl]) d hx)
   rcases hm with hm|hm|hm
   ·exact hbx (by rw[mens_mid,hm];rfl)
   ·exact inF (hc d hm)
   ·exact hbx (by rw[mens_mid,hm,Bool.or_true,Bool.or_true])
  ·rename_i hne
   rw[lk_app] at hl
   cases hq:lk no i with
   |some ob'=>
    rw[hq] at hl;cases hl
    exact tr (h2' i ob (by rw[lk_cons,if_neg hne];exact hq) d hm)
   |none=>
    rw[hq] at hl
    rw[noBoxO_at hF (show lk F i=some ob from hl)] at hm;cases hm
 obtain⟨b0,cs0,ty0,g1,g2,g3,g4,g5⟩:=hob.objs id _ (by rw[lk_cons,if_pos rfl])
 obtain⟨u1,x,u2,rfl,r1,r2,r3⟩:=rels_mid g4
 obtain⟨_,hclo,hcall⟩:=h x
 have hfull:feet ((id,Obj.box none q (a++c::b))::(os++F)) β=feet ((id,Obj.box none q (a++ .v x::b))::os) β++feet F β:=by
  rw[feet_cons,feet_cons,feet_app,List.append_assoc]
 have hnd:=hob.nodup
 rw[hfull] at hnd hap
 have hlt:=hob.lt
 rw[hfull] at hlt
 have hkeys:((id::keysOf os)++keysOf F).Nodup:=by
  have:=hob.keys
  rw[<-keysOf_eq,keysOf,keysOf_app] at this
  exact this
 have hob1:OB S β w ((id,.box none q (a++ .v x::b))::os):=by
  refine⟨fun i ob hl=>?_,(List.nodup_append.1 hnd).1,?_,fun k hk=>hlt k (List.mem_append_left _ hk)⟩
  ·rw[lk_cons] at hl
   split at hl
   ·rename_i e;cases hl;subst e
    exact⟨b0,_,ty0,g1,g2,g3,rels_midI r1 rfl r3,g5⟩
   ·rename_i e
    exact hob.objs i ob (by rw[lk_cons,if_neg e,lk_app,hl];rfl)
  ·rw[<-keysOf_eq];exact(List.nodup_append.1 hkeys).1
 refine(hcall S β w us hob1 (fun k hk hm=>hap k hk (List.mem_append_left _ hm)) hus hvr).mono ?_
 rintro e w' ⟨v,β',rfl,q1,q2,q3,q4,q5,q6,q7⟩
 let β2:Nat->Wt:=fun i=>if memX i (keysOf F)=true then β i else β' i
 have hin: ∀i,i∈keysOf F->β2 i=β i:=fun i hi=>if_pos (memX_iff.2 hi)
 have hout: ∀i,i∉keysOf F->β2 i=β' i:=fun i hi=>if_neg fun e=>hi (memX_iff.1 e)
 have f1:feet ((id,Obj.box none q (a'++ .v x::b'))::no) β2=feet ((id,Obj.box none q (a'++ .v x::b'))::no) β':=feet_congr fun i hi=>hout i fun hF'=>hd2 i (by simpa[keysOf] using hi) hF'
 have f2:feet F β2=feet F β:=feet_congr fun i hi=>hin i hi
 have hfull2:feet ((id,Obj.box none q (a'++c::b'))::(no++F)) β2=feet ((id,Obj.box none q (a'++ .v x::b'))::no) β'++feet F β:=by
  rw[<-f1,<-f2,feet_cons,feet_cons,feet_app,List.append_assoc]
 have hdisF: ∀k∈feet F β,k∉feet ((id,Obj.box none q (a++ .v x::b))::os) β:=fun k hk hk'=>(List.nodup_append.1 hnd).2.2 k hk' k hk rfl
 have hdisN: ∀k∈feet F β,k∉feet ((id,Obj.box none q (a'++ .v x::b'))::no) β':=fun k hk hk'=>by
  rcases(q3 k hk').1 with e|e
  ·have:=hlt k (List.mem_append_right _ hk);omega
  ·exact hdisF k hk e
 have hmono: ∀k,((S k\/w.heap.size<=k\/k∈feet ((id,Obj.box none q (a++ .v x::b))::os) β)/\k∉feet ((id,Obj.box none q (a'++ .v x::b'))::no) β')->((S k\/w.heap.size<=k\/k∈feet ((id,Obj.box none q (a++c::b))::(os++F)) β)/\k∉feet ((id,Obj.box none q (a'++c::b'))::(no++F)) β2):=fun k ⟨hk,hn⟩=>by
  refine⟨?_,fun hm=>?_⟩
  ·rw[hfull]
   rcases hk with hk|hk|hk
   ·exact .inl hk
   ·exact .inr (.inl hk)
   ·exact .inr (.inr (List.mem_append_left _ hk))
  ·rw[hfull2] at hm
   rcases List.mem_append.1 hm with hm|hm
   ·exact hn hm
   ·rcases hk with hk|hk|hk
    ·exact hap k hk (List.mem_append_right _ hm)
    ·have:=hlt k (List.mem_append_right _ hm);omega
    ·exact hdisF k hm hk
 have hc':Comp (fun k=>(S k\/w.heap.size<=k\/k∈feet ((id,Obj.box none q (a++ .v x::b))::os) β)/\k∉feet ((id,Obj.box none q (a'++ .v x::b'))::no) β') w' (fun k=>(S k\/w.heap.size<=k\/k∈feet ((id,Obj.box none q (a++c::b))::(os++F)) β)/\k∉feet ((id,Obj.box none q (a'++c::b'))::(no++F)) β2) w':=⟨Nat.le_refl _,fun k _ hk=>⟨hmono k hk,rfl⟩⟩
 have hcS:Comp S w (fun k=>(S k\/w.heap.size<=k\/k∈feet ((id,Obj.box none q (a++c::b))::(os++F)) β)/\k∉feet ((id,Obj.box none q (a'++c::b'))::(no++F)) β2) w':=⟨q1.size,fun k hk hs=>⟨hmono k ⟨.inl hs,fun hm=>by
  rcases(q3 k hm).1 with e|e
  ·omega
  ·exact hap k hs (List.mem_append_left _ e)⟩,q1.block k hk fun hm=>hap k hs (List.mem_append_left _ hm)⟩⟩
 have agr: ∀(ob:Obj),(∀d,omen d ob=true->d∉keysOf F)-> ∀W,orel (fun k=>(S k\/w.heap.size<=k\/k∈feet ((id,Obj.box none q (a++ .v x::b))::os) β)/\k∉feet ((id,Obj.box none q (a'++ .v x::b'))::no) β') β' w' W ob->orel (fun k=>(S k\/w.heap.size<=k\/k∈feet ((id,Obj.box none q (a++c::b))::(os++F)) β)/\k∉feet ((id,Obj.box none q (a'++c::b'))::(no++F)) β2) β2 w' W ob:=fun ob hm W ho=>orel_agr (fun d hd=>hout d (hm d hd)) (orel_mono hc' (fun _ _=>rfl) ho)
 have notF: ∀d,(lk ((id,Obj.box none q (a'++ .v x::b'))::no) d).isSome=true->d∉keysOf F:=fun d hs hF'=>hd2 d (by simpa[keysOf] using lk_isSome.1 hs) hF'
 have low: ∀ {i:Nat} {ob:Obj},i∉keysOf F->lk ((id,Obj.box none q (a++c::b))::(os++F)) i=some ob->(lk ((id,Obj.box none q (a'++c::b'))::(no++F)) i).isSome=true-> ∃ob1,lk ((id,Obj.box none q (a++ .v x::b))::os) i=some ob1/\isBox ob1=isBox ob/\(lk ((id,Obj.box none q (a'++ .v x::b'))::no) i).isSome=true:=fun {i ob} hi hl hs=>by
  have hs1:(lk ((id,Obj.box none q (a'++ .v x::b'))::no) i).isSome=true:=by
   rw[lk_isSome] at hs⊢
   rw[keysOf,keysOf_app] at hs
   rw[keysOf]
   rcases List.mem_cons.1 hs with e|e
   ·rw[e];exact List.mem_cons_self
   ·exact List.mem_cons_of_mem _ ((List.mem_append.1 e).resolve_right hi)
  rw[lk_cons] at hl
  split at hl
  ·rename_i e;cases hl;subst e
   exact⟨.box none q (a++ .v x::b),by rw[lk_cons,if_pos rfl],rfl,hs1⟩
  ·rename_i e
   rw[lk_app] at hl
   cases hq:lk os i with
   |some ob'=>rw[hq] at hl;cases hl;exact⟨ob,by rw[lk_cons,if_neg e];exact hq,rfl,hs1⟩
   |none=>rw[hq] at hl;exact absurd (lk_isSome.1 (by rw[show lk F i=some ob from hl];rfl)) hi
 refine⟨v,β2,rfl,?_,fun i ob hl=>?_,fun k hk=>?_,?_,?_,⟨fun i ob hl hb hs=>?_,fun i ob hl hb hs=>?_⟩,?_⟩
 ·exact⟨q1.os,q1.tape,q1.output,q1.size,fun k hk hx=>q1.block k hk fun hm=>hx (by rw[hfull];exact List.mem_append_left _ hm)⟩
 ·rw[lk_cons] at hl
  split at hl
  ·rename_i e;cases hl;subst e
   have hbx:=q2 id _ (by rw[lk_cons,if_pos rfl])
   have hbx2:=agr _ (fun d hd=>notF d (hclo.2 id _ (by rw[lk_cons,if_pos rfl]) d hd)) _ hbx
   obtain⟨b1,cs1,ty1,k1,k2,k3,k4,k5⟩:=hbx2
   obtain⟨v1,x1,v2,rfl,m1,m2,m3⟩:=rels_mid k4
   rw[hout id (notF id (by rw[lk_cons,if_pos rfl];rfl))]
   unfold rel at m2;subst m2
   exact⟨b1,_,ty1,k1,k2,k3,rels_midI m1 (rel_agr _ _ (fun d hd=>hin d (hc d hd)) (rel_mono hcS _ _ r2)) m3,k5⟩
  ·rename_i hne
   rw[lk_app] at hl
   cases hq:lk no i with
   |some ob'=>
    rw[hq] at hl;cases hl
    have hlk:lk ((id,Obj.box none q (a'++ .v x::b'))::no) i=some ob:=by rw[lk_cons,if_neg hne];exact hq
    rw[hout i (notF i (by rw[hlk];rfl))]
    exact agr _ (fun d hd=>notF d (hclo.2 i _ hlk d hd)) _ (q2 i ob hlk)
   |none=>
    rw[hq] at hl
    have hlF:lk F i=some ob:=hl
    have hiF:i∈keysOf F:=lk_isSome.1 (by rw[hlF];rfl)
    rw[hin i hiF]
    have ho:=hob.objs i ob ((hkO i hiF).trans hlF)
    refine orel_agr (fun d hd=>by rw[noBoxO_at hF hlF] at hd;cases hd) (orel_mono hcS (fun k hk=>?_) ho)
    have hkF:k∈feet F β:=foot_feet hlF k hk
    exact q1.block k (hlt k (List.mem_append_right _ hkF)) (hdisF k hkF)
 ·rw[hfull2] at hk
  rw[hfull]
  rcases List.mem_append.1 hk with hk|hk
  ·exact⟨(q3 k hk).1.imp (fun e=>e) fun e=>List.mem_append_left _ e,(q3 k hk).2⟩
  ·exact⟨.inr (List.mem_append_right _ hk),Nat.lt_of_lt_of_le (hlt k (List.mem_append_right _ hk)) q1.size⟩
 ·rw[hfull2]
  exact List.nodup_append.2 ⟨q4,(List.nodup_append.1 hnd).2.1,fun y hy z hz e=>by subst e;exact hdisN y hz hy⟩
 ·rw[<-keysOf_eq,keysOf,keysOf_app]
  have h5:=q5
  rw[<-keysOf_eq,keysOf] at h5
  rw[<-List.cons_append]
  exact List.nodup_append.2 ⟨h5,(List.nodup_append.1 hkeys).2.1,fun y hy z hz e=>by subst e;exact hd2 y hy hz⟩
 ·by_cases hi:i∈keysOf F
  ·exact hin i hi
  ·obtain⟨ob1,k1,k2,k3⟩:=low hi hl hs
   rw[hout i hi]
   refine q6.1 i ob1 k1 ?_ k3
   rw[k2]
   rw[Bool.or_eq_true] at hb⊢
   refine hb.imp (fun hb=>?_) fun e=>e
   have:=memX_iff.1 (show memX i (keysOf F++fu)=true from hb)
   exact memX_iff.2 ((List.mem_append.1 this).resolve_left hi)
 ·by_cases hi:i∈keysOf F
  ·rw[hin i hi];exact⟨rfl,rfl⟩
  ·obtain⟨ob1,k1,k2,k3⟩:=low hi hl hs
   rw[hout i hi]
   exact q6.2 i ob1 k1 hb k3
 ·exact rel_agr _ _ (fun d hd=>hout d (notF d (hclo.1 d hd))) (rel_mono hc' _ _ q7)
theorem rels_agrs {S:Nat->Prop} {β β':Nat->Wt} {w:World} {d:Nat} (h: ∀i,i≠d->β' i=β i) {x:List AV} {us:List Value} (hm:mens d x=false) (hr:rels S β w x us):rels S β' w x us:=
 rels_agr x us (fun id hid=>h id fun e=>by subst e;rw[hm] at hid;cases hid) hr
theorem ASpecF.nilIn {fx:Fx} {P:Program} {f:FuncId} {args:List AV} {i0 id d e:Nat} {ob0:Obj} {q:Option Nat} {a b:List AV} {g:Nat->List AV} {r:AV} {no:Os} (hd:(!Nat.beq d i0&&(!Nat.beq d id&&(!mens d args&&(!mens d a&&(!mens d b&& !omen d ob0)))))=true)
  (h:ASpecF fx P f args [(i0,ob0),(id,.box none q (a++ .orow d e 0 0::b)),(d,.row none e 0 g)] r no):ASpecF fx P f args [(i0,ob0),(id,.box none q (a++ .nil::b))] r no:=by
 simp only[Bool.and_eq_true,Bool.not_eq_true'] at hd
 obtain⟨d1,d2,d3,d4,d5,d6⟩:=hd
 have d1:d≠i0:=fun e=>by rw[e,Nat.beq_refl] at d1;cases d1
 have d2:d≠id:=fun e=>by rw[e,Nat.beq_refl] at d2;cases d2
 obtain⟨h1,h2,h3⟩:=h
 refine⟨h1,h2,fun S β w us hob hap hus hvr=>?_⟩
 let β1:Nat->Wt:=setB β d ⟨none,0,[],true,sub0⟩
 have hne: ∀i,i≠d->β1 i=β i:=fun i hi=>setB_ne hi
 have hfe:feet [(i0,ob0),(id,Obj.box none q (a++ .orow d e 0 0::b)),(d,.row none e 0 g)] β1=feet [(i0,ob0),(id,Obj.box none q (a++ .nil::b))] β:=by
  simp only[feet,List.flatMap_cons,List.flatMap_nil,List.append_nil]
  rw[hne _ d1.symm,hne _ d2.symm,show β1 d=⟨none,0,[],true,sub0⟩ from setB_self,List.append_nil]
 have hkeys:=hob.keys
 simp only[List.map_cons,List.map_nil] at hkeys
 have hob1:OB S β1 w [(i0,ob0),(id,.box none q (a++ .orow d e 0 0::b)),(d,.row none e 0 g)]:=by
  refine⟨fun i ob hl=>?_,by rw[hfe];exact hob.nodup,?_,by rw[hfe];exact hob.lt⟩
  ·rw[lk_cons] at hl
   split at hl
   ·rename_i e1;cases hl;subst e1
    rw[hne _ d1.symm]
    exact orel_agr (fun j hj=>hne j fun e2=>by subst e2;rw[d6] at hj;cases hj) (hob.objs _ _ (by rw[lk_cons,if_pos rfl]))
   ·rename_i e1
    rw[lk_cons] at hl
    split at hl
    ·rename_i e2;cases hl;subst e2
     rw[hne _ d2.symm]
     obtain⟨b0,cs0,ty0,g1,g2,g3,g4,g5⟩:=hob.objs id _ (by rw[lk_cons,if_neg e1,lk_cons,if_pos rfl])
     obtain⟨u1,x,u2,rfl,r1,r2,r3⟩:=rels_mid g4
     refine⟨b0,_,ty0,g1,g2,g3,rels_midI (rels_agrs hne d4 r1) ?_ (rels_agrs hne d5 r3),g5⟩
     unfold rel at r2⊢
     rw[show β1 d=⟨none,0,[],true,sub0⟩ from setB_self]
     exact⟨rfl,r2⟩
    ·rw[lk_cons] at hl
     split at hl
     ·rename_i e3;cases hl;subst e3
      rw[show β1 d=⟨none,0,[],true,sub0⟩ from setB_self]
      exact⟨Nat.le_refl _,Nat.zero_le _,.inl ⟨rfl,rfl,rfl⟩⟩
     ·simp[lk] at hl
  ·simp only[List.map_cons,List.map_nil,List.nodup_cons,List.mem_cons,List.not_mem_nil,or_false,not_or,List.nodup_nil,and_true,not_false_eq_true] at hkeys⊢
   exact⟨⟨hkeys,fun e=>d1 e.symm⟩,fun e=>d2 e.symm⟩
 refine(h3 S β1 w us hob1 (by rw[hfe];exact hap) (rels_agrs hne d3 hus) hvr).mono ?_
 rintro e' w' ⟨v,β',rfl,q1,q2,q3,q4,q5,q6,q7⟩
 rw[hfe] at q1 q2 q3 q7
 have up: ∀ {i:Nat} {ob:Obj},lk [(i0,ob0),(id,Obj.box none q (a++ .nil::b))] i=some ob->i≠d/\ ∃ob1,lk [(i0,ob0),(id,Obj.box none q (a++ .orow d e 0 0::b)),(d,.row none e 0 g)] i=some ob1/\isBox ob1=isBox ob:=fun {i ob} hl=>by
  rw[lk_cons] at hl
  split at hl
  ·rename_i e1;cases hl;subst e1
   exact⟨d1.symm,ob0,by rw[lk_cons,if_pos rfl],rfl⟩
  ·rename_i e1
   rw[lk_cons] at hl
   split at hl
   ·rename_i e2;cases hl;subst e2
    exact⟨d2.symm,.box none q (a++ .orow d e 0 0::b),by rw[lk_cons,if_neg e1,lk_cons,if_pos rfl],rfl⟩
   ·simp[lk] at hl
 refine⟨v,β',rfl,q1,q2,q3,q4,q5,⟨fun i ob hl hb hs=>?_,fun i ob hl hb hs=>?_⟩,q7⟩
 ·obtain⟨k1,ob1,k2,k3⟩:=up hl
  rw[<-hne i k1]
  exact q6.1 i ob1 k2 (by rw[k3];exact hb) hs
 ·obtain⟨k1,ob1,k2,k3⟩:=up hl
  rw[<-hne i k1]
  exact q6.2 i ob1 k2 hb hs
theorem ASpecF.nilOut {fx:Fx} {P:Program} {f:FuncId} {args:List AV} {os:Os} {i0 i2 id d e:Nat} {ob0 ob2:Obj} {q:Option Nat} {a b:List AV} {g:Nat->List AV} {r:AV} (hd:((!Nat.beq d i0&&(!Nat.beq d id&& !Nat.beq d i2))&&(!memX d (keysOf os)&&(!men d r&&(!mens d a&&(!mens d b&&(!omen d ob0&& !omen d ob2))))))=true)
  (h:ASpecF fx P f args os r [(i0,ob0),(id,.box none q (a++ .nil::b)),(i2,ob2)]):ASpecF fx P f args os r [(i0,ob0),(id,.box none q (a++ .orow d e 0 0::b)),(i2,ob2),(d,.row none e 0 g)]:=by
 simp only[Bool.and_eq_true,Bool.not_eq_true'] at hd
 obtain⟨⟨d1,d2,d3⟩,d4,d5,d6,d7,d8,d9⟩:=hd
 have d1:d≠i0:=fun e=>by rw[e,Nat.beq_refl] at d1;cases d1
 have d2:d≠id:=fun e=>by rw[e,Nat.beq_refl] at d2;cases d2
 have d3:d≠i2:=fun e=>by rw[e,Nat.beq_refl] at d3;cases d3
 obtain⟨h1,⟨h2,h2'⟩,h3⟩:=h
 have upS: ∀ {j:Nat} {ob ob':Obj},(lk [(i0,ob0),(id,ob),(i2,ob2)] j).isSome=true->(lk [(i0,ob0),(id,ob'),(i2,ob2),(d,.row none e 0 g)] j).isSome=true:=fun {j ob ob'} hj=>by
  rw[lk_isSome] at hj⊢
  simp only[keysOf,List.mem_cons,List.not_mem_nil,or_false] at hj⊢
  rcases hj with e|e|e
  ·exact .inl e
  ·exact .inr (.inl e)
  ·exact .inr (.inr (.inl e))
 have selfD: ∀ {ob':Obj},(lk [(i0,ob0),(id,ob'),(i2,ob2),(d,.row none e 0 g)] d).isSome=true:=fun {ob'}=>by
  rw[lk_isSome];simp[keysOf]
 have mem0: ∀ {i:Nat} {ob:Obj},lk [(i0,ob0),(id,.box none q (a++ .orow d e 0 0::b)),(i2,ob2),(d,.row none e 0 g)] i=some ob->(i=d/\ob= .row none e 0 g)\/(i=id/\i≠i0/\ob= .box none q (a++ .orow d e 0 0::b))\/(omen d ob=false/\i≠d/\lk [(i0,ob0),(id,.box none q (a++ .nil::b)),(i2,ob2)] i=some ob):=fun {i ob} hl=>by
  rw[lk_cons] at hl
  split at hl
  ·rename_i e1;cases hl;subst e1
   exact .inr (.inr ⟨d8,Ne.symm d1,by rw[lk_cons,if_pos rfl]⟩)
  ·rename_i e1
   rw[lk_cons] at hl
   split at hl
   ·rename_i e2;cases hl;subst e2
    exact .inr (.inl ⟨rfl,Ne.symm e1,rfl⟩)
   ·rename_i e2
    rw[lk_cons] at hl
    split at hl
    ·rename_i e3;cases hl;subst e3
     exact .inr (.inr ⟨d9,Ne.symm d3,by rw[lk_cons,if_neg e1,lk_cons,if_neg e2,lk_cons,if_pos rfl]⟩)
    ·rw[lk_cons] at hl
     split at hl
     ·rename_i e4;cases hl;exact .inl ⟨e4.symm,rfl⟩
     ·simp[lk] at hl
 refine⟨h1,⟨fun j hm=>upS (h2 j hm),fun i ob hl j hm=>?_⟩,fun S β w us hob hap hus hvr=>?_⟩
 ·rcases mem0 hl with⟨_,rfl⟩|⟨rfl,hne,rfl⟩|⟨_,_,hl'⟩
  ·cases hm
  ·by_cases hj:j=d
   ·subst hj;exact selfD
   ·rw[show omen j (Obj.box none q (a++ .orow d e 0 0::b))=mens j (a++ .orow d e 0 0::b) from rfl,mens_mid] at hm
    have hjd:men j (.orow d e 0 0)=false:=by simp only[men];exact Bool.eq_false_iff.2 fun h=>hj (Nat.eq_of_beq_eq_true h).symm
    rw[hjd,Bool.false_or] at hm
    exact upS (h2' i (.box none q (a++ .nil::b)) (by rw[lk_cons,if_neg (Ne.symm hne),lk_cons,if_pos rfl]) j (by rw[show omen j (Obj.box none q (a++ .nil::b))=mens j (a++ .nil::b) from rfl,mens_mid];exact hm))
  ·exact upS (h2' i ob hl' j hm)
 refine(h3 S β w us hob hap hus hvr).mono ?_
 rintro e' w' ⟨v,β',rfl,q1,q2,q3,q4,q5,q6,q7⟩
 let β1:Nat->Wt:=setB β' d ⟨none,0,[],true,sub0⟩
 have hne: ∀i,i≠d->β1 i=β' i:=fun i hi=>setB_ne hi
 have hfe:feet [(i0,ob0),(id,Obj.box none q (a++ .orow d e 0 0::b)),(i2,ob2),(d,.row none e 0 g)] β1=feet [(i0,ob0),(id,Obj.box none q (a++ .nil::b)),(i2,ob2)] β':=by
  simp only[feet,List.flatMap_cons,List.flatMap_nil,List.append_nil]
  rw[hne _ d1.symm,hne _ d2.symm,hne _ d3.symm,show β1 d=⟨none,0,[],true,sub0⟩ from setB_self,List.append_nil]
 rw[<-hfe] at q2 q3 q4 q7
 refine⟨v,β1,rfl,q1,fun i ob hl=>?_,q3,q4,?_,⟨fun i ob hl hb hs=>?_,fun i ob hl hb hs=>?_⟩,?_⟩
 ·rcases mem0 hl with⟨rfl,rfl⟩|⟨rfl,hi0,rfl⟩|⟨ho,hi,hl'⟩
  ·rw[show β1 i=⟨none,0,[],true,sub0⟩ from setB_self]
   exact⟨Nat.le_refl _,Nat.zero_le _,.inl ⟨rfl,rfl,rfl⟩⟩
  ·rw[hne _ d2.symm]
   obtain⟨b0,cs0,ty0,g1,g2,g3,g4,g5⟩:=q2 i (.box none q (a++ .nil::b)) (by rw[lk_cons,if_neg (Ne.symm hi0),lk_cons,if_pos rfl])
   obtain⟨u1,x,u2,rfl,r1,r2,r3⟩:=rels_mid g4
   refine⟨b0,_,ty0,g1,g2,g3,rels_midI (rels_agrs hne d6 r1) ?_ (rels_agrs hne d7 r3),g5⟩
   unfold rel at r2⊢
   rw[show β1 d=⟨none,0,[],true,sub0⟩ from setB_self]
   exact⟨rfl,r2⟩
  ·rw[hne i hi]
   exact orel_agr (fun j hj=>hne j fun e2=>by subst e2;rw[ho] at hj;cases hj) (q2 i ob hl')
 ·simp only[List.map_cons,List.map_nil,List.nodup_cons,List.mem_cons,List.not_mem_nil,or_false,not_or,List.nodup_nil,and_true,not_false_eq_true] at q5⊢
  exact⟨⟨q5.1.1,q5.1.2,d1.symm⟩,⟨q5.2,d2.symm⟩,d3.symm⟩
 ·have hi:i≠d:=fun e2=>by
   subst e2
   have:=lk_isSome.1 (show(lk os i).isSome=true by rw[hl];rfl)
   rw[memX_iff.2 this] at d4;cases d4
  rw[hne i hi]
  refine q6.1 i ob hl hb ?_
  rw[lk_isSome] at hs⊢
  simp only[keysOf,List.mem_cons,List.not_mem_nil,or_false] at hs⊢
  rcases hs with e|e|e|e
  ·exact .inl e
  ·exact .inr (.inl e)
  ·exact .inr (.inr e)
  ·exact absurd e hi
 ·have hi:i≠d:=fun e2=>by
   subst e2
   have:=lk_isSome.1 (show(lk os i).isSome=true by rw[hl];rfl)
   rw[memX_iff.2 this] at d4;cases d4
  rw[hne i hi]
  refine q6.2 i ob hl hb ?_
  rw[lk_isSome] at hs⊢
  simp only[keysOf,List.mem_cons,List.not_mem_nil,or_false] at hs⊢
  rcases hs with e|e|e|e
  ·exact .inl e
  ·exact .inr (.inl e)
  ·exact .inr (.inr e)
  ·exact absurd e hi
 ·exact rel_agr _ _ (fun j hj=>hne j fun e2=>by subst e2;rw[d5] at hj;cases hj) q7
theorem gql {P Q:Prop} (k:Q) (h:Q->P:=by first|exact fun k=>⟨_,wr64 ti ti,k⟩|exact fun k=>And.intro si k|exact fun k=>And.intro ⟨rfl,fun _ _=>rfl⟩ k|exact fun k=>And.intro (⟨⟨rfl,rfl⟩,by omega⟩:(_=_/\_=_)/\_) k|exact fun k=>And.intro (⟨rfl,by omega⟩:_=_/\_) k|exact fun k=>LitW.tre k|exact fun k=>PreW.own k|exact fun k=>StN.a k|exact fun k=>AppW.mv k|exact fun k=>TakW.tree k|exact fun k=>dD k|exact fun k=>dF k|exact fun k=>d0 k|exact fun k=>d1 k|exact fun k=>dL k|exact fun k=>dP k|exact fun k=>And.intro tgi k|exact fun k=>⟨_,shl1 (by omega),k⟩|exact fun k=>⟨_,wru64 ti ti,k⟩|exact fun k=>⟨_,fun _=>(IntKind.wrap_u64 _).symm,k⟩):P:=h k
structure RdE where
 l:List TokE
 i:Nat
 en:TokE
 flt:FltE
 size:Int
def rdC (R:RdE) (c:AV):List AV:=[eL R.l,.i .i64 R.i,.nil,.nil,c,.i .i64 R.en.kind,.s R.en.text,.i .i64 R.en.line,.i .i64 R.en.col,.i .i64 R.flt.code,.i .i64 R.flt.line,.i .i64 R.flt.col,.nil,.i .i64 R.size]
def rdX (R:RdE) (c:AV):Os:=[(1000,.box none (some 97) (rdC R c))]
theorem rdClo {R:RdE} {x:Value} {v:AV} (hv:noOwn v=true):Clo v (rdX R (.v x)):=by
 refine⟨fun id hm=>(Bool.noConfusion ((noOwn_men hv).symm.trans hm)),fun i ob h id hm=>?_⟩
 unfold rdX at h
 rw[lk_cons] at h
 split at h
 ·cases h;cases hm
 ·simp[lk] at h
def nxt (R:RdE):TokE:=R.l.getD R.i R.en
theorem nxt_lt {R:RdE} (h:R.i<R.l.length):nxt R=R.l.getD R.i Enc.d:=by unfold nxt;rw[List.getD_eq_getElem?_getD,List.getD_eq_getElem?_getD,List.getElem?_eq_getElem h];rfl
theorem nxt_ge {R:RdE} (h:R.l.length<=R.i):nxt R=R.en:=by unfold nxt;rw[List.getD_eq_getElem?_getD,List.getElem?_eq_none h];rfl
structure RdOk (R:RdE):Prop where
 l:R.l.length<4294967296
 i:R.i<=R.l.length
 en:R.en.kind=6
theorem next_S (R:RdE) (c:AV) (h:RdOk R):ASpec Tryz.prog 46 [.cp (rdC R c)] (eS (nxt R)) []:=by
 have h1:=h.l
 have h2:=h.i
 refine ASpec.enter TYok mixed Tryz.func46 rfl Tryz.call46 Tryz.ntmps46 rfl (rs:=[.cell 2 93]) rfl (nodupB_ok rfl) (Clo.one rfl) (keep:=[0,2]) ?_;conv=>whnf
 repeat' first|(refine iG ?_ ?_<;>intro hb hc<;>first|exact yE|conv=>whnf)|(refine gqs ?_;conv=>whnf)|(refine yt ?_;conv=>whnf)|exact yK|fail
 ·exact⟨_,.keep (by rw[nxt_ge (by omega)];rfl) rfl⟩
 ·exact⟨_,.keep (by rw[nxt_lt (by omega)];rfl) rfl⟩
def failF (R:RdE) (c:Int) (t:TokE):RdE:=if R.flt.code=0 then { R with flt:=⟨c,t.line,t.col⟩} else R
theorem fail_S (R:RdE) (x:Value) (c:Int) (t:TokE):ASpecM Tryz.prog 90 [.op 1000 0,.i .i64 c,eS t] (rdX R (.v x)) (.tup []) (rdX (failF R c t) (.v x)):=by
 refine ASpecM.enter TYok mixed Tryz.func90 rfl Tryz.call90 Tryz.ntmps90 rfl (rs:=[]) rfl (rdClo rfl) rfl (keep:=[0,1,2,5]) fun pin=>?_;conv=>whnf
 repeat' first|(refine iG ?_ ?_<;>intro hb hc<;>first|exact yE|conv=>whnf)|(refine gqs ?_;conv=>whnf)|(refine yt ?_;conv=>whnf)|exact yK|fail
 ·rw[show failF R c t=_ from if_pos hc]
  refine⟨[],[],?_,?_,rfl⟩<;>repeat' first|exact eN|apply zi
 ·rw[show failF R c t=_ from if_neg hc]
  refine⟨[],[],?_,?_,rfl⟩<;>repeat' first|exact eN|apply zi
def takeF (R:RdE) (k:Int):RdE:=if(nxt R).kind≠k\/R.l.length<=R.i/\k=6 then failF R 3 (nxt R) else { R with i:=R.i+1}
theorem take_S (R:RdE) (x:Value) (k:Int) (h:RdOk R):ASpecM Tryz.prog 86 [.op 1000 0,.i .i64 k] (rdX R (.v x)) (eS (nxt R)) (rdX (takeF R k) (.v x)):=by
 have h1:=h.l
 have h2:=h.i
 refine ASpecM.enter TYok mixed Tryz.func86 rfl Tryz.call86 Tryz.ntmps86 rfl (rs:=[.cell 4 93]) rfl (rdClo rfl) rfl (keep:=[0,1,4,5]) fun pin=>?_;conv=>whnf
 repeat' first|(refine iG ?_ ?_<;>intro hb hc<;>first|exact yE|conv=>whnf)|(refine gqs ?_;conv=>whnf)|(refine gqc (x:=fun _=>next_S R _ h) (k:= ?_);conv=>whnf)|(refine gqm (x:=fail_S R x 3 (nxt R)) (k:= ?_);conv=>whnf)|(refine yt ?_;conv=>whnf)|exact yK|fail
 ·rw[show takeF R k=_ from if_pos (by omega)]
  refine⟨[],[],?_,?_,rfl⟩<;>repeat' first|exact eN|apply zi
 ·rw[show takeF R k=_ from if_neg (by omega)]
  refine⟨[],[],?_,?_,rfl⟩<;>repeat' first|exact eN|apply zi
def isB (R:RdE) (k:Int) (s:ByteArray):Bool:=decide (R.flt.code=0)&&(decide ((nxt R).kind=k)&&decide ((nxt R).text=s))
def goF (R:RdE):RdE:= { R with i:=R.i+1}
def isF (R:RdE) (k:Int) (s:ByteArray):RdE:=if isB R k s=true then goF R else R
theorem is_S (R:RdE) (x:Value) (k:Int) (s:ByteArray) (h:RdOk R):ASpecM Tryz.prog 117 [.op 1000 0,.i .i64 k,.s s] (rdX R (.v x)) (.b (isB R k s)) (rdX (isF R k s) (.v x)):=by
 have h1:=h.l
 have h2:=h.i
 refine ASpecM.enter TYok mixed Tryz.func117 rfl Tryz.call117 Tryz.ntmps117 rfl (rs:=[.tmp 6]) rfl (rdClo rfl) rfl (keep:=[0,1,2,6,7]) fun pin=>?_;conv=>whnf
 repeat' first|(refine iG ?_ ?_<;>intro hb hc<;>first|exact yE|conv=>whnf)|(refine gqs ?_;conv=>whnf)|(refine gqc (x:=fun _=>next_S R _ h) (k:= ?_);conv=>whnf)|(refine yt ?_;conv=>whnf)|exact yK|fail
 ·have e:isB R k s=false:=by rw[isB];have:=congrArg (!·) hb;simpa[Bool.and_assoc] using this
  rw[isF,e]
  refine⟨[],[],?_,?_,rfl⟩<;>repeat' first|exact eN|apply zi
 ·have e:isB R k s=true:=by simp only[isB];simp_all
  rw[isF,e]
  refine⟨[],[],?_,?_,rfl⟩<;>repeat' first|exact eN|apply zi
def mustF (R:RdE) (k:Int) (s:ByteArray):RdE:=if R.flt.code=0 then(if isB R k s=true then goF R else failF R 3 (nxt R)) else R
theorem must_S (R:RdE) (x:Value) (k:Int) (s:ByteArray) (h:RdOk R):ASpecM Tryz.prog 116 [.op 1000 0,.i .i64 k,.s s] (rdX R (.v x)) (.tup []) (rdX (mustF R k s) (.v x)):=by
 have h1:=h.l
 have h2:=h.i
 have hI:=is_S R x k s h
 cases hB:isB R k s with
 |false=>
  rw[isF,hB,if_neg (fun h=>nomatch h)] at hI
  refine ASpecM.enter TYok mixed Tryz.func116 rfl Tryz.call116 Tryz.ntmps116 rfl (rs:=[]) rfl (rdClo rfl) rfl (keep:=[0,1,2]) fun pin=>?_;conv=>whnf
  repeat' first|(refine iG ?_ ?_<;>intro hb hc<;>first|exact yE|conv=>whnf)|(refine gqs ?_;conv=>whnf)|(refine yt ?_;conv=>whnf)|exact yK|fail
  refine CallG.grd ?_;(conv=>whnf);refine⟨fun ht=>cM (hI) ?_,.b false,fun ht=>?_⟩<;>(simp only[tg_ite,tg_nil,cn,Nat.reduceMul,Nat.reduceAdd,Nat.reduceEqDiff,↓reduceIte,decide_eq_true_eq,decide_eq_false_iff_not] at ht)<;>conv=>whnf
  ·repeat' first|(refine iG ?_ ?_<;>intro hb hc<;>first|exact yE|conv=>whnf)|(refine gqs ?_;conv=>whnf)|(refine gqc (x:=fun _=>next_S R _ h) (k:= ?_);conv=>whnf)|(refine gqm (x:=fail_S R x 3 (nxt R)) (k:= ?_);conv=>whnf)|(refine yt ?_;conv=>whnf)|exact yK|fail
   ·rw[show mustF R k s=_ from if_pos ht,hB]
    refine⟨[],[],?_,?_,rfl⟩<;>repeat' first|exact eN|apply zi
   ·exact absurd hb (by simp[pickB_and,ht])
  ·repeat' first|(refine iG ?_ ?_<;>intro hb hc<;>first|exact yE|conv=>whnf)|(refine gqs ?_;conv=>whnf)|(refine gqc (x:=fun _=>next_S R _ h) (k:= ?_);conv=>whnf)|(refine gqm (x:=fail_S R x 3 (nxt R)) (k:= ?_);conv=>whnf)|(refine yt ?_;conv=>whnf)|exact yK|fail
   rw[show mustF R k s=_ from if_neg ht]
   refine⟨[],[],?_,?_,rfl⟩<;>repeat' first|exact eN|apply zi
 |true=>
  rw[isF,hB,if_pos rfl] at hI
  refine ASpecM.enter TYok mixed Tryz.func116 rfl Tryz.call116 Tryz.ntmps116 rfl (rs:=[]) rfl (rdClo rfl) rfl (keep:=[0,1,2]) fun pin=>?_;conv=>whnf
  repeat' first|(refine iG ?_ ?_<;>intro hb hc<;>first|exact yE|conv=>whnf)|(refine gqs ?_;conv=>whnf)|(refine yt ?_;conv=>whnf)|exact yK|fail
  refine CallG.grd ?_;(conv=>whnf);refine⟨fun ht=>cM (hI) ?_,.b false,fun ht=>?_⟩<;>(simp only[tg_ite,tg_nil,cn,Nat.reduceMul,Nat.reduceAdd,Nat.reduceEqDiff,↓reduceIte,decide_eq_true_eq,decide_eq_false_iff_not] at ht)<;>conv=>whnf
  ·repeat' first|(refine iG ?_ ?_<;>intro hb hc<;>first|exact yE|conv=>whnf)|(refine gqs ?_;conv=>whnf)|(refine yt ?_;conv=>whnf)|exact yK|fail
   ·exact absurd hb (by simp[pickB_and])
   ·rw[show mustF R k s=_ from if_pos ht,hB]
    refine⟨[],[],?_,?_,rfl⟩<;>repeat' first|exact eN|apply zi
  ·repeat' first|(refine iG ?_ ?_<;>intro hb hc<;>first|exact yE|conv=>whnf)|(refine gqs ?_;conv=>whnf)|(refine yt ?_;conv=>whnf)|exact yK|fail
   rw[show mustF R k s=_ from if_neg ht]
   refine⟨[],[],?_,?_,rfl⟩<;>repeat' first|exact eN|apply zi
def closeF (R:RdE):RdE:=if R.flt.code≠0\/R.l.length<=R.i then R else takeF R 6
theorem close_S (R:RdE) (x:Value) (h:RdOk R):ASpecM Tryz.prog 48 [.op 1000 0] (rdX R (.v x)) (.tup []) (rdX (closeF R) (.v x)):=by
 have h1:=h.l
 have h2:=h.i
 refine ASpecM.enter TYok mixed Tryz.func48 rfl Tryz.call48 Tryz.ntmps48 rfl (rs:=[]) rfl (rdClo rfl) rfl (keep:=[0]) fun pin=>?_;conv=>whnf
 repeat' first|(refine iG ?_ ?_<;>intro hb hc<;>first|exact yE|conv=>whnf)|(refine gqs ?_;conv=>whnf)|(refine gqm (x:=take_S R x 6 h) (k:= ?_);conv=>whnf)|(refine yt ?_;conv=>whnf)|exact yK|fail
 ·rw[show closeF R=_ from if_pos (by omega)]
  refine⟨[],[],?_,?_,rfl⟩<;>repeat' first|exact eN|apply zi
 ·rw[show closeF R=_ from if_neg (by omega)]
  refine⟨[],[],?_,?_,rfl⟩<;>repeat' first|exact eN|apply zi
theorem RdOk.fail {R:RdE} (h:RdOk R) (c:Int) (t:TokE):RdOk (failF R c t):=by
 unfold failF
 split
 ·exact⟨h.l,h.i,h.en⟩
 ·exact h
theorem RdOk.lt {R:RdE} (h:RdOk R) (hk:(nxt R).kind≠6):R.i<R.l.length:=by
 rcases Nat.lt_or_ge R.i R.l.length with q|q
 ·exact q
 ·rw[nxt_ge q,h.en] at hk;exact absurd rfl hk
theorem RdOk.take {R:RdE} (h:RdOk R) (k:Int):RdOk (takeF R k):=by
 unfold takeF
 split
 ·exact h.fail _ _
 ·rename_i hc
  refine⟨h.l,?_,h.en⟩
  show R.i+1<=R.l.length
  rcases Nat.lt_or_ge R.i R.l.length with q|q
  ·exact q
  ·exfalso;rw[nxt_ge q,h.en] at hc;omega
theorem RdOk.go {R:RdE} (h:RdOk R) (hk:(nxt R).kind≠6):RdOk (goF R):=⟨h.l,h.lt hk,h.en⟩
theorem isB_kind {R:RdE} {k:Int} {s:ByteArray} (h:isB R k s=true):(nxt R).kind=k:=by
 simp only[isB,Bool.and_eq_true,decide_eq_true_eq] at h;exact h.2.1
theorem RdOk.is {R:RdE} (h:RdOk R) {k:Int} (hk:k≠6) (s:ByteArray):RdOk (isF R k s):=by
 unfold isF
 split
 ·rename_i hb;exact h.go (by rw[isB_kind hb];exact hk)
 ·exact h
theorem RdOk.must {R:RdE} (h:RdOk R) {k:Int} (hk:k≠6) (s:ByteArray):RdOk (mustF R k s):=by
 unfold mustF
 split
 ·split
  ·rename_i hb;exact h.go (by rw[isB_kind hb];exact hk)
  ·exact h.fail _ _
 ·exact h
theorem RdOk.close {R:RdE} (h:RdOk R):RdOk (closeF R):=by
 unfold closeF
 split
 ·exact h
 ·exact h.take _
def tailB (s:ByteArray):ByteArray:=s.extract 1 s.size
def smallF (s:ByteArray) (c:Int):Int×Bool:=if s.size<2\/4<s.size\/byteAt s 0≠c then(0,false) else((Lib.atoi (tailB s).data.toList).getD 0,decide (itoaB ((Lib.atoi (tailB s).data.toList).getD 0)=tailB s))
def smallG (s:ByteArray) (c:Int):Bool:=decide (s.size<2\/4<s.size\/byteAt s 0≠c)||match Lib.atoi (tailB s).data.toList with
 |some n=>decide (0<=n/\n<1000)
 |none=>false
theorem small_S (s:ByteArray) (c:Int) (h:smallG s c=true):ASpec Tryz.prog 119 [.s s,.i .u8 c] (.tup [.i .i64 (smallF s c).1,.b (smallF s c).2]) []:=by
 by_cases hc0:s.size<2\/4<s.size\/byteAt s 0≠c
 ·refine ASpec.enter TYok mixed Tryz.func119 rfl Tryz.call119 Tryz.ntmps119 rfl (rs:=[.tmp 4,.tmp 5]) rfl (nodupB_ok rfl) (Clo.one rfl) (keep:=[0,1,4,5,6,7]) ?_;conv=>whnf
  repeat' first|(refine iG ?_ ?_<;>intro hb hc<;>first|exact yE|conv=>whnf)|(refine gqs ?_;conv=>whnf)|(refine gqc (x:=fun _=>Atoi_S (tailB s) 0 (by omega) (by omega)) (k:= ?_);conv=>whnf)|(refine gqc (x:=fun _=>Itoa_S 0 (by omega) (by omega)) (k:= ?_);conv=>whnf)|(refine yt ?_;conv=>whnf)|exact yK|fail
  exact⟨_,.keep (by rw[smallF,if_pos hc0]) rfl⟩
 ·obtain⟨n,hn,h0,h1⟩: ∃n,Lib.atoi (tailB s).data.toList=some n/\0<=n/\n<1000:=by
   unfold smallG at h
   rw[decide_eq_false hc0,Bool.false_or] at h
   split at h
   ·rename_i n hn;exact⟨n,hn,of_decide_eq_true h⟩
   ·cases h
  have hs:(tailB s).size<=18:=by unfold tailB;rw[ByteArray.size_extract];omega
  refine ASpec.enter TYok mixed Tryz.func119 rfl Tryz.call119 Tryz.ntmps119 rfl (rs:=[.tmp 4,.tmp 5]) rfl (nodupB_ok rfl) (Clo.one rfl) (keep:=[0,1,4,5,6,7]) ?_;conv=>whnf
  repeat' first|(refine iG ?_ ?_<;>intro hb hc<;>first|exact yE|conv=>whnf)|(refine gqs ?_;conv=>whnf)|(refine gqc (x:=fun _=>Atoi_S (tailB s) n hs hn) (k:= ?_);conv=>whnf)|(refine gqc (x:=fun _=>Itoa_S n (by omega) (by omega)) (k:= ?_);conv=>whnf)|(refine yt ?_;conv=>whnf)|exact yK|fail
  exact⟨_,.keep (by rw[smallF,if_neg hc0,hn,pickB_and];rfl) rfl⟩
def kindF (R:RdE):RdE×Int:=
 if R.flt.code≠0 then(R,0)
 else if(takeF R 1).flt.code≠0\/(nxt R).text=(⟨#[118,111,105,100]⟩:ByteArray) then(takeF R 1,0)
 else if(nxt R).text=(⟨#[112,116,114]⟩:ByteArray) then(takeF R 1,65)
 else if¬(smallF (nxt R).text 105).2=true\/(smallF (nxt R).text 105).1<1\/64<(smallF (nxt R).text 105).1 then(failF (takeF R 1) 7 (nxt R),(smallF (nxt R).text 105).1)
 else(takeF R 1,(smallF (nxt R).text 105).1)
theorem RdOk.kind {R:RdE} (h:RdOk R):RdOk (kindF R).1:=by
 unfold kindF
 repeat' split
 all_goals first|exact h|exact h.take 1|exact(h.take 1).fail _ _
theorem kindK_S (R:RdE) (x:Value) (h:RdOk R) (hg:smallG (nxt R).text 105=true):ASpecM Tryz.prog 118 [.op 1000 0] (rdX R (.v x)) (.i .i64 (kindF R).2) (rdX (kindF R).1 (.v x)):=by
 have h1:=h.l
 have h2:=h.i
 refine ASpecM.enter TYok mixed Tryz.func118 rfl Tryz.call118 Tryz.ntmps118 rfl (rs:=[.tmp 2]) rfl (rdClo rfl) rfl (keep:=[0,2,3,4,5]) fun pin=>?_;conv=>whnf
 repeat' first|(refine iG ?_ ?_<;>intro hb hc<;>first|exact yE|conv=>whnf)|(refine gqs ?_;conv=>whnf)|(refine gqm (x:=take_S R x 1 h) (k:= ?_);conv=>whnf)|(refine gqc (x:=fun _=>small_S (nxt R).text 105 hg) (k:= ?_);conv=>whnf)|(refine gqm (x:=fail_S (takeF R 1) x 7 (nxt R)) (k:= ?_);conv=>whnf)|(refine yt ?_;conv=>whnf)|exact yK|fail
 ·rw[show kindF R=_ from if_pos (by omega)]
  refine⟨[],[],?_,?_,rfl⟩<;>repeat' first|exact eN|apply zi
 all_goals have e0: ¬R.flt.code≠0:=by omega
 ·rw[show kindF R=_ from(if_neg e0).trans (if_pos (by simpa using hc))]
  refine⟨[],[],?_,?_,rfl⟩<;>repeat' first|exact eN|apply zi
 ·rw[show kindF R=_ from(if_neg e0).trans ((if_neg (by simp_all)).trans (if_pos hc))]
  refine⟨[],[],?_,?_,rfl⟩<;>repeat' first|exact eN|apply zi
 ·rw[show kindF R=_ from(if_neg e0).trans ((if_neg (by simp_all)).trans ((if_neg (by simp_all)).trans (if_pos (by rcases hc with(h|h)|h<;>simp[h]))))]
  refine⟨[],[],?_,?_,rfl⟩<;>repeat' first|exact eN|apply zi
 ·rw[show kindF R=_ from(if_neg e0).trans ((if_neg (by simp_all)).trans ((if_neg (by simp_all)).trans (if_neg (by simp_all))))]
  refine⟨[],[],?_,?_,rfl⟩<;>repeat' first|exact eN|apply zi
def opsT:ByteArray:=(⟨#[97,100,100,32,115,117,98,32,109,117,108,32,117,100,105,118,32,115,100,105,118,32,117,114,101,109,32,115,114,101,109,32,97,110,100,32,111,114,32,120,111,114,32,115,104,108,32,108,115,104,114,32,97,115,104,114,32,101,113,32,110,101,32,117,108,116,32,117,108,101,32,115,108,116,32,115,108,101,32,122,101,120,116,32,115,101,120,116,32,116,114,117,110,99,32,115,101,108,101,99,116,32,102,114,101,101,122,101,32,112,104,105,32,97,108,108,111,99,97,32,108,111,97,100,32,115,116,111,114,101,32,103,101,112,32,99,97,108,108,32,98,114,32,98,114,105,102,32,114,101,116,32,104,97,108,116]⟩:ByteArray)
def opsL:List ByteArray:=(Lib.fields opsT.data.toList).map fun l=>(⟨l.toArray⟩:ByteArray)
def firstB (w:ByteArray):List ByteArray->Nat->Nat
 |[],_=>0
 |x::l,k=>if x=w then k+1 else firstB w l (k+1)
def opF (w:ByteArray):Nat:=firstB w opsL 0
theorem opsL_len:opsL.length=34:=by kernel_rfl
theorem FieldsO_S (s:ByteArray) (hs:s=opsT):ASpec Tryz.prog 150 [.s s] (eL opsL) []:=by
 subst hs
 refine Fields_S opsT (by decide+kernel) fun b hb=>?_
 have h:(opsT.data.toList.all fun b=>decide (b.toNat<128))=true:=by decide+kernel
 rw[List.all_eq_true] at h
 simpa using h b hb
theorem op_S (w:ByteArray):ASpec Tryz.prog 138 [.s w] (.i .i64 (opF w)) []:=by
 have h0:=opsL_len
 refine ASpec.enter TYok mixed Tryz.func138 rfl Tryz.call138 Tryz.ntmps138 rfl (rs:=[.tmp 2]) rfl (nodupB_ok rfl) (Clo.one rfl) (keep:=[0,2,3,4,5,7,8,9]) ?_;conv=>whnf
 repeat' first|(refine iG ?_ ?_<;>intro hb hc<;>first|exact yE|conv=>whnf)|(refine gqs ?_;conv=>whnf)|(refine gqc (x:=fun _=>FieldsO_S _ rfl) (k:= ?_);conv=>whnf)|(refine yt ?_;conv=>whnf)|exact yK|fail
 refine lp [9] (fun q:Nat=>[.i .i64 q]) (fun q=>[]) (fun q=>q<=34/\firstB w (opsL.drop q) q=opF w) (fun q=>34-q) 0 ⟨by omega,rfl⟩ ?_ fun q hq=>?_
 ·refine eP [] [] ?_ ?_<;>repeat' first|exact eN|apply zi
 conv=>whnf
 obtain⟨hq,hv⟩:=hq
 have e1:q<34->opsL.drop q=opsL.getD q Enc.d::opsL.drop (q+1):=fun h=>by rw[List.drop_eq_getElem_cons (by omega),List.getD_eq_getElem?_getD,List.getElem?_eq_getElem (by omega)];rfl
 repeat' first|(refine iG ?_ ?_<;>intro hb hc<;>first|exact yE|conv=>whnf)|(refine gqs ?_;conv=>whnf)|(refine yt ?_;conv=>whnf)|exact yK|fail
 ·rw[e1 (by omega),firstB,if_pos hc] at hv
  exact⟨_,.keep (by rw[<-hv];rfl) rfl⟩
 ·rw[e1 (by omega),firstB,if_neg hc] at hv
  refine .mk (q+1) ⟨by omega,hv⟩ (by omega) ?_
  refine eP [] [] ?_ ?_<;>repeat' first|exact eN|apply zi
 ·rw[List.drop_of_length_le (by omega)] at hv
  exact⟨_,.keep (by rw[<-hv];rfl) rfl⟩
def inB (X:InsE):Obj:= .box none (some 53) [.i .i64 X.op,.i .i64 X.reg,.i .i64 X.t,.i .i64 X.n,.i .i64 X.f,.orow 1011 3 0 X.args.length,.nil]
def inO (X:InsE):Os:=[(1010,inB X),(1011,oL X.args)]
def riO (R:RdE) (x:Value) (X:InsE):Os:=(1000,.box none (some 97) (rdC R (.v x)))::inO X
theorem riClo {R:RdE} {x:Value} {X:InsE} {v:AV} (hv:noOwn v=true):Clo v (riO R x X):=by
 refine⟨fun id hm=>(Bool.noConfusion ((noOwn_men hv).symm.trans hm)),fun i ob h id hm=>?_⟩
 unfold riO inO at h⊢
 rw[lk_cons] at h
 split at h
 ·cases h;cases hm
 ·rw[lk_cons] at h
  split at h
  ·cases h
   have:id=1011:=by
    simp only[inB,omen,mens,men,Bool.or_false,Bool.false_or] at hm
    exact(Nat.eq_of_beq_eq_true hm).symm
   subst this;rfl
  ·rw[lk_cons] at h
   split at h
   ·cases h;cases hm
   ·simp[lk] at h
structure LatE where
 t:TokE
 f:Int
 b:Int
 i:Int
 k:Int
instance:Enc LatE:=⟨fun x=>[.i .i64 x.t.kind,.s x.t.text,.i .i64 x.t.line,.i .i64 x.t.col,.i .i64 x.f,.i .i64 x.b,.i .i64 x.i,.i .i64 x.k],8,⟨⟨0,⟨#[]⟩,0,0⟩,0,0,0,0⟩⟩
def atoiV (s:ByteArray):Int:=(Lib.atoi s.data.toList).getD 0
def puV (s:ByteArray):Nat:=match Lib.parseUintB 64 s.data.toList with
 | .ok u=>u
 |_=>0
def valO (t:TokE):Option Opd:=
 if t.kind=3 then some ⟨1,atoiV t.text,0⟩
 else if t.kind=2 then some ⟨2,0,puV t.text⟩
 else if t.kind=1/\t.text=(⟨#[112,111,105,115,111,110]⟩:ByteArray) then some ⟨3,0,0⟩
 else if t.kind=1/\t.text=(⟨#[110,117,108,108]⟩:ByteArray) then some ⟨4,0,0⟩
 else none
def regG (t:TokE):Bool:=decide (t.text.size<=18)&&(Lib.atoi t.text.data.toList).isSome
def numG (t:TokE):Bool:=decide (t.text.size<=65536)&&(match Lib.parseUintB 64 t.text.data.toList with
 | .ok _=>true
 |_=>false)
def valG (t:TokE):Bool:= !decide (t.kind=4)&&((!decide (t.kind=3)||regG t)&&(!decide (t.kind=2)||numG t))
theorem regG_ok {t:TokE} (h:regG t=true):t.text.size<=18/\Lib.atoi t.text.data.toList=some (atoiV t.text):=by
 simp only[regG,Bool.and_eq_true,decide_eq_true_eq] at h
 refine⟨h.1,?_⟩
 unfold atoiV
 cases hq:Lib.atoi t.text.data.toList with
 |none=>rw[hq] at h;cases h.2
 |some n=>rfl
theorem numG_ok {t:TokE} (h:numG t=true):t.text.size<=65536/\Lib.parseUintB 64 t.text.data.toList= .ok (puV t.text):=by
 simp only[numG,Bool.and_eq_true,decide_eq_true_eq] at h
 refine⟨h.1,?_⟩
 unfold puV
 split at h
 ·rename_i u hu;rw[hu]
 ·cases h.2
def valueF (R:RdE) (X:InsE):RdE×InsE:=if R.flt.code≠0 then(R,X) else match valO (nxt R) with
 |some v=>(goF R,{ X with args:=X.args++[v]})
 |none=>(failF R 3 (nxt R),X)
theorem value_S (R:RdE) (x:Value) (X:InsE) (a:LatE) (h:RdOk R) (hg:valG (nxt R)=true) (hl:X.args.length<4294967296):
  ASpecM Tryz.prog 167 [.op 1000 0,.op 1010 0,eS a] (riO R x X) (.tup []) (riO (valueF R X).1 x (valueF R X).2):=by
 have h1:=h.l
 have h2:=h.i
 simp only[valG,Bool.and_eq_true,Bool.or_eq_true,Bool.not_eq_true',decide_eq_false_iff_not] at hg
 obtain⟨g1,g2,g3⟩:=hg
 have e0:R.flt.code≠0->valueF R X=(R,X):=fun e=>if_pos e
 have e1: ∀v,R.flt.code=0->valO (nxt R)=some v->valueF R X=(goF R,{ X with args:=X.args++[v]}):=fun v e e'=>by rw[valueF,if_neg (by omega),e']
 have e2:R.flt.code=0->valO (nxt R)=none->valueF R X=(failF R 3 (nxt R),X):=fun e e'=>by rw[valueF,if_neg (by omega),e']
 by_cases k3:(nxt R).kind=3
 ·obtain⟨g4,g5⟩:=regG_ok (g2.resolve_left (fun e=>e k3))
  refine ASpecM.enter TYok mixed Tryz.func167 rfl Tryz.call167 Tryz.ntmps167 rfl (rs:=[]) rfl (riClo rfl) rfl (keep:=[0,1,2,5,6,7,8,10]) fun pin=>?_;conv=>whnf
  repeat' first|(refine iG ?_ ?_<;>intro hb hc<;>first|exact yE|conv=>whnf)|(refine gqs ?_;conv=>whnf)|(refine gqc (x:=fun _=>next_S R _ h) (k:= ?_);conv=>whnf)|(refine gqc (x:=fun _=>Atoi_S _ _ g4 g5) (k:= ?_);conv=>whnf)|(refine yt ?_;conv=>whnf)|exact yK|fail
  ·rw[e0 hc]
   refine⟨[],[],?_,?_,rfl⟩<;>repeat' first|exact eN|apply zi
  ·rw[e1 _ (by assumption) (if_pos k3)]
   refine⟨[(1011,105)],[],?_,?_,rfl⟩<;>repeat' first|exact eN|apply zi|exact snoc_len rfl|exact snoc_get rfl rfl|rw[rfl]
 ·by_cases k2:(nxt R).kind=2
  ·obtain⟨g4,g5⟩:=numG_ok (g3.resolve_left (fun e=>e k2))
   refine ASpecM.enter TYok mixed Tryz.func167 rfl Tryz.call167 Tryz.ntmps167 rfl (rs:=[]) rfl (riClo rfl) rfl (keep:=[0,1,2,5,6,7,8,10]) fun pin=>?_;conv=>whnf
   repeat' first|(refine iG ?_ ?_<;>intro hb hc<;>first|exact yE|conv=>whnf)|(refine gqs ?_;conv=>whnf)|(refine gqc (x:=fun _=>next_S R _ h) (k:= ?_);conv=>whnf)|(refine gqc (x:=fun _=>ParseUint_S _ _ (by omega) g5) (k:= ?_);conv=>whnf)|(refine yt ?_;conv=>whnf)|exact yK|fail
   ·rw[e0 hc]
    refine⟨[],[],?_,?_,rfl⟩<;>repeat' first|exact eN|apply zi
   ·rw[e1 _ (by assumption) ((if_neg k3).trans (if_pos k2))]
    refine⟨[(1011,105)],[],?_,?_,rfl⟩<;>repeat' first|exact eN|apply zi|exact snoc_len rfl|exact snoc_get rfl rfl|rw[rfl]
  ·refine ASpecM.enter TYok mixed Tryz.func167 rfl Tryz.call167 Tryz.ntmps167 rfl (rs:=[]) rfl (riClo rfl) rfl (keep:=[0,1,2,5,6,7,8,10]) fun pin=>?_;conv=>whnf
   repeat' first|(refine iG ?_ ?_<;>intro hb hc<;>first|exact yE|conv=>whnf)|(refine gqs ?_;conv=>whnf)|(refine gqc (x:=fun _=>next_S R _ h) (k:= ?_);conv=>whnf)|(refine gqm (x:=fail_S R x 3 (nxt R)) (k:= ?_);conv=>whnf)|(refine yt ?_;conv=>whnf)|exact yK|fail
   ·rw[e0 hc]
    refine⟨[],[],?_,?_,rfl⟩<;>repeat' first|exact eN|apply zi
   ·rw[e1 _ (by assumption) ((if_neg k3).trans ((if_neg k2).trans (if_pos hc)))]
    refine⟨[(1011,105)],[],?_,?_,rfl⟩<;>repeat' first|exact eN|apply zi|exact snoc_len rfl|exact snoc_get rfl rfl|rw[rfl]
   ·rw[e1 _ (by assumption) ((if_neg k3).trans ((if_neg k2).trans ((if_neg (by simp_all)).trans (if_pos hc))))]
    refine⟨[(1011,105)],[],?_,?_,rfl⟩<;>repeat' first|exact eN|apply zi|exact snoc_len rfl|exact snoc_get rfl rfl|rw[rfl]
   ·rw[e2 (by assumption) ((if_neg k3).trans ((if_neg k2).trans ((if_neg (by simp_all)).trans (if_neg (by simp_all)))))]
    refine⟨[],[],?_,?_,rfl⟩<;>repeat' first|exact eN|apply zi
def opsN (R:RdE) (X:InsE):Nat->RdE×InsE
 |0=>(R,X)
 |q+1=>valueF (if 0<q then mustF (opsN R X q).1 5 (⟨#[44]⟩:ByteArray) else(opsN R X q).1) (opsN R X q).2
def opsA (R:RdE) (X:InsE) (q:Nat):RdE:=if 0<q then mustF (opsN R X q).1 5 (⟨#[44]⟩:ByteArray) else(opsN R X q).1
theorem opsN_succ (R:RdE) (X:InsE) (q:Nat):opsN R X (q+1)=valueF (opsA R X q) (opsN R X q).2:=rfl
theorem RdOk.value {R:RdE} {X:InsE} (h:RdOk R):RdOk (valueF R X).1:=by
 unfold valueF
 split
 ·exact h
 ·split
  ·rename_i v hv
   refine h.go fun h6=>?_
   unfold valO at hv
   rw[if_neg (by omega),if_neg (by omega),if_neg (by omega),if_neg (by omega)] at hv
   cases hv
  ·exact h.fail _ _
theorem value_len (R:RdE) (X:InsE):(valueF R X).2.args.length<=X.args.length+1:=by
 unfold valueF
 split
 ·exact Nat.le_succ _
 ·split
  ·show(X.args++[_]).length<=_;rw[List.length_append];exact Nat.le_refl _
  ·exact Nat.le_succ _
theorem RdOk.opsA {R:RdE} {X:InsE} {q:Nat} (h:RdOk (opsN R X q).1):RdOk (opsA R X q):=by
 unfold YtnfdieeaelhpbaaGreatDoor.opsA
 split
 ·exact h.must (by decide) _
 ·exact h
theorem RdOk.ops {R:RdE} {X:InsE} (h:RdOk R): ∀q,RdOk (opsN R X q).1
 |0=>h
 |q+1=>by rw[opsN_succ];exact RdOk.value (RdOk.opsA (RdOk.ops h q))
theorem ops_len {R:RdE} {X:InsE}: ∀q,(opsN R X q).2.args.length<=X.args.length+q
 |0=>Nat.le_refl _
 |q+1=>by rw[opsN_succ];have:=value_len (opsA R X q) (opsN R X q).2;have:=ops_len (R:=R) (X:=X) q;omega
theorem operandsK_S (R:RdE) (x:Value) (X:InsE) (a:LatE) (n:Nat) (h:RdOk R) (hg: ∀q,q<n->valG (nxt (opsA R X q))=true) (hl:X.args.length+n<4294967296):
  ASpecM Tryz.prog 151 [.op 1000 0,.op 1010 0,eS a,.i .i64 n] (riO R x X) (.tup []) (riO (opsN R X n).1 x (opsN R X n).2):=by
 refine ASpecM.enter TYok mixed Tryz.func151 rfl Tryz.call151 Tryz.ntmps151 rfl (rs:=[]) rfl (riClo rfl) rfl (keep:=[0,1,2,3,6,8,9,10]) fun pin=>?_;conv=>whnf
 repeat' first|(refine iG ?_ ?_<;>intro hb hc<;>first|exact yE|conv=>whnf)|(refine gqs ?_;conv=>whnf)|(refine yt ?_;conv=>whnf)|exact yK|fail
 refine lp [10] (fun q:Nat=>[.i .i64 q]) (fun q=>(6,bx a)::pinO pin (riO (opsN R X q).1 x (opsN R X q).2)) (fun q=>q<=n) (fun q=>n-q) 0 (Nat.zero_le _) ?_ fun q hq=>?_
 ·refine eP [] [] ?_ ?_<;>repeat' first|exact eN|apply zi
 conv=>whnf
 have h3:=h.ops (X:=X) q
 have h4:=ops_len (R:=R) (X:=X) q
 have h6:=hg q
 have h7:=opsN_succ R X q
 have h8:=RdOk.opsA h3
 have h9:0<q->opsA R X q=mustF (opsN R X q).1 5 (⟨#[44]⟩:ByteArray):=fun e=>if_pos e
 have h10: ¬0<q->opsA R X q=(opsN R X q).1:=fun e=>if_neg e
 have h11:q=n->opsN R X n=opsN R X q:=fun e=>by rw[e]
 generalize hr0:opsN R X q=P at*
 generalize hr1:opsA R X q=A at*
 have hm:=must_S P.1 x 5 (⟨#[44]⟩:ByteArray) h3
 repeat' first|(refine iG ?_ ?_<;>intro hb hc<;>first|exact yE|conv=>whnf)|(refine gqs ?_;conv=>whnf)|(refine yt ?_;conv=>whnf)|exact yK|fail
 ·rw[<-h9 (by omega)] at hm
  repeat' first|(refine iG ?_ ?_<;>intro hb hc<;>first|exact yE|conv=>whnf)|(refine gqs ?_;conv=>whnf)|(refine gqm (x:=hm) (k:= ?_);conv=>whnf)|(refine gqm (x:=value_S A x P.2 a h8 (h6 (by omega)) (by omega)) (k:= ?_);conv=>whnf)|(refine yt ?_;conv=>whnf)|exact yK|fail
  refine .mk (q+1) (by omega) (by omega) ?_
  refine eP [] [] ?_ ?_<;>repeat' first|exact eN|apply zi|exact snoc_len h7|exact snoc_get h7 rfl|rw[h7]
 ·rw[h10 (by omega)] at h6 h7
  repeat' first|(refine iG ?_ ?_<;>intro hb hc<;>first|exact yE|conv=>whnf)|(refine gqs ?_;conv=>whnf)|(refine gqm (x:=value_S P.1 x P.2 a h3 (h6 (by omega)) (by omega)) (k:= ?_);conv=>whnf)|(refine yt ?_;conv=>whnf)|exact yK|fail
  refine .mk (q+1) (by omega) (by omega) ?_
  refine eP [] [] ?_ ?_<;>repeat' first|exact eN|apply zi|exact snoc_len h7|exact snoc_get h7 rfl|rw[h7]
 ·rw[h11 (by omega)]
  refine⟨[],[],?_,?_,rfl⟩<;>repeat' first|exact eN|apply zi
theorem isNo_S {R:RdE} (x:Value) {k:Int} {s:ByteArray} (h:RdOk R) (hb:isB R k s=false):ASpecM Tryz.prog 117 [.op 1000 0,.i .i64 k,.s s] (rdX R (.v x)) (.b false) (rdX R (.v x)):=by
 have:=is_S R x k s h
 rw[isF,hb,if_neg (fun h=>nomatch h)] at this
 exact this
theorem operands_A (R:RdE) (x:Value) (X:InsE) (a:LatE) (n:Nat) (y:Int) (hy:y=n) (h:RdOk R) (hg: ∀q,q<n->valG (nxt (opsA R X q))=true) (hl:X.args.length+n<4294967296):
  ASpecM Tryz.prog 151 [.op 1000 0,.op 1010 0,eS a,.i .i64 y] (riO R x X) (.tup []) (riO (opsN R X n).1 x (opsN R X n).2):=by subst hy;exact operandsK_S R x X a n h hg hl
def tyF (R:RdE) (X:InsE) (n:Nat):RdE×InsE:=opsN (kindF R).1 { X with t:=(kindF R).2} n
def tyG (R:RdE) (X:InsE) (n:Nat):Bool:=smallG (nxt R).text 105&&(List.range n).all fun q=>valG (nxt (opsA (kindF R).1 { X with t:=(kindF R).2} q))
theorem tyG_ok {R:RdE} {X:InsE} {n:Nat} (h:tyG R X n=true):smallG (nxt R).text 105=true/\ ∀q,q<n->valG (nxt (opsA (kindF R).1 { X with t:=(kindF R).2} q))=true:=by
 simp only[tyG,Bool.and_eq_true,List.all_eq_true,List.mem_range] at h
 exact h
def leaveF (R:RdE) (X:InsE):RdE×InsE:=if(nxt R).kind=6 then(R,X) else tyF R X 1
theorem leave_S (R:RdE) (x:Value) (X:InsE) (a:LatE) (h:RdOk R) (ho:X.op=33) (hg:(nxt R).kind≠6->tyG R X 1=true) (hl:X.args.length<4294967):
  ASpecM Tryz.prog 154 [.op 1000 0,.op 1010 0,eS a] (riO R x X) (.tup []) (riO (leaveF R X).1 x (leaveF R X).2):=by
 have h1:=h.l
 have h2:=h.i
 by_cases hk:(nxt R).kind=6
 ·refine ASpecM.enter TYok mixed Tryz.func154 rfl Tryz.call154 Tryz.ntmps154 rfl (rs:=[]) rfl (riClo rfl) rfl (keep:=[0,1,2,5,9]) fun pin=>?_;conv=>whnf
  repeat' first|(refine iG ?_ ?_<;>intro hb hc<;>first|exact yE|conv=>whnf)|(refine gqs ?_;conv=>whnf)|(refine gqc (x:=fun _=>next_S R _ h) (k:= ?_);conv=>whnf)|(refine yt ?_;conv=>whnf)|exact yK|fail
  rw[show leaveF R X=_ from if_pos hk]
  refine⟨[],[],?_,?_,rfl⟩<;>repeat' first|exact eN|apply zi
 ·obtain⟨g1,g2⟩:=tyG_ok (hg hk)
  refine ASpecM.enter TYok mixed Tryz.func154 rfl Tryz.call154 Tryz.ntmps154 rfl (rs:=[]) rfl (riClo rfl) rfl (keep:=[0,1,2,5,9]) fun pin=>?_;conv=>whnf
  repeat' first|(refine iG ?_ ?_<;>intro hb hc<;>first|exact yE|conv=>whnf)|(refine gqs ?_;conv=>whnf)|(refine gqc (x:=fun _=>next_S R _ h) (k:= ?_);conv=>whnf)|(refine gqm (x:=kindK_S R x h g1) (k:= ?_);conv=>whnf)|(refine yt ?_;conv=>whnf)|exact yK|fail
  refine CallW.chg ?_;(conv=>whnf);refine cM (operands_A (kindF R).1 x { X with t:=(kindF R).2} a 1 1 rfl h.kind g2 (by show X.args.length+1<_;omega)) ?_;conv=>whnf
  repeat' first|(refine iG ?_ ?_<;>intro hb hc<;>first|exact yE|conv=>whnf)|(refine gqs ?_;conv=>whnf)|(refine yt ?_;conv=>whnf)|exact yK|fail
  rw[show leaveF R X=tyF R X 1 from if_neg hk]
  refine⟨[],[],?_,?_,rfl⟩<;>repeat' first|exact eN|apply zi
def formF (R:RdE) (X:InsE):RdE×InsE:=if X.op<=13 then tyF R X 2 else leaveF R X
def formG (R:RdE) (X:InsE):Bool:=
 if X.op<=13 then(!isB R 1 (⟨#[110,115,119]⟩:ByteArray)&&(!isB R 1 (⟨#[110,117,119]⟩:ByteArray)&& !isB R 1 (⟨#[101,120,97,99,116]⟩:ByteArray)))&&tyG R X 2 else decide (X.op=33)&&(decide ((nxt R).kind=6)||tyG R X 1)
theorem form_S (R:RdE) (x:Value) (X:InsE) (a:LatE) (h:RdOk R) (hg:formG R X=true) (hl:X.args.length<4294967):
  ASpecM Tryz.prog 139 [.op 1000 0,.op 1010 0,eS a] (riO R x X) (.tup []) (riO (formF R X).1 x (formF R X).2):=by
 have h1:=h.l
 have h2:=h.i
 by_cases ho:X.op<=13
 ·rw[formG,if_pos ho] at hg
  simp only[Bool.and_eq_true,Bool.not_eq_true'] at hg
  obtain⟨⟨b1,b2,b3⟩,hg⟩:=hg
  obtain⟨g1,g2⟩:=tyG_ok hg
  refine ASpecM.enter TYok mixed Tryz.func139 rfl Tryz.call139 Tryz.ntmps139 rfl (rs:=[]) rfl (riClo rfl) rfl (keep:=[0,1,2,5,6,7,18,19,20]) fun pin=>?_;conv=>whnf
  repeat' first|(refine iG ?_ ?_<;>intro hb hc<;>first|exact yE|conv=>whnf)|(refine gqs ?_;conv=>whnf)|(refine yt ?_;conv=>whnf)|exact yK|fail
  refine lp [20] (fun q:Nat=>[.i .i64 q]) (fun q=>(5,bx a)::pinO pin (riO R x X)) (fun q=>q<=3) (fun q=>3-q) 0 (Nat.zero_le _) ?_ fun q hq=>?_
  ·refine eP [] [] ?_ ?_<;>repeat' first|exact eN|apply zi
  conv=>whnf
  rcases Nat.lt_or_ge q 3 with hlt|hge
  ·rcases q with _|_|_|q
   ·repeat' first|(refine iG ?_ ?_<;>intro hb hc<;>first|exact yE|conv=>whnf)|(refine gqs ?_;conv=>whnf)|(refine gqm (x:=isNo_S x h b1) (k:= ?_);conv=>whnf)|(refine yt ?_;conv=>whnf)|exact yK|fail
    ·exact nomatch hb
    refine .mk 1 (by omega) (by omega) ?_
    refine eP [] [] ?_ ?_<;>repeat' first|exact eN|apply zi
   ·repeat' first|(refine iG ?_ ?_<;>intro hb hc<;>first|exact yE|conv=>whnf)|(refine gqs ?_;conv=>whnf)|(refine gqm (x:=isNo_S x h b2) (k:= ?_);conv=>whnf)|(refine yt ?_;conv=>whnf)|exact yK|fail
    ·exact nomatch hb
    refine .mk 2 (by omega) (by omega) ?_
    refine eP [] [] ?_ ?_<;>repeat' first|exact eN|apply zi
   ·repeat' first|(refine iG ?_ ?_<;>intro hb hc<;>first|exact yE|conv=>whnf)|(refine gqs ?_;conv=>whnf)|(refine gqm (x:=isNo_S x h b3) (k:= ?_);conv=>whnf)|(refine yt ?_;conv=>whnf)|exact yK|fail
    ·exact nomatch hb
    refine .mk 3 (by omega) (by omega) ?_
    refine eP [] [] ?_ ?_<;>repeat' first|exact eN|apply zi
   ·omega
  ·repeat' first|(refine iG ?_ ?_<;>intro hb hc<;>first|exact yE|conv=>whnf)|(refine gqs ?_;conv=>whnf)|(refine gqm (x:=kindK_S R x h g1) (k:= ?_);conv=>whnf)|(refine yt ?_;conv=>whnf)|exact yK|fail
   refine CallW.chg ?_;(conv=>whnf);refine cM (operands_A (kindF R).1 x { X with t:=(kindF R).2} a 2 2 rfl h.kind g2 (by show X.args.length+2<_;omega)) ?_;conv=>whnf
   repeat' first|(refine iG ?_ ?_<;>intro hb hc<;>first|exact yE|conv=>whnf)|(refine gqs ?_;conv=>whnf)|(refine yt ?_;conv=>whnf)|exact yK|fail
   rw[show formF R X=tyF R X 2 from if_pos ho]
   refine⟨[],[],?_,?_,rfl⟩<;>repeat' first|exact eN|apply zi
 ·rw[formG,if_neg ho] at hg
  simp only[Bool.and_eq_true,Bool.or_eq_true,decide_eq_true_eq] at hg
  obtain⟨ho2,hg⟩:=hg
  refine ASpecM.enter TYok mixed Tryz.func139 rfl Tryz.call139 Tryz.ntmps139 rfl (rs:=[]) rfl (riClo rfl) rfl (keep:=[0,1,2,5,6,7,18,19,20]) fun pin=>?_;conv=>whnf
  repeat' first|(refine iG ?_ ?_<;>intro hb hc<;>first|exact yE|conv=>whnf)|(refine gqs ?_;conv=>whnf)|(refine gqm (x:=leave_S R x X a h ho2 (fun hk=>hg.resolve_left hk) hl) (k:= ?_);conv=>whnf)|(refine yt ?_;conv=>whnf)|exact yK|fail
  rw[show formF R X=leaveF R X from if_neg ho]
  refine⟨[],[],?_,?_,rfl⟩<;>repeat' first|exact eN|apply zi
def width (w:Int):Bool:=decide (1<=w)&&decide (w<=64)
def Cut (w v:Int):Int:=if 64<=w then v else v % 2^w.toNat
def half (w:Int):Int:=2^(w-1).toNat
def Flags (op:Int):Int:=if op=1\/op=2\/op=3\/op=11 then 3 else if op=4\/op=5\/op=12\/op=13 then 4 else 0
def Mask (w:Int):Int:=if 1<=w/\w<=64 then Cut w 18446744073709551615 else 0
structure BigE where
 hi:Int
 lo:Int
 below:Bool
 deriving DecidableEq
instance:Enc BigE:=⟨fun x=>[.i .u64 x.hi,.i .u64 x.lo,.b x.below],3,⟨0,0,false⟩⟩
def With (w v:Int):BigE:=if Cut w v<half w then⟨0,Cut w v,false⟩ else⟨0,Cut w ((0-Cut w v) % 18446744073709551616),true⟩
def Wrapped (w:Int) (a:BigE):Int:=if a.below then Cut w ((0-a.lo) % 18446744073709551616) else Cut w a.lo
def Convert (op a b v:Int):Int×Bool:=
 if¬(width a=true/\width b=true) then(0,false)
 else if op=20/\a<b then(Cut a v,true)
 else if op=21/\a<b then(Wrapped b (With a v),true)
 else if op=22/\b<a then(Cut b v,true) else(0,false)
def Result (x:InsE):Int:=if x.op<1\/30<x.op then 0 else if x.op=14\/x.op=15\/x.op=16\/x.op=17\/x.op=18\/x.op=19 then 1 else if x.op=26\/x.op=29 then 65 else if x.op=28 then 0 else x.t
theorem Result_S (x:InsE):ASpec Tryz.prog 43 [eS x] (.i .i64 (Result x)) []:=by
 refine ASpec.enter TYok mixed Tryz.func43 rfl Tryz.call43 Tryz.ntmps43 rfl (rs:=[.tmp 2]) rfl (nodupB_ok rfl) (Clo.one rfl) (keep:=[0,1,2,3,12]) ?_;conv=>whnf
 repeat' first|(refine iG ?_ ?_<;>intro hb hc<;>first|exact yE|conv=>whnf)|(refine gqs ?_;conv=>whnf)|(refine yt ?_;conv=>whnf)|exact yK|fail
 all_goals exact⟨_,.keep (by(try simp only[pickB_or,pickB_and]);unfold Result;repeat' (first|rfl|omega|split|(simp_all;done))) rfl⟩
def Ends (op:Int):Bool:=decide (op=31)||decide (op=32)||decide (op=33)||decide (op=34)
theorem ext_getD {α:Type} [Enc α] {a b:List α} (hl:a.length=b.length) (h: ∀i,i<a.length->a.getD i Enc.d=b.getD i Enc.d):a=b:=by
 refine List.ext_getElem hl fun i h1 h2=>?_
 have:=h i h1
 rwa [List.getD_eq_getElem?_getD,List.getD_eq_getElem?_getD,List.getElem?_eq_getElem h1,List.getElem?_eq_getElem h2] at this
theorem all_step {P:Nat->Prop} {q:Nat} (h: ∀i,i<q->P i) (hq:P q): ∀i,i<q+1->P i:=fun i hi=>if e:i=q then e▸hq else h i (by omega)
theorem Ints_S (a b:List Int) (ha:a.length<9223372036854775807):ASpec Tryz.prog 16 [eL a,eL b] (.b (decide (a=b))) []:=by
 refine ASpec.enter TYok mixed Tryz.func16 rfl Tryz.call16 Tryz.ntmps16 rfl (rs:=[.tmp 4]) rfl (nodupB_ok rfl) (Clo.one rfl) (keep:=[0,1,4,5]) ?_;conv=>whnf
 repeat' first|(refine iG ?_ ?_<;>intro hb hc<;>first|exact yE|conv=>whnf)|(refine gqs ?_;conv=>whnf)|(refine yt ?_;conv=>whnf)|exact yK|fail
 ·exact⟨_,.keep (congrArg AV.b (decide_eq_false fun e=>by subst e;simp at hb).symm) rfl⟩
 simp at hb
 refine lp [5] (fun q:Nat=>[.i .i64 q]) (fun q=>[]) (fun q=>q<=a.length/\ ∀i,i<q->a.getD i Enc.d=b.getD i Enc.d) (fun q=>a.length-q) 0 ⟨by omega,fun i h=>by omega⟩ ?_ fun q hq=>?_
 ·refine eP [] [] ?_ ?_<;>repeat' first|exact eN|apply zi
 conv=>whnf
 obtain⟨hq,hv⟩:=hq
 repeat' first|(refine iG ?_ ?_<;>intro hb hc<;>first|exact yE|conv=>whnf)|(refine gqs ?_;conv=>whnf)|(refine yt ?_;conv=>whnf)|exact yK|fail
 ·exact⟨_,.keep (congrArg AV.b (decide_eq_false fun e=>hc (by rw[e])).symm) rfl⟩
 ·refine .mk (q+1) ⟨by omega,all_step hv hc⟩ (by omega) ?_
  refine eP [] [] ?_ ?_<;>repeat' first|exact eN|apply zi
 ·exact⟨_,.keep (congrArg AV.b (decide_eq_true (ext_getD (by omega) fun i hi=>hv i (by omega))).symm) rfl⟩
def Callee (m:ModE) (n:Int):List Int×Int×Bool:=
 if 0<=n/\n<m.funcs.length then((m.funcs.getD n.toNat Enc.d).params,(m.funcs.getD n.toNat Enc.d).ret,true)
 else if n<0/\ -(m.exts.length:Int)<=n then((m.exts.getD (-1-n).toNat Enc.d).params,(m.exts.getD (-1-n).toNat Enc.d).ret,true) else([],0,false)
def pairs (f:FnE) (b k:Nat):List (InsE×Plc):=(List.range k).map fun i=>((f.blocks.getD b Enc.d).code.getD i Enc.d,⟨0,b,i⟩)
def codeTo (f:FnE) (b k:Nat):List (InsE×Plc):=((List.range b).flatMap fun b=>pairs f b (f.blocks.getD b Enc.d).code.length)++pairs f b k
def Code (f:FnE):List (InsE×Plc):=codeTo f f.blocks.length 0
theorem codeTo_snoc (f:FnE) (b k:Nat):codeTo f b (k+1)=codeTo f b k++[((f.blocks.getD b Enc.d).code.getD k Enc.d,⟨0,b,k⟩)]:=by
 unfold codeTo pairs;rw[List.range_succ,List.map_append,List.append_assoc];rfl
theorem codeTo_next (f:FnE) (b:Nat):codeTo f (b+1) 0=codeTo f b (f.blocks.getD b Enc.d).code.length:=by
 unfold codeTo;rw[List.range_succ,List.flatMap_append,List.flatMap_singleton];simp[pairs]
theorem sum_take {α:Type} (g:α->Nat) (d:α): ∀(l:List α) (b:Nat),b<l.length->((l.take b).map g).sum+g (l.getD b d)<=(l.map g).sum
 |x::l,0,_=>by simp
 |x::l,b+1,h=>by
  have:=sum_take g d l b (by simpa using h)
  simp only[List.take_succ_cons,List.map_cons,List.sum_cons,List.getD_cons_succ];omega
theorem sum_le {α:Type} {g h:α->Nat} (hgh: ∀x,g x<=h x): ∀l:List α,(l.map g).sum<=(l.map h).sum
 |[]=>Nat.le_refl _
 |x::l=>by have:=sum_le hgh l;have:=hgh x;simp only[List.map_cons,List.sum_cons];omega
theorem codeTo_len (f:FnE) (b:Nat): ∀k,(codeTo f b k).length=((List.range b).map fun b=>(f.blocks.getD b Enc.d).code.length).sum+k:=fun k=>by
 simp[codeTo,pairs,List.length_flatMap]
theorem range_take {α:Type} (g:α->Nat) (d:α) (l:List α): ∀b,b<=l.length->((List.range b).map fun b=>g (l.getD b d)).sum=((l.take b).map g).sum
 |0,_=>by simp
 |b+1,h=>by
  rw[List.range_succ,List.map_append,List.sum_append,range_take g d l b (by omega),List.take_add_one,List.map_append,List.sum_append,List.getElem?_eq_getElem (by omega)]
  simp[List.getElem?_eq_getElem (show b<l.length by omega)]
theorem codeTo_siz (f:FnE) (b k:Nat) (hb:b<f.blocks.length) (hk:k<=(f.blocks.getD b Enc.d).code.length):(codeTo f b k).length<=siz f:=by
 rw[codeTo_len,range_take (fun x:BlkE=>x.code.length) Enc.d f.blocks b (by omega)]
 have h1:=sum_take (fun x:BlkE=>x.code.length) Enc.d f.blocks b hb
 have h2:=sum_le (g:=fun x:BlkE=>x.code.length) (h:=siz) (fun x=>len_siz x.code) f.blocks
 have h3:siz f=siz f.name+siz f.params+(f.blocks.length+(f.blocks.map siz).sum):=rfl
 omega
theorem Clo.rows {d d' e off n e' n' e2 off2 n2 e3 n3:Nat} {g g':Nat->List AV}:Clo (.tup [.orow d e off n,.orow d' e2 off2 n2]) [(d,.row none e' n' g),(d',.row none e3 n3 g')]:=by
 refine⟨fun id hm=>?_,fun i ob h id hm=>?_⟩
 ·simp only[men,mens,Bool.or_false,Bool.or_eq_true] at hm
  rw[lk_cons];split
  ·rfl
  ·rename_i q;rw[lk_cons];split
   ·rfl
   ·rename_i q2;rcases hm with h|h<;>have:=Nat.eq_of_beq_eq_true h<;>subst this<;>contradiction
 ·rw[lk_cons] at h
  split at h
  ·cases h;cases hm
  ·rw[lk_cons] at h
   split at h
   ·cases h;cases hm
   ·simp[lk] at h
theorem Code_S (d d':Nat) (hd:d≠d') (f:FnE) (hs:siz f<4294967296):ASpec Tryz.prog 42 [eS f] (.tup [.orow d 7 0 ((Code f).map Prod.fst).length,.orow d' 3 0 ((Code f).map Prod.snd).length]) [(d,oL ((Code f).map Prod.fst)),(d',oL ((Code f).map Prod.snd))]:=by
 have h1:=blocks_le f
 have hnd:[d,d'].Nodup:=nd2 hd
 refine ASpec.enter TYok mixed Tryz.func42 rfl Tryz.call42 Tryz.ntmps42 rfl (rs:=[.tmp 2,.tmp 3]) rfl (hnd) (Clo.rows) (keep:=[0,1,2,3,4,5,6,7]) ?_;conv=>whnf
 refine lp [6,4,5] (fun b:Nat=>[.i .i64 b,.orow 4 7 0 ((codeTo f b 0).map Prod.fst).length,.orow 5 3 0 ((codeTo f b 0).map Prod.snd).length]) (fun b=>[(4,oL ((codeTo f b 0).map Prod.fst)),(5,oL ((codeTo f b 0).map Prod.snd)),(1,bx f)]) (fun q=>q<=f.blocks.length) (fun q=>f.blocks.length-q) 0 (by omega) ?_ fun b hb0=>?_
 ·refine eP [] [4,5] ?_ ?_<;>repeat' first|exact eN|apply zi
 conv=>whnf
 repeat' first|(refine iG ?_ ?_<;>intro hb hc<;>first|exact yE|conv=>whnf)|(refine gqs ?_;conv=>whnf)|(refine yt ?_;conv=>whnf)|exact yK|fail
 ·have h2:=code_le f b
  refine lp [7,4,5] (fun q:Nat=>[.i .i64 q,.orow 4 7 0 ((codeTo f b q).map Prod.fst).length,.orow 5 3 0 ((codeTo f b q).map Prod.snd).length]) (fun q=>[(4,oL ((codeTo f b q).map Prod.fst)),(5,oL ((codeTo f b q).map Prod.snd)),(1,bx f)]) (fun q=>q<=(f.blocks.getD b Enc.d).code.length) (fun q=>(f.blocks.getD b Enc.d).code.length-q) 0 (by omega) ?_ fun q hq=>?_
  ·refine eP [] [] ?_ ?_<;>repeat' first|exact eN|apply zi
  conv=>whnf
  have h3:=codeTo_siz f b q (by omega) hq
  have h4:((codeTo f b q).map Prod.fst).length=(codeTo f b q).length:=List.length_map _
  have h5:((codeTo f b q).map Prod.snd).length=(codeTo f b q).length:=List.length_map _
  repeat' first|(refine iG ?_ ?_<;>intro hb hc<;>first|exact yE|conv=>whnf)|(refine gqs ?_;conv=>whnf)|(refine yt ?_;conv=>whnf)|exact yK|fail
  ·have e1:(codeTo f b (q+1)).map Prod.fst=(codeTo f b q).map Prod.fst++[(f.blocks.getD b Enc.d).code.getD q Enc.d]:=by rw[codeTo_snoc,List.map_append];rfl
   have e2:(codeTo f b (q+1)).map Prod.snd=(codeTo f b q).map Prod.snd++[⟨0,b,q⟩]:=by rw[codeTo_snoc,List.map_append];rfl
   refine .mk (q+1) (by omega) (by omega) ?_
   refine eP [(4,37),(5,43)] [] ?_ ?_<;>repeat' first|exact eN|apply zi|exact snoc_len e1|exact snoc_get e1 rfl|rw[e1]|exact snoc_len e2|exact snoc_get e2 rfl|rw[e2]
  ·have e:codeTo f (b+1) 0=codeTo f b q:=by rw[codeTo_next];congr 1;omega
   refine .mk (b+1) (by omega) (by omega) ?_
   rw[e]
   refine eP [] [] ?_ ?_<;>repeat' first|exact eN|apply zi
 ·have e:codeTo f b 0=Code f:=by rw[Code];congr 1;omega
  rw[e]
  exact⟨_,.tup (.cons (.give rfl rfl rfl (fun _ _=>rfl) rfl) (.cons (.give rfl rfl rfl (fun _ _=>rfl) rfl) .nil (nd1 _)) hnd)⟩
theorem find_take {α:Type} {p:α->Bool} (d:α): ∀ {l:List α} {q:Nat},q<l.length->(∀i,i<q->p (l.getD i d)=false)->p (l.getD q d)=true->l.find? p=some (l.getD q d)
 |x::l,0,_,_,h=>by simp at h⊢;simp[h]
 |x::l,q+1,hq,hn,h=>by
  rw[List.find?_cons,show p x=false from hn 0 (by omega)]
  exact find_take d (by simpa using hq) (fun i hi=>hn (i+1) (by omega)) h
theorem find_no {α:Type} {p:α->Bool} (d:α) {l:List α} (hn: ∀i,i<l.length->p (l.getD i d)=false):l.find? p=none:=by
 rw[List.find?_eq_none];intro x hx
 obtain⟨i,h,rfl⟩:=List.getElem_of_mem hx
 have:=hn i h
 rw[List.getD_eq_getElem?_getD,List.getElem?_eq_getElem h] at this
 simpa using this
theorem getD_map {α β:Type} (g:α->β) (l:List α) (i:Nat) (d:α) (e:β) (h:g d=e):(l.map g).getD i e=g (l.getD i d):=by
 subst h;rw[List.getD_eq_getElem?_getD,List.getD_eq_getElem?_getD,List.getElem?_map];cases l[i]?<;>rfl
def dfP (reg:Int) (p:InsE×Plc):Bool:=decide (p.1.reg=reg)&& !decide (Result p.1=0)
def noP:InsE×Plc:=(Enc.d,Enc.d)
def Def (f:FnE) (reg:Int):Plc×Bool:=match(Code f).find? (dfP reg) with
 |some p=>(p.2,true)
 |none=>(⟨0,0,0⟩,false)
theorem Code_siz (f:FnE):(Code f).length<=siz f:=by
 unfold Code
 rcases Nat.eq_zero_or_pos f.blocks.length with h|h
 ·rw[h];exact Nat.zero_le _
 ·obtain⟨n,hn⟩: ∃n,f.blocks.length=n+1:=⟨f.blocks.length-1,by omega⟩
  rw[hn,codeTo_next];exact codeTo_siz f n _ (by omega) (Nat.le_refl _)
def cfO (f:FnE) (b:Nat):Os:=[(1,bx f),(2,bx (Enc.d:FnE)),(3,.box none none [.s f.name,.orow 19 1 0 f.params.length,.i .i64 f.ret,.orow 73 1 0 b]),(19,oL f.params),(73,.row none 1 b fun i=>Enc.enc (f.blocks.getD i Enc.d))]
theorem CopyFunc_S (f:FnE) (hs:siz f<4294967296):ASpec Tryz.prog 24 [eS f] (eS f) []:=by
 have h1:=blocks_le f
 have h2:=params_le f
 refine ASpec.enter TYok mixed Tryz.func24 rfl Tryz.call24 Tryz.ntmps24 rfl (rs:=[.cell 2 42]) rfl (nodupB_ok rfl) (Clo.one rfl) (keep:=[0,1,2,3,4,5,6,7,8,9]) ?_;conv=>whnf
 repeat' first|(refine iG ?_ ?_<;>intro hb hc<;>first|exact yE|conv=>whnf)|(refine gqs ?_;conv=>whnf)|(refine yt ?_;conv=>whnf)|exact yK|fail
 refine lp [4] (fun b:Nat=>[.i .i64 b]) (cfO f) (fun b=>b<=f.blocks.length) (fun b=>f.blocks.length-b) 0 (by omega) ?_ fun b hb0=>?_
 ·refine eP [] [73] ?_ ?_<;>repeat' first|exact eN|apply zi
 conv=>whnf
 have h3:=code_le f b
 repeat' first|(refine iG ?_ ?_<;>intro hb hc<;>first|exact yE|conv=>whnf)|(refine gqs ?_;conv=>whnf)|(refine yt ?_;conv=>whnf)|exact yK|fail
 ·refine lp [6,5] (fun k:Nat=>[.i .i64 k,.orow 5 7 0 k]) (fun k=>(5,.row none 7 k fun i=>Enc.enc ((f.blocks.getD b Enc.d).code.getD i Enc.d))::cfO f b) (fun k=>k<=(f.blocks.getD b Enc.d).code.length) (fun k=>(f.blocks.getD b Enc.d).code.length-k) 0 (by omega) ?_ fun k hk=>?_
  ·refine eP [] [5] ?_ ?_<;>repeat' first|exact eN|apply zi
  conv=>whnf
  have h4:=ins_le f b k
  have h5:=args_le ((f.blocks.getD b Enc.d).code.getD k Enc.d)
  have h6:=to_le ((f.blocks.getD b Enc.d).code.getD k Enc.d)
  repeat' first|(refine iG ?_ ?_<;>intro hb hc<;>first|exact yE|conv=>whnf)|(refine gqs ?_;conv=>whnf)|(refine yt ?_;conv=>whnf)|exact yK|fail
  ·refine .mk (k+1) (by omega) (by omega) ?_
   refine eP [(5,63)] [] ?_ ?_<;>repeat' first|exact eN|apply zi
   exact snoc_fun rfl
  ·obtain rfl:k=(f.blocks.getD b Enc.d).code.length:=by omega
   refine .mk (b+1) (by omega) (by omega) ?_
   refine eP [(73,69)] [] ?_ ?_<;>repeat' first|exact eN|apply zi
   exact snoc_fun rfl
 ·have e:b=f.blocks.length:=by omega
  subst e
  exact⟨_,.agg (.cons (.keep rfl rfl) (.cons (.freeze rfl (by omega) rfl (fun _ _=>rfl) rfl) (.cons (.keep rfl rfl) (.cons (.freeze rfl (by omega) rfl (fun _ _=>rfl) rfl) .nil (nodupB_ok rfl)) (nodupB_ok rfl)) (nodupB_ok rfl)) (nodupB_ok rfl))⟩
mutual
def wk:AV->AV->Prop
 | .i k z,.i k' z'=>k=k'/\z=z'
 | .b t,.b t'=>t=t'
 | .s x,.s x'=>x=x'
 | .v x,.v x'=>x=x'
 | .nil,.nil=>True
 | .nil,.row none _ n _=>n=0
 | .row nz e n g,.row none e' n' g'=>e=e'/\n=n'/\ ∀i,i<n'->wks (g i) (g' i)
 | .agg cs,.agg cs'=>wks cs cs'
 | .tup cs,.tup cs'=>wks cs cs'
 | .any,.any=>True
 |_,_=>False
def wks:List AV->List AV->Prop
 |[],[]=>True
 |x::xs,y::ys=>wk x y/\wks xs ys
 |_,_=>False
end
mutual
theorem wk_ok {S:Nat->Prop} {β:Nat->Wt} {w:World}: ∀(x y:AV) (u:Value),wk x y->rel S β w x u->rel S β w y u
 | .i k z,y,u,h,hr=>by
  cases y<;>simp only[wk] at h<;>try exact h.elim
  obtain⟨rfl,rfl⟩:=h;exact hr
 | .b t,y,u,h,hr=>by
  cases y<;>simp only[wk] at h<;>try exact h.elim
  subst h;exact hr
 | .s t,y,u,h,hr=>by
  cases y<;>simp only[wk] at h<;>try exact h.elim
  subst h;exact hr
 | .v t,y,u,h,hr=>by
  cases y<;>simp only[wk] at h<;>try exact h.elim
  subst h;exact hr
 | .nil,y,u,h,hr=>by
  unfold rel at hr
  subst hr
  cases y with
  |nil=>rfl
  |row nz e n g=>
   cases nz with
   |none=>
    simp only[wk] at h
    subst h
    exact⟨none,0,fun _=>[],rfl,(fun z hz=>by cases hz),⟨Nat.zero_le _,Nat.zero_le _⟩,fun i hi=>by omega⟩
   |some b=>simp only[wk] at h
  |_=>simp only[wk] at h
 | .row nz e n g,y,u,h,hr=>by
  cases y with
  |row nz' e' n' g'=>
   cases nz' with
   |none=>
    simp only[wk] at h
    obtain⟨rfl,rfl,hg⟩:=h
    unfold rel at hr⊢
    obtain⟨a,cap,us,h1,h2,h3,h4⟩:=hr
    exact⟨a,cap,us,h1,(fun z hz=>by cases hz),h3,fun i hi=>⟨(h4 i hi).1,(h4 i hi).2.1,wks_ok (g i) (g' i) (us i) (hg i hi) (h4 i hi).2.2⟩⟩
   |some b=>simp only[wk] at h
  |_=>simp only[wk] at h
 | .agg cs,y,u,h,hr=>by
  cases y with
  |agg cs'=>simp only[wk] at h;obtain⟨us,h1,h2⟩:=hr;exact⟨us,h1,wks_ok cs cs' us h h2⟩
  |_=>simp only[wk] at h
 | .tup cs,y,u,h,hr=>by
  cases y with
  |tup cs'=>simp only[wk] at h;obtain⟨us,h1,h2⟩:=hr;exact⟨us,h1,wks_ok cs cs' us h h2⟩
  |_=>simp only[wk] at h
 | .any,y,u,h,hr=>by
  cases y<;>simp only[wk] at h<;>try exact h.elim
  exact hr
 | .cp _,y,u,h,hr=>by cases y<;>simp only[wk] at h
 | .op _ _,y,u,h,hr=>by cases y<;>simp only[wk] at h
 | .orow _ _ _ _,y,u,h,hr=>by cases y<;>simp only[wk] at h
 | .rp _ _ _ _,y,u,h,hr=>by cases y<;>simp only[wk] at h
 | .pth _ _ _ _ _,y,u,h,hr=>by cases y<;>simp only[wk] at h
 | .pp _ _ _ _ _,y,u,h,hr=>by cases y<;>simp only[wk] at h
 | .clo _ _,y,u,h,hr=>by cases y<;>simp only[wk] at h
 | .omap _,y,u,h,hr=>by cases y<;>simp only[wk] at h
 | .ifc _ _,y,u,h,hr=>by cases y<;>simp only[wk] at h
theorem wks_ok {S:Nat->Prop} {β:Nat->Wt} {w:World}: ∀(x y:List AV) (u:List Value),wks x y->rels S β w x u->rels S β w y u
 |[],y,u,h,hr=>by
  cases y with
  |nil=>exact hr
  |cons=>simp only[wks] at h
 |x::xs,y,u,h,hr=>by
  cases y with
  |nil=>simp only[wks] at h
  |cons y ys=>
   simp only[wks] at h
   obtain⟨u,us,h1,h2,h3⟩:=hr
   exact⟨u,us,h1,wk_ok x y u h.1 h2,wks_ok xs ys us h.2 h3⟩
end
theorem ASpec.weak {P:Program} {f:FuncId} {vs args:List AV} {r:AV} {no:Os} (h:ASpec P f args r no) (hw:wks vs args):ASpec P f vs r no:=
 ⟨h.1,h.2.1,fun S w us hr hv=>h.2.2 S w us (wks_ok _ _ _ hw hr) hv⟩
theorem ASpec.gives {P:Program} {f:FuncId} {args:List AV} {v r:AV} {os o' no:Os} (h:ASpec P f args v os) (hg:Gives os v o' r no) (hclo:Clo r no) (hk:(no.map (·.1)).Nodup):ASpec P f args r no:=by
 refine⟨h.1,hclo,fun S w us hr hv=>(h.2.2 S w us hr hv).mono ?_⟩
 rintro e w' ⟨v0,β,rfl,hb,h1,h2,h3,h4,h5⟩
 obtain⟨β1,g1,g2,g3⟩:=hg.2 _ β w' v0 ⟨h1,h3,h4,fun k hk=>(h2 k hk).2⟩ h5
 obtain⟨g4,g5⟩:=g3 (fun k=>(S k\/w.heap.size<=k)/\k∉feet no β1) β1 (fun _ _=>rfl) (fun k _ hk=>⟨hk.1,fun hq=>hk.2 (g2 k hq).1⟩) fun k q1 q2 q3=>⟨.inr (h2 k q1).1,q3⟩
 exact⟨v0,β1,rfl,hb,g5,fun k hk=>h2 k (g2 k hk).1,g1,hk,g4⟩
theorem Clo.row0 {e n:Nat} {g:Nat->List AV} (h: ∀id,men id (.row none e n g)=false):Clo (.row none e n g) []:=⟨fun id hm=>(by rw[h] at hm;cases hm),fun i ob hl=>(by simp[lk] at hl)⟩
theorem Clo.tree {d e off n e' n':Nat} {g:Nat->List AV}:Clo (.orow d e off n) [(d,.tree e' n' g)]:=by
 refine⟨fun id hm=>?_,fun i ob h id hm=>?_⟩
 ·simp only[men] at hm;have:=Nat.eq_of_beq_eq_true hm;subst this;rw[lk_cons,if_pos rfl];rfl
 ·rw[lk_cons] at h
  split at h
  ·cases h;cases hm
  ·simp[lk] at h
mutual
theorem teq_refl: ∀x:AV,teq x x
 | .row none e n g=>by unfold teq;exact⟨rfl,rfl,fun i _=>teqs_refl (g i)⟩
 | .row (some b) e n g=>by unfold teq;rfl
 | .nil=>by unfold teq;rfl
 | .i _ _=>by unfold teq;rfl
 | .b _=>by unfold teq;rfl
 | .s _=>by unfold teq;rfl
 | .v _=>by unfold teq;rfl
 | .agg _=>by unfold teq;rfl
 | .tup _=>by unfold teq;rfl
 | .cp _=>by unfold teq;rfl
 | .op _ _=>by unfold teq;rfl
 | .orow _ _ _ _=>by unfold teq;rfl
 | .rp _ _ _ _=>by unfold teq;rfl
 | .clo _ _=>by unfold teq;rfl
 | .omap _=>by unfold teq;rfl
 | .ifc _ _=>by unfold teq;rfl
 | .any=>by unfold teq;rfl
 | .pth _ _ _ _ _=>by unfold teq;rfl
 | .pp _ _ _ _ _=>by unfold teq;rfl
theorem teqs_refl: ∀x:List AV,teqs x x
 |[]=>by unfold teqs;rfl
 |x::xs=>by unfold teqs;exact⟨teq_refl x,teqs_refl xs⟩
end
theorem teqs_of {x y:List AV} (h:x=y):teqs x y:=h▸teqs_refl x
theorem leafs_cat {n:Nat} {f g:Nat->List AV} (h1: ∀i,leafs (f i)=true) (h2: ∀i,leafs (g i)=true) (i:Nat):leafs (catF n f g i)=true:=by
 unfold catF
 split
 ·exact h1 _
 ·exact h2 _
theorem leafs_lit1 {l:List AV} (h:leafs l=true) (i:Nat):leafs (litF [l] i)=true:=by
 exact h
theorem tree_snoc {α:Type} [Enc α] {g:Nat->List AV} {g':Nat->List AV} {k t:Nat} {l l':List α} {x:α} {cs:List AV} (hk:t=k->l'=l++[x]) (hc:cs=Enc.enc x) (hg:t=k-> ∃y,g k=[y]) (h1:t=k->g' t=[eL l']) (h2:t≠k->g' t=g t):
  teqs (setG (updG [] g k 0 [.any]) k 0 [.row none (Enc.sz α) (l.length+1) (catF l.length (offF 0 fun i=>Enc.enc (l.getD i Enc.d)) (litF [cs]))] t) (g' t):=by
 by_cases e:t=k
 ·subst e
  obtain⟨y,hy⟩:=hg rfl
  rw[h1 rfl]
  have e1:setG (updG [] g t 0 [.any]) t 0 [.row none (Enc.sz α) (l.length+1) (catF l.length (offF 0 fun i=>Enc.enc (l.getD i Enc.d)) (litF [cs]))] t=[.row none (Enc.sz α) (l.length+1) (catF l.length (offF 0 fun i=>Enc.enc (l.getD i Enc.d)) (litF [cs]))]:=by
   simp only[setG,updG,if_true,hy];rfl
  rw[e1]
  have hl:=hk rfl
  unfold teqs
  refine⟨?_,by unfold teqs;rfl⟩
  unfold eL teq
  exact⟨rfl,snoc_len hl,fun i hi=>teqs_of (snoc_get hl hc i hi)⟩
 ·rw[h2 e]
  have e1:setG (updG [] g k 0 [.any]) k 0 [.row none (Enc.sz α) (l.length+1) (catF l.length (offF 0 fun i=>Enc.enc (l.getD i Enc.d)) (litF [cs]))] t=g t:=by
   simp only[setG,updG,if_neg e]
  rw[e1]
  exact teqs_refl _
theorem Gives.wk {o:Os} {v r:AV} (h:wk v r) (hn:noOwn v=true):Gives o v o r []:=by
 refine⟨List.Sublist.refl _,fun S β w u ho hr=>⟨W0,List.nodup_nil,(fun k hk=>by cases hk),fun S' β' _ hS _=>⟨wk_ok _ _ _ h (rel_W0 (rel_mono ⟨Nat.le_refl _,fun k hk hs=>⟨hS k hk hs,rfl⟩⟩ _ _ (noOwn_rel hn hr))),fun id ob hl=>by simp[lk] at hl⟩⟩⟩
theorem oL_frz {α:Type} [Enc α] {f:FuncId} {args:List AV} {d:Nat} {l:List α} (hid: ∀id,men id (eL l)=false) (h:ASpec Tryz.prog f args (.orow d (Enc.sz α) 0 l.length) [(d,oL l)]):ASpec Tryz.prog f args (eL l) []:=
 h.gives (.freeze (N:=l.length) (q:=none) (e':=Enc.sz α) (g:=fun i=>Enc.enc (l.getD i Enc.d)) (by rw[lk_cons,if_pos rfl];rfl) (by omega) rfl (fun i _=>rfl) rfl) (Clo.row0 hid) (by simp)
theorem ASpec.nz {P:Program} {f:FuncId} {e n:Nat} {g:Nat->List AV} {r:AV} {no:Os} (h0:n=0->ASpec P f [.row (some false) e n g] r no) (h1:ASpec P f [.row (some true) e n g] r no):ASpec P f [.row none e n g] r no:=by
 refine⟨h1.1,h1.2.1,fun S w us hr hv=>?_⟩
 obtain⟨u,us',rfl,h2,h3⟩:=hr
 have h4:=h2
 unfold rel at h4
 obtain⟨a,cap,vs,rfl,_,h5,h6⟩:=h4
 cases a with
 |none=>
  have hn:n=0:=by
   rcases Nat.eq_zero_or_pos n with h|h
   ·exact h
   ·obtain⟨⟨ad,e,_⟩,_⟩:=h6 0 h;cases e
  exact(h0 hn).2.2 S w _ ⟨_,us',rfl,⟨none,cap,vs,rfl,(fun z hz=>by cases hz;rfl),h5,h6⟩,h3⟩ hv
 |some ad=>exact h1.2.2 S w _ ⟨_,us',rfl,⟨some ad,cap,vs,rfl,(fun z hz=>by cases hz;rfl),h5,h6⟩,h3⟩ hv
theorem CloneI_S (d:Nat) (l:List Int) (hl:l.length<4294967296):ASpec Tryz.prog 122 [eL l] (.orow d 1 0 l.length) [(d,oL l)]:=by
 refine .nz (fun hn=>?_) ?_
 ·refine ASpec.enter TYok mixed Tryz.func122 rfl Tryz.call122 Tryz.ntmps122 rfl (rs:=[.tmp 2]) rfl (nd1 _) (Clo.row) (keep:=[0,2]) ?_;conv=>whnf
  repeat' first|(refine iG ?_ ?_<;>intro hb hc<;>first|exact yE|conv=>whnf)|(refine gqs ?_;conv=>whnf)|(refine yt ?_;conv=>whnf)|exact yK|fail
  all_goals first|exact absurd hb (by decide)|exact⟨_,Gives.nil hn⟩
 ·refine ASpec.enter TYok mixed Tryz.func122 rfl Tryz.call122 Tryz.ntmps122 rfl (rs:=[.tmp 2]) rfl (nd1 _) (Clo.row) (keep:=[0,2]) ?_;conv=>whnf
  refine And.intro (fun hb=>absurd hb (by decide)) fun _=>?_
  conv=>whnf
  refine LitW.own ?_
  conv=>whnf
  repeat' first|(refine iG ?_ ?_<;>intro hb hc<;>first|exact yE|conv=>whnf)|(refine gqs ?_;conv=>whnf)|(refine yt ?_;conv=>whnf)|exact yK|fail
  exact⟨_,.give rfl rfl (by omega) (fun i _=>by simp[catF]) rfl⟩
abbrev oT {α:Type} [Enc α] (l:List α):Obj:= .tree (Enc.sz α) l.length fun i=>Enc.enc (l.getD i Enc.d)
theorem Clo.fn {a:ByteArray} {r:Int} {c d n m N:Nat} {e e':Nat} {g g2:Nat->List AV} {q:Option Nat} (h:c≠d):Clo (.agg [.s a,.orow c 1 0 n,.i .i64 r,.orow d 1 0 m]) [(c,.row q e N g),(d,.tree e' m g2)]:=by
 refine⟨fun id hm=>?_,fun i ob h id hm=>?_⟩
 ·simp only[men,mens,Bool.or_eq_true,Bool.or_false,Bool.false_or] at hm
  rcases hm with hm|hm
  ·have:=Nat.eq_of_beq_eq_true hm;subst this;rw[lk_cons,if_pos rfl];rfl
  ·have:=Nat.eq_of_beq_eq_true hm;subst this;rw[lk_cons,if_neg h,lk_cons,if_pos rfl];rfl
 ·rw[lk_cons] at h
  split at h
  ·cases h;cases hm
  ·rw[lk_cons] at h
   split at h
   ·cases h;cases hm
   ·simp[lk] at h
def rdB (R:RdE) (l:List FnE):Obj:= .box none (some 97) (rdC R (.orow 1003 4 0 l.length))
def rdO (R:RdE) (l:List FnE):Os:=[(1000,rdB R l),(1003,oT l)]
theorem menO {d:Nat} {n:Nat} (h:men d (.orow 1003 4 0 n)=true):d∈[1003]:=by
 simp only[men] at h
 rw[<-Nat.eq_of_beq_eq_true h];simp
theorem lift {f:FuncId} {args:List AV} {R R':RdE} {r:AV} (l:List FnE) (h: ∀x,ASpecM Tryz.prog f args (rdX R (.v x)) r (rdX R' (.v x))):ASpecF (.l [1003] []) Tryz.prog f args (rdO R l) r (rdO R' l):=by
 have:=ASpecF.frame (F:=[(1003,oT l)]) (c:= .orow 1003 4 0 l.length) (os:=[]) (no:=[]) (fu:=[]) (tp:=[]) (a:=[eL R.l,.i .i64 R.i,.nil,.nil]) (a':=[eL R'.l,.i .i64 R'.i,.nil,.nil]) rfl rfl (fun d hd=>menO hd) (fun x=>(h x).lst)
 exact this
theorem failO (R:RdE) (l:List FnE) (c:Int) (t:TokE):ASpecF (.l [1003] []) Tryz.prog 90 [.op 1000 0,.i .i64 c,eS t] (rdO R l) (.tup []) (rdO (failF R c t) l):=lift l fun x=>fail_S R x c t
theorem isO (R:RdE) (l:List FnE) (k:Int) (s:ByteArray) (h:RdOk R):ASpecF (.l [1003] []) Tryz.prog 117 [.op 1000 0,.i .i64 k,.s s] (rdO R l) (.b (isB R k s)) (rdO (isF R k s) l):=lift l fun x=>is_S R x k s h
theorem mustO (R:RdE) (l:List FnE) (k:Int) (s:ByteArray) (h:RdOk R):ASpecF (.l [1003] []) Tryz.prog 116 [.op 1000 0,.i .i64 k,.s s] (rdO R l) (.tup []) (rdO (mustF R k s) l):=lift l fun x=>must_S R x k s h
theorem closeO (R:RdE) (l:List FnE) (h:RdOk R):ASpecF (.l [1003] []) Tryz.prog 48 [.op 1000 0] (rdO R l) (.tup []) (rdO (closeF R) l):=lift l fun x=>close_S R x h
def in6 (X:InsE) (c e:AV):Obj:= .box none (some 53) [.i .i64 X.op,.i .i64 X.reg,.i .i64 X.t,.i .i64 X.n,.i .i64 X.f,c,e]
def inX (X:InsE):Os:=[(6,in6 X (.orow 1011 3 0 X.args.length) (.orow 1012 1 0 0)),(1011,oL X.args),(1012,oL ([]:List Int))]
theorem formN (R:RdE) (x:Value) (X:InsE) (a:LatE) (h:RdOk R) (hg:formG R X=true) (hX:X.args=[]):
  ASpecM Tryz.prog 139 [.op 1000 0,.op 6 0,eS a] [(1000,.box none (some 97) (rdC R (.v x))),(6,in6 X .nil .nil)] (.tup []) ((1000,.box none (some 97) (rdC (formF R X).1 (.v x)))::inX (formF R X).2):=by
 obtain⟨o0,o1,o2,o3,o4,o5,o6⟩:=X
 simp only at hX
 subst hX
 have h1:=ASpecF.ren (swp 1010 6) (swp 1010 6) (swp_swp 1010 6) (form_S R x ⟨o0,o1,o2,o3,o4,[],o6⟩ a h hg (by show 0<4294967;decide))
 have h2:=ASpecF.nilIn (i0:=1000) (id:=6) (d:=1011) (e:=3) (a:=[.i .i64 o0,.i .i64 o1,.i .i64 o2,.i .i64 o3,.i .i64 o4]) (b:=[.nil]) (g:=fun i=>Enc.enc (([]:List Opd).getD i Enc.d)) rfl h1
 generalize formF R ⟨o0,o1,o2,o3,o4,[],o6⟩=FX at*
 exact ASpecF.nilOut (i0:=1000) (i2:=1011) (id:=6) (d:=1012) (e:=1) (a:=[.i .i64 FX.2.op,.i .i64 FX.2.reg,.i .i64 FX.2.t,.i .i64 FX.2.n,.i .i64 FX.2.f,.orow 1011 3 0 FX.2.args.length]) (b:=[]) (g:=fun i=>Enc.enc (([]:List Int).getD i Enc.d)) rfl h2
theorem formO (R:RdE) (l:List FnE) (X:InsE) (a:LatE) (h:RdOk R) (hg:formG R X=true) (hX:X.args=[]):
  ASpecF (.l [1003] []) Tryz.prog 139 [.op 1000 0,.op 6 0,eS a] [(1000,rdB R l),(6,in6 X .nil .nil),(1003,oT l)] (.tup []) ((1000,rdB (formF R X).1 l)::(inX (formF R X).2++[(1003,oT l)])):=by
 have:=ASpecF.frame (F:=[(1003,oT l)]) (c:= .orow 1003 4 0 l.length) (os:=[(6,in6 X .nil .nil)]) (no:=inX (formF R X).2) (fu:=[]) (tp:=[]) (a:=[eL R.l,.i .i64 R.i,.nil,.nil]) (a':=[eL (formF R X).1.l,.i .i64 (formF R X).1.i,.nil,.nil]) rfl rfl (fun d hd=>menO hd) (fun x=>(formN R x X a h hg hX).lst)
 exact this
theorem rdOClo {R:RdE} {l:List FnE} {v:AV} (hv:noOwn v=true):Clo v (rdO R l):=by
 refine⟨fun id hm=>(Bool.noConfusion ((noOwn_men hv).symm.trans hm)),fun i ob h id hm=>?_⟩
 unfold rdO at h⊢
 rw[lk_cons] at h
 split at h
 ·cases h
  have:id=1003:=by
   simp only[rdB,rdC,omen,mens,men,Bool.or_false,Bool.false_or,eL] at hm
   exact(Nat.eq_of_beq_eq_true hm).symm
  subst this;rfl
 ·rw[lk_cons] at h
  split at h
  ·cases h;cases hm
  ·simp[lk] at h
def setBs (l:List FnE) (i:Nat) (bs:List BlkE):List FnE:=l.set i { (l.getD i Enc.d) with blocks:=bs}
def labelR (R:RdE) (l:List FnE) (i:Nat) (t:TokE) (n:Int):RdE:=
 if((l.getD i Enc.d).blocks.length:Int)=64 then failF R 6 t else if¬n=(l.getD i Enc.d).blocks.length then failF R 8 t else R
def labelF (R:RdE) (l:List FnE) (i:Nat) (t:TokE) (n:Int):RdE:=mustF (goF (labelR R l i t n)) 5 (⟨#[58]⟩:ByteArray)
def labelL (l:List FnE) (i:Nat):List FnE:=setBs l i ((l.getD i Enc.d).blocks++[⟨[]⟩])
theorem fail_i (R:RdE) (c:Int) (t:TokE):(failF R c t).i=R.i:=by unfold failF;split<;>rfl
theorem fail_nxt (R:RdE) (c:Int) (t:TokE):nxt (failF R c t)=nxt R:=by unfold failF;split<;>rfl
theorem set_tree {l:List FnE} {i m:Nat} {bs:List BlkE} {g:Nat->List AV} (hi:i<l.length) (hm:m=bs.length) (hg: ∀j,j<bs.length->teqs (g j) (Enc.enc (bs.getD j Enc.d))) (k:Nat) (hk:k<(setBs l i bs).length):
  teqs (setG (updG [] (fun i=>Enc.enc (l.getD i Enc.d)) i (0+1+1+1) [.any]) i (0+3) [.row none 1 m g] k) (Enc.enc ((setBs l i bs).getD k Enc.d)):=by
 unfold setBs at hk⊢
 rw[List.length_set] at hk
 by_cases e:k=i
 ·subst e
  have e1:(l.set k { (l.getD k Enc.d) with blocks:=bs}).getD k Enc.d= { (l.getD k Enc.d) with blocks:=bs}:=by rw[List.getD_eq_getElem?_getD,List.getElem?_set_self hk];rfl
  rw[e1]
  unfold setG
  rw[if_pos rfl]
  show teqs (splice (setG (fun i=>Enc.enc (l.getD i Enc.d)) k 3 [.any] k) 3 [.row none 1 m g]) _
  unfold setG
  rw[if_pos rfl]
  show teqs [.s _,eL _,.i .i64 _,.row none 1 m g] [.s _,eL _,.i .i64 _,eL bs]
  refine⟨teq_refl _,teq_refl _,teq_refl _,?_,rfl⟩
  unfold eL teq
  exact⟨rfl,hm,hg⟩
 ·have e1:(l.set i { (l.getD i Enc.d) with blocks:=bs}).getD k Enc.d=l.getD k Enc.d:=by rw[List.getD_eq_getElem?_getD,List.getElem?_set_ne (Ne.symm e),List.getD_eq_getElem?_getD]
  rw[e1]
  unfold setG
  rw[if_neg e]
  show teqs (setG (fun i=>Enc.enc (l.getD i Enc.d)) i 3 [.any] k) _
  unfold setG
  rw[if_neg e]
  exact teqs_refl _
theorem setBs_len (l:List FnE) (i:Nat) (bs:List BlkE):(setBs l i bs).length=l.length:=List.length_set
theorem lab_blk {bs:List BlkE} (j:Nat) (hj:j<(bs++[(⟨[]⟩:BlkE)]).length):teqs (catG bs.length (fun i=>Enc.enc (bs.getD i Enc.d)) (litF [[constC (Value.slice none 0 0)]]) j) (Enc.enc ((bs++[(⟨[]⟩:BlkE)]).getD j Enc.d)):=by
 rw[List.length_append,List.length_singleton] at hj
 unfold catG
 split
 ·rename_i h
  show teqs (Enc.enc (bs.getD j Enc.d)) _
  rw[List.getD_eq_getElem?_getD,List.getD_eq_getElem?_getD,List.getElem?_append_left h]
  exact teqs_refl _
 ·obtain rfl:j=bs.length:=by omega
  rw[List.getD_eq_getElem?_getD,List.getElem?_append_right (Nat.le_refl _),Nat.sub_self]
  exact⟨rfl,rfl⟩
theorem label_T (R:RdE) (l:List FnE) (i:Nat) (t:TokE) (n:Int) (h:RdOk R) (hk:(nxt R).kind≠6) (hi:i<l.length) (hs: ∀k,siz (l.getD k Enc.d)<4294967296) (hl:l.length<4294967296):
  ASpecF (.l [] [1003]) Tryz.prog 120 [.op 1000 0,.rp 1003 4 i 0,eS t,.i .i64 n] (rdO R l) (.tup []) (rdO (labelF R l i t n) (labelL l i)):=by
 have h1:=h.l
 have h2:=h.i
 have h3:=blocks_le (l.getD i Enc.d)
 have h4:=hs i
 have f6:=fail_i R 6 t
 have f8:=fail_i R 8 t
 have hf: ∀c,RdOk (goF (failF R c t)):=fun c=>(h.fail c t).go (by rw[fail_nxt];exact hk)
 refine ASpecF.enterT TYok mixed Tryz.func120 rfl Tryz.call120 Tryz.ntmps120 rfl (rs:=[]) rfl (rdOClo rfl) rfl (tops:=[1003]) (keep:=[0,1,2,3,6]) 4194352 rfl rfl fun pin=>?_;conv=>whnf
 repeat' first|(refine iG ?_ ?_<;>intro hb hc<;>first|exact yE|conv=>whnf)|(refine gql ?_;conv=>whnf)|(refine gqm (x:=failO R l 6 t) (k:= ?_);conv=>whnf)|(refine gqm (x:=failO R l 8 t) (k:= ?_);conv=>whnf)|(refine yt ?_;conv=>whnf)|exact yK|fail
 ·have e1:labelF R l i t n=mustF (goF (failF R 6 t)) 5 (⟨#[58]⟩:ByteArray):=by rw[labelF,labelR,if_pos hc]
  repeat' first|(refine iG ?_ ?_<;>intro hb hc<;>first|exact yE|conv=>whnf)|(refine gql ?_;conv=>whnf)|(refine gqm (x:=mustO (goF (failF R 6 t)) l 5 (⟨#[58]⟩:ByteArray) (hf 6)) (k:= ?_);conv=>whnf)|(refine yt ?_;conv=>whnf)|exact yK|fail
  rw[e1]
  refine⟨[],[],trivial,?_,rfl,⟨⟨1,_,_,_,rfl,rfl⟩,rfl,trivial⟩⟩
  repeat' first|exact eN|apply zi
  all_goals first|exact(setBs_len _ _ _).symm|exact fun k hk=>set_tree hi (by rw[List.length_append];rfl) lab_blk k hk
 ·have e1:labelF R l i t n=mustF (goF (failF R 8 t)) 5 (⟨#[58]⟩:ByteArray):=by rw[labelF,labelR,if_neg (by assumption),if_pos hc]
  repeat' first|(refine iG ?_ ?_<;>intro hb hc<;>first|exact yE|conv=>whnf)|(refine gql ?_;conv=>whnf)|(refine gqm (x:=mustO (goF (failF R 8 t)) l 5 (⟨#[58]⟩:ByteArray) (hf 8)) (k:= ?_);conv=>whnf)|(refine yt ?_;conv=>whnf)|exact yK|fail
  rw[e1]
  refine⟨[],[],trivial,?_,rfl,⟨⟨1,_,_,_,rfl,rfl⟩,rfl,trivial⟩⟩
  repeat' first|exact eN|apply zi
  all_goals first|exact(setBs_len _ _ _).symm|exact fun k hk=>set_tree hi (by rw[List.length_append];rfl) lab_blk k hk
 ·have e1:labelF R l i t n=mustF (goF R) 5 (⟨#[58]⟩:ByteArray):=by rw[labelF,labelR,if_neg (by assumption),if_neg (fun h=>h hc)]
  repeat' first|(refine iG ?_ ?_<;>intro hb hc<;>first|exact yE|conv=>whnf)|(refine gql ?_;conv=>whnf)|(refine gqm (x:=mustO (goF R) l 5 (⟨#[58]⟩:ByteArray) (h.go hk)) (k:= ?_);conv=>whnf)|(refine yt ?_;conv=>whnf)|exact yK|fail
  rw[e1]
  refine⟨[],[],trivial,?_,rfl,⟨⟨1,_,_,_,rfl,rfl⟩,rfl,trivial⟩⟩
  repeat' first|exact eN|apply zi
  all_goals first|exact(setBs_len _ _ _).symm|exact fun k hk=>set_tree hi (by rw[List.length_append];rfl) lab_blk k hk
def inR (R:RdE) (t:TokE):RdE:=if t.kind=3 then goF (goF { R with size:=R.size+1}) else { R with size:=R.size+1}
def in0 (R:RdE) (t:TokE):InsE:=⟨opF (nxt (inR R t)).text,if t.kind=3 then atoiV t.text else-1,0,0,0,[],[]⟩
def makesB (o:Int):Bool:=(decide (1<=o)&&decide (o<=29))&& !decide (o=28)
def instrF (R:RdE) (t:TokE):RdE×InsE:=formF (goF (inR R t)) (in0 R t)
def instrG (R:RdE) (t:TokE):Bool:=
 (decide (0<=R.size)&&(decide (R.size<400)&&decide (R.flt.code=0)))&&((!decide (t.kind=3)||(decide (R.i<R.l.length)&&(regG t&&isB (goF { R with size:=R.size+1}) 5 (⟨#[61]⟩:ByteArray))))&&
  ((decide ((nxt (inR R t)).kind=1)&&(!decide ((opF (nxt (inR R t)).text:Int)=0)&&(decide ((opF (nxt (inR R t)).text:Int)=30)||(makesB (opF (nxt (inR R t)).text)==decide (t.kind=3)))))&&formG (goF (inR R t)) (in0 R t)))
def lastI (bs:List BlkE):Nat:=bs.length-1
def addIn (l:List FnE) (i:Nat) (X:InsE):List FnE:=setBs l i ((l.getD i Enc.d).blocks.set (lastI (l.getD i Enc.d).blocks) ⟨((l.getD i Enc.d).blocks.getD (lastI (l.getD i Enc.d).blocks) Enc.d).code++[X]⟩)
theorem nthK_rw {n:Nat} {l l':List AV} {K:AV->Prop} (e:l=l') (h:nthK n l' K):nthK n l K:=e▸h
theorem upF (l:List FnE) (i j:Nat) (x:List AV):updG ([]++[(i,0+1+1+1)]) (fun i=>Enc.enc (l.getD i Enc.d)) j 0 x i=[.s (l.getD i Enc.d).name,eL (l.getD i Enc.d).params,.i .i64 (l.getD i Enc.d).ret,.row none 1 (l.getD i Enc.d).blocks.length (setG (fun t=>Enc.enc ((l.getD i Enc.d).blocks.getD t Enc.d)) j 0 x)]:=by
 show setC _ i 3 _ i=_
 unfold setC
 rw[if_pos rfl]
 rfl
theorem valueF_to (R:RdE) (X:InsE):(valueF R X).2.to=X.to:=by
 unfold valueF
 split
 ·rfl
 ·split<;>rfl
theorem opsN_to (R:RdE) (X:InsE): ∀q,(opsN R X q).2.to=X.to
 |0=>rfl
 |q+1=>by rw[opsN_succ,valueF_to];exact opsN_to R X q
theorem formF_to (R:RdE) (X:InsE):(formF R X).2.to=X.to:=by
 unfold formF
 split
 ·exact opsN_to _ _ _
 ·unfold leaveF
  split
  ·rfl
  ·exact opsN_to _ _ _
theorem in_cells {X:InsE} (h:X.to=[]):teqs (splice (splice (List.map holeC [.i .i64 X.op,.i .i64 X.reg,.i .i64 X.t,.i .i64 X.n,.i .i64 X.f,.orow 1011 3 0 X.args.length,.orow 1012 1 0 0]) (0+1+1+1+1+1) [.row none 3 X.args.length fun i=>Enc.enc (X.args.getD i Enc.d)]) (0+1+1+1+1+1+1) [.row none 1 0 fun i=>Enc.enc (([]:List Int).getD i Enc.d)]) (Enc.enc X):=by
 obtain⟨o0,o1,o2,o3,o4,o5,o6⟩:=X
 simp only at h
 subst h
 exact teqs_refl _
theorem in_code {c:List InsE} {X:InsE} {x:List AV} (h:teqs x (Enc.enc X)) (j:Nat) (hj:j<(c++[X]).length):teqs (catG c.length (fun i=>Enc.enc (c.getD i Enc.d)) (fun _=>x) j) (Enc.enc ((c++[X]).getD j Enc.d)):=by
 rw[List.length_append,List.length_singleton] at hj
 unfold catG
 split
 ·rename_i h
  show teqs (Enc.enc (c.getD j Enc.d)) _
  rw[List.getD_eq_getElem?_getD,List.getD_eq_getElem?_getD,List.getElem?_append_left h]
  exact teqs_refl _
 ·obtain rfl:j=c.length:=by omega
  rw[List.getD_eq_getElem?_getD,List.getElem?_append_right (Nat.le_refl _),Nat.sub_self]
  exact h
theorem in_tree {l:List FnE} {i j m:Nat} {c:List InsE} {g:Nat->List AV} (hi:i<l.length) (hj:j<(l.getD i Enc.d).blocks.length) (hm:m=c.length) (hg: ∀t,t<c.length->teqs (g t) (Enc.enc (c.getD t Enc.d))) (k:Nat) (hk:k<(setBs l i ((l.getD i Enc.d).blocks.set j ⟨c⟩)).length):
  teqs (updG ([]++[(i,0+1+1+1)]) (updG ([]++[(i,0+1+1+1)]) (fun i=>Enc.enc (l.getD i Enc.d)) j 0 [.any]) j (0+0) [.row none 7 m g] k) (Enc.enc ((setBs l i ((l.getD i Enc.d).blocks.set j ⟨c⟩)).getD k Enc.d)):=by
 unfold setBs at hk⊢
 rw[List.length_set] at hk
 by_cases e:k=i
 ·subst e
  have e1:(l.set k { (l.getD k Enc.d) with blocks:=(l.getD k Enc.d).blocks.set j ⟨c⟩}).getD k Enc.d= { (l.getD k Enc.d) with blocks:=(l.getD k Enc.d).blocks.set j ⟨c⟩}:=by rw[List.getD_eq_getElem?_getD,List.getElem?_set_self hk];rfl
  rw[e1]
  have e2:updG ([]++[(k,0+1+1+1)]) (updG ([]++[(k,0+1+1+1)]) (fun i=>Enc.enc (l.getD i Enc.d)) j 0 [.any]) j (0+0) [.row none 7 m g] k=[.s (l.getD k Enc.d).name,eL (l.getD k Enc.d).params,.i .i64 (l.getD k Enc.d).ret,.row none 1 (l.getD k Enc.d).blocks.length (setG (setG (fun t=>Enc.enc ((l.getD k Enc.d).blocks.getD t Enc.d)) j 0 [.any]) j (0+0) [.row none 7 m g])]:=by
   show setC _ k 3 _ k=_
   unfold setC
   rw[if_pos rfl,upF]
   rfl
  rw[e2]
  show teqs _ [.s _,eL _,.i .i64 _,eL ((l.getD k Enc.d).blocks.set j ⟨c⟩)]
  refine⟨teq_refl _,teq_refl _,teq_refl _,?_,rfl⟩
  unfold eL teq
  refine⟨rfl,List.length_set.symm,fun t ht=>?_⟩
  rw[List.length_set] at ht
  show teqs _ (Enc.enc (((l.getD k Enc.d).blocks.set j ⟨c⟩).getD t Enc.d))
  by_cases et:t=j
  ·subst et
   have e3:setG (setG (fun t=>Enc.enc ((l.getD k Enc.d).blocks.getD t Enc.d)) t 0 [.any]) t (0+0) [.row none 7 m g] t=[.row none 7 m g]:=by
    simp only[setG,if_true];rfl
   have e4:((l.getD k Enc.d).blocks.set t ⟨c⟩).getD t Enc.d=⟨c⟩:=by rw[List.getD_eq_getElem?_getD,List.getElem?_set_self ht];rfl
   rw[e3,e4]
   show teqs _ [eL c]
   refine⟨?_,rfl⟩
   unfold eL teq
   exact⟨rfl,hm,hg⟩
  ·have e3:setG (setG (fun t=>Enc.enc ((l.getD k Enc.d).blocks.getD t Enc.d)) j 0 [.any]) j (0+0) [.row none 7 m g] t=Enc.enc ((l.getD k Enc.d).blocks.getD t Enc.d):=by
    simp only[setG,if_neg et]
   have e4:((l.getD k Enc.d).blocks.set j ⟨c⟩).getD t Enc.d=(l.getD k Enc.d).blocks.getD t Enc.d:=by rw[List.getD_eq_getElem?_getD (l:=List.set _ _ _),List.getElem?_set_ne (Ne.symm et),<-List.getD_eq_getElem?_getD]
   rw[e3,e4]
   exact teqs_refl _
 ·have e1:(l.set i { (l.getD i Enc.d) with blocks:=(l.getD i Enc.d).blocks.set j ⟨c⟩}).getD k Enc.d=l.getD k Enc.d:=by rw[List.getD_eq_getElem?_getD,List.getElem?_set_ne (Ne.symm e),List.getD_eq_getElem?_getD]
  have e2:updG ([]++[(i,0+1+1+1)]) (updG ([]++[(i,0+1+1+1)]) (fun i=>Enc.enc (l.getD i Enc.d)) j 0 [.any]) j (0+0) [.row none 7 m g] k=Enc.enc (l.getD k Enc.d):=by
   show setC _ i 3 _ k=_
   unfold setC
   rw[if_neg e]
   show setC _ i 3 _ k=_
   unfold setC
   rw[if_neg e]
  rw[e1,e2]
  exact teqs_refl _
theorem in_no {o k w:Int} {b:Bool} (g5:w=1) (g6: ¬o=0) (g7:o=30\/(makesB o==b)=true) (hc:(¬w=1\/o=0)\/ ¬o=30/\decide (((decide (1<=o)&&decide (o<=29)&& !decide (o=28)))=b)=false):False:=by
 rcases hc with(c|c)|⟨c1,c2⟩
 ·exact c g5
 ·exact g6 c
 ·rw[decide_eq_false_iff_not] at c2
  have:=g7.resolve_left c1
  rw[beq_iff_eq] at this
  exact c2 this
theorem instr_T (R:RdE) (l:List FnE) (i:Nat) (t:TokE) (h:RdOk R) (hg:instrG R t=true) (hi:i<l.length) (hi2:i+1=l.length) (hb0:0<(l.getD i Enc.d).blocks.length) (hs: ∀k,siz (l.getD k Enc.d)<4294967296) (hl:l.length<4294967296):
  ASpecF (.l [] [1003]) Tryz.prog 121 [.op 1000 0,.rp 1003 4 i 0,eS t] (rdO R l) (.tup []) (rdO (instrF R t).1 (addIn l i (instrF R t).2)):=by
 have h1:=h.l
 have h2:=h.i
 have h3:=blocks_le (l.getD i Enc.d)
 have h4:=hs i
 have h5:=code_le (l.getD i Enc.d) (addZ 0 ((l.getD i Enc.d).blocks.length-1:Int).toNat)
 have h6:addZ 0 ((l.getD i Enc.d).blocks.length-1:Int).toNat=lastI (l.getD i Enc.d).blocks:=by rw[addZ_eq];unfold lastI;omega
 have h7:lastI (l.getD i Enc.d).blocks<(l.getD i Enc.d).blocks.length:=by unfold lastI;omega
 simp only[instrG,Bool.and_eq_true,Bool.or_eq_true,Bool.not_eq_true',decide_eq_true_eq,decide_eq_false_iff_not] at hg
 obtain⟨⟨g1,g2,g3⟩,g4,⟨g5,g6,g7⟩,g8⟩:=hg
 by_cases hk:t.kind=3
 ·obtain⟨g9,g10,g11⟩:=g4.resolve_left (fun e=>e hk)
  obtain⟨g12,g13⟩:=regG_ok g10
  have e1:inR R t=goF (goF { R with size:=R.size+1}):=if_pos hk
  have r1:RdOk (goF { R with size:=R.size+1}):=⟨h.l,g9,h.en⟩
  have hm:=mustO (goF { R with size:=R.size+1}) l 5 (⟨#[61]⟩:ByteArray) r1
  have em:mustF (goF { R with size:=R.size+1}) 5 (⟨#[61]⟩:ByteArray)=inR R t:=by rw[e1];unfold mustF;rw[if_pos (show(goF { R with size:=R.size+1}).flt.code=0 from g3),if_pos g11]
  rw[em] at hm
  have hfl:(inR R t).flt.code=0:=by rw[e1];exact g3
  have r2:RdOk (inR R t):=by rw[e1];exact r1.go (by rw[isB_kind g11];decide)
  have r3:RdOk (goF (inR R t)):=r2.go (by rw[g5];decide)
  have q1:(inR R t).i<=(inR R t).l.length:=r2.i
  have q2:(inR R t).l.length<4294967296:=r2.l
  have hX:in0 R t=⟨opF (nxt (inR R t)).text,atoiV t.text,0,0,0,[],[]⟩:=by unfold in0;rw[if_pos hk]
  have hF:=fun a=>formO (goF (inR R t)) l (in0 R t) a r3 g8 rfl
  have eF:instrF R t=formF (goF (inR R t)) (in0 R t):=rfl
  rw[eF]
  have hto:(formF (goF (inR R t)) (in0 R t)).2.to=[]:=by rw[formF_to];rfl
  generalize formF (goF (inR R t)) (in0 R t)=FX at*
  rw[hX] at hF
  generalize inR R t=P at*
  refine ASpecF.enterT TYok mixed Tryz.func121 rfl Tryz.call121 Tryz.ntmps121 rfl (rs:=[]) rfl (rdOClo rfl) rfl (tops:=[1003]) (keep:=[0,1,2,5,6,7,8,9,10,11,12]) 3145869 rfl rfl fun pin=>?_;conv=>whnf
  repeat' first|(refine iG ?_ ?_<;>intro hb hc<;>first|exact yE|conv=>whnf)|(refine gqt ?_;conv=>whnf)|(refine gqc (x:=fun _=>Atoi_S _ _ g12 g13) (k:= ?_);conv=>whnf)|(refine gqm (x:=hm) (k:= ?_);conv=>whnf)|(refine gqc (x:=fun _=>next_S P _ r2) (k:= ?_);conv=>whnf)|(refine gqc (x:=fun _=>op_S _) (k:= ?_);conv=>whnf)|(refine yt ?_;conv=>whnf)|exact yK|fail
  ·exact(in_no (k:=0) g5 g6 g7 hc).elim
  have hF:=hF ⟨⟨0,⟨#[]⟩,0,0⟩,(l.length:Int)-1,((l.getD i Enc.d).blocks.length:Int)-1,(((l.getD i Enc.d).blocks.getD (addZ 0 ((l.getD i Enc.d).blocks.length-1:Int).toNat) Enc.d).code.length:Int),0⟩
  repeat' first|(refine iG ?_ ?_<;>intro hb hc<;>first|exact yE|conv=>whnf)|(refine gqp ?_;conv=>whnf)|(refine gqm (x:=hF) (k:= ?_);conv=>whnf)|(refine yt ?_;conv=>whnf)|exact yK|fail
  refine nthK_rw (upF l i _ _) ?_
  conv=>whnf
  repeat' first|(refine iG ?_ ?_<;>intro hb hc<;>first|exact yE|conv=>whnf)|(refine gqp ?_;conv=>whnf)|(refine yt ?_;conv=>whnf)|exact yK|fail
  refine⟨[],[],trivial,?_,rfl,⟨⟨1,_,_,_,rfl,rfl⟩,rfl,trivial⟩⟩
  rw[h6]
  repeat' first|exact eN|apply zi
  all_goals first|exact(setBs_len _ _ _).symm|exact fun k hk=>in_tree hi h7 (by rw[List.length_append];rfl) (in_code (in_cells hto)) k hk
 ·have e1:inR R t= { R with size:=R.size+1}:=if_neg hk
  have hfl:(inR R t).flt.code=0:=by rw[e1];exact g3
  have r2:RdOk (inR R t):=by rw[e1];exact⟨h.l,h.i,h.en⟩
  have r3:RdOk (goF (inR R t)):=r2.go (by rw[g5];decide)
  have hX:in0 R t=⟨opF (nxt (inR R t)).text,-1,0,0,0,[],[]⟩:=by unfold in0;rw[if_neg hk]
  have hF:=fun a=>formO (goF (inR R t)) l (in0 R t) a r3 g8 rfl
  have eF:instrF R t=formF (goF (inR R t)) (in0 R t):=rfl
  rw[eF]
  have hto:(formF (goF (inR R t)) (in0 R t)).2.to=[]:=by rw[formF_to];rfl
  generalize formF (goF (inR R t)) (in0 R t)=FX at*
  rw[hX] at hF
  rw[e1] at g5 g6 g7 hF r2 r3 hfl
  refine ASpecF.enterT TYok mixed Tryz.func121 rfl Tryz.call121 Tryz.ntmps121 rfl (rs:=[]) rfl (rdOClo rfl) rfl (tops:=[1003]) (keep:=[0,1,2,5,6,7,8,9,10,11,12]) 3145869 rfl rfl fun pin=>?_;conv=>whnf
  repeat' first|(refine iG ?_ ?_<;>intro hb hc<;>first|exact yE|conv=>whnf)|(refine gqt ?_;conv=>whnf)|(refine gqc (x:=fun _=>next_S _ _ r2) (k:= ?_);conv=>whnf)|(refine gqc (x:=fun _=>op_S _) (k:= ?_);conv=>whnf)|(refine yt ?_;conv=>whnf)|exact yK|fail
  ·exact(in_no (k:=0) g5 g6 g7 hc).elim
  have hF:=hF ⟨⟨0,⟨#[]⟩,0,0⟩,(l.length:Int)-1,((l.getD i Enc.d).blocks.length:Int)-1,(((l.getD i Enc.d).blocks.getD (addZ 0 ((l.getD i Enc.d).blocks.length-1:Int).toNat) Enc.d).code.length:Int),0⟩
  repeat' first|(refine iG ?_ ?_<;>intro hb hc<;>first|exact yE|conv=>whnf)|(refine gqp ?_;conv=>whnf)|(refine gqm (x:=hF) (k:= ?_);conv=>whnf)|(refine yt ?_;conv=>whnf)|exact yK|fail
  refine nthK_rw (upF l i _ _) ?_
  conv=>whnf
  repeat' first|(refine iG ?_ ?_<;>intro hb hc<;>first|exact yE|conv=>whnf)|(refine gqp ?_;conv=>whnf)|(refine yt ?_;conv=>whnf)|exact yK|fail
  refine⟨[],[],trivial,?_,rfl,⟨⟨1,_,_,_,rfl,rfl⟩,rfl,trivial⟩⟩
  rw[h6]
  repeat' first|exact eN|apply zi
  all_goals first|exact(setBs_len _ _ _).symm|exact fun k hk=>in_tree hi h7 (by rw[List.length_append];rfl) (in_code (in_cells hto)) k hk
theorem RdOk.form {R:RdE} {X:InsE} (h:RdOk R):RdOk (formF R X).1:=by
 unfold formF
 split
 ·exact RdOk.ops h.kind _
 ·unfold leaveF
  split
  ·exact h
  ·exact RdOk.ops h.kind _
theorem RdOk.labelR {R:RdE} (h:RdOk R) (l:List FnE) (i:Nat) (t:TokE) (n:Int):RdOk (labelR R l i t n)/\nxt (YtnfdieeaelhpbaaGreatDoor.labelR R l i t n)=nxt R:=by
 unfold YtnfdieeaelhpbaaGreatDoor.labelR
 split
 ·exact⟨h.fail _ _,fail_nxt _ _ _⟩
 ·split
  ·exact⟨h.fail _ _,fail_nxt _ _ _⟩
  ·exact⟨h,rfl⟩
theorem RdOk.label {R:RdE} (h:RdOk R) (l:List FnE) (i:Nat) (t:TokE) (n:Int) (hk:(nxt R).kind≠6):RdOk (labelF R l i t n):=by
 obtain⟨h1,h2⟩:=h.labelR l i t n
 exact(h1.go (by rw[h2];exact hk)).must (by decide) _
def isLb (R:RdE):Bool:=decide ((nxt R).kind=1)&&(smallF (nxt R).text 98).2
def lineF (i:Nat) (S:RdE×List FnE):RdE×List FnE:=
 if(nxt S.1).kind=6 then(goF S.1,S.2)
 else if isLb S.1=true then(closeF (labelF S.1 S.2 i (nxt S.1) (smallF (nxt S.1).text 98).1),labelL S.2 i)
 else(closeF (instrF S.1 (nxt S.1)).1,addIn S.2 i (instrF S.1 (nxt S.1)).2)
def lineG (i:Nat) (S:RdE×List FnE):Bool:=decide (S.1.flt.code=0)&&(decide (S.1.i<S.1.l.length)&&(smallG (nxt S.1).text 98&&(decide (i+1=S.2.length)&&(decide (S.2.length<4294967296)&&(S.2.all fun f=>decide (siz f<4294967296))))))
def lineH (i:Nat) (S:RdE×List FnE):Bool:=lineG i S&&(decide ((nxt S.1).kind=6)||(isLb S.1||(decide (0<(S.2.getD i Enc.d).blocks.length)&&(!isB S.1 1 (⟨#[101,110,100]⟩:ByteArray)&&instrG S.1 (nxt S.1)))))
def lineE (i:Nat) (S:RdE×List FnE):Bool:=lineG i S&&(decide (0<(S.2.getD i Enc.d).blocks.length)&&(!isLb S.1&&isB S.1 1 (⟨#[101,110,100]⟩:ByteArray)))
def linesF (i:Nat) (S:RdE×List FnE):Nat->RdE×List FnE
 |0=>S
 |q+1=>lineF i (linesF i S q)
theorem siz_all {l:List FnE} (h:(l.all fun f=>decide (siz f<4294967296))=true) (k:Nat):siz (l.getD k Enc.d)<4294967296:=by
 rw[List.getD_eq_getElem?_getD]
 cases e:l[k]? with
 |none=>decide
 |some f=>exact of_decide_eq_true (List.all_eq_true.1 h f (List.mem_of_getElem? e))
theorem RdOk.instr {R:RdE} {t:TokE} (h:RdOk R) (hg:instrG R t=true):RdOk (instrF R t).1:=by
 simp only[instrG,Bool.and_eq_true,Bool.or_eq_true,Bool.not_eq_true',decide_eq_true_eq,decide_eq_false_iff_not] at hg
 obtain⟨⟨f1,f2,f3⟩,f4,⟨f5,f6,f7⟩,f8⟩:=hg
 refine RdOk.form (RdOk.go ?_ (by rw[f5];decide))
 by_cases hk:t.kind=3
 ·obtain⟨f9,f10,f11⟩:=f4.resolve_left (fun e=>e hk)
  have r1:RdOk (goF { R with size:=R.size+1}):=⟨h.l,f9,h.en⟩
  rw[show inR R t=goF (goF { R with size:=R.size+1}) from if_pos hk]
  exact r1.go (by rw[isB_kind f11];decide)
 ·rw[show inR R t= { R with size:=R.size+1} from if_neg hk]
  exact⟨h.l,h.i,h.en⟩
theorem line_ok {i:Nat} {S:RdE×List FnE} (h:RdOk S.1) (hg:lineH i S=true):RdOk (lineF i S).1:=by
 simp only[lineH,lineG,Bool.and_eq_true,Bool.or_eq_true,Bool.not_eq_true',decide_eq_true_eq] at hg
 obtain⟨⟨g1,g2,g3,g4,g5,g6⟩,g7⟩:=hg
 unfold lineF
 split
 ·exact⟨h.l,g2,h.en⟩
 ·rename_i hk
  split
  ·exact(h.label _ _ _ _ hk).close
  ·rename_i hl
   obtain⟨g8,g9,g10⟩:=(g7.resolve_left hk).resolve_left hl
   exact(h.instr g10).close
theorem lines_ok {i:Nat} {S:RdE×List FnE} {N:Nat} (h:RdOk S.1) (hg: ∀q,q<N->lineH i (linesF i S q)=true): ∀q,q<=N->RdOk (linesF i S q).1
 |0,_=>h
 |q+1,hq=>line_ok (lines_ok h hg q (by omega)) (hg q hq)
theorem body_S (R:RdE) (l:List FnE) (i N:Nat) (h:RdOk R) (hi:i+1=l.length) (hl:l.length<4294967296) (hg: ∀q,q<N->lineH i (linesF i ({ R with size:=0},l) q)=true) (he:lineE i (linesF i ({ R with size:=0},l) N)=true):
  ASpecM Tryz.prog 89 [.op 1000 0] (rdO R l) (.tup []) (rdO (goF (linesF i ({ R with size:=0},l) N).1) (linesF i ({ R with size:=0},l) N).2):=by
 have h1:=h.l
 have h2:=h.i
 have ez:addZ 0 ((l.length:Int)-1).toNat=i:=by rw[addZ_eq];omega
 have hr:=lines_ok (S:=({ R with size:=0},l)) (show RdOk { R with size:=0} from⟨h.l,h.i,h.en⟩) hg
 refine ASpecM.enter TYok mixed Tryz.func89 rfl Tryz.call89 Tryz.ntmps89 rfl (rs:=[]) rfl (rdOClo rfl) rfl (keep:=[0,2,3,4,5]) fun pin=>?_;conv=>whnf
 repeat' first|(refine iG ?_ ?_<;>intro hb hc<;>first|exact yE|conv=>whnf)|(refine gqs ?_;conv=>whnf)|(refine yt ?_;conv=>whnf)|exact yK|fail
 rw[ez]
 refine lp [] (fun q:Nat=>[]) (fun q=>pinO pin (rdO (linesF i ({ R with size:=0},l) q).1 (linesF i ({ R with size:=0},l) q).2)) (fun q=>q<=N) (fun q=>N-q) 0 (Nat.zero_le _) ?_ fun q hq=>?_
 ·refine eP [] [] ?_ ?_<;>repeat' first|exact eN|apply zi
  exact fun _ _=>teqs_refl _
 have hS:=hr q hq
 have hH:=hg q
 have hE:q=N->lineE i (linesF i ({ R with size:=0},l) q)=true:=fun e=>by rw[e];exact he
 have hN:q=N->linesF i ({ R with size:=0},l) N=linesF i ({ R with size:=0},l) q:=fun e=>by rw[e]
 have hK:linesF i ({ R with size:=0},l) (q+1)=lineF i (linesF i ({ R with size:=0},l) q):=rfl
 have hG:lineG i (linesF i ({ R with size:=0},l) q)=true:=by
  rcases Nat.lt_or_ge q N with e|e
  ·exact(Bool.and_eq_true _ _▸hH e).1
  ·exact(Bool.and_eq_true _ _▸hE (by omega)).1
 generalize linesF i ({ R with size:=0},l) q=S at*
 obtain⟨P,m⟩:=S
 simp only[lineG,Bool.and_eq_true,decide_eq_true_eq] at hG
 simp only at hS
 obtain⟨g1,g2,g3,g4,g5,g6⟩:=hG
 have h3:=hS.l
 have h4:=hS.i
 have h5:=siz_all g6
 have h6:=blocks_le (m.getD i Enc.d)
 have h7:=h5 i
 by_cases hq2:q=N
 ·have hE:=hE hq2
  simp only[lineE,isLb,Bool.and_eq_true,Bool.not_eq_true',decide_eq_true_eq] at hE
  obtain⟨_,e1,e2,e3⟩:=hE
  have e4:=isB_kind e3
  rw[hN hq2]
  have ho:=isO P m 1 (⟨#[101,110,100]⟩:ByteArray) hS
  rw[e3,show isF P 1 (⟨#[101,110,100]⟩:ByteArray)=goF P from if_pos e3] at ho
  conv=>whnf
  repeat' first|(refine iG ?_ ?_<;>intro hb hc<;>first|exact yE|conv=>whnf)|(refine gqs ?_;conv=>whnf)|(refine gqc (x:=fun _=>next_S P _ hS) (k:= ?_);conv=>whnf)|(refine gqc (x:=fun _=>small_S (nxt P).text 98 g3) (k:= ?_);conv=>whnf)|(refine yt ?_;conv=>whnf)|exact yK|fail
  ·exact absurd (hb.symm.trans e2) (by decide)
  repeat' first|(refine iG ?_ ?_<;>intro hb hc<;>first|exact yE|conv=>whnf)|(refine gqs ?_;conv=>whnf)|(refine gqm (x:=ho) (k:= ?_);conv=>whnf)|(refine yt ?_;conv=>whnf)|exact yK|fail
  ·refine⟨[],[],?_,?_,rfl⟩<;>repeat' first|exact eN|apply zi
   exact fun _ _=>teqs_refl _
  ·exact nomatch hb
 ·have hH:=hH (by omega)
  simp only[lineH,Bool.and_eq_true,Bool.or_eq_true,Bool.not_eq_true',decide_eq_true_eq] at hH
  obtain⟨_,hH⟩:=hH
  unfold lineF at hK
  simp only at hK
  by_cases hk:(nxt P).kind=6
  ·rw[if_pos hk] at hK
   conv=>whnf
   repeat' first|(refine iG ?_ ?_<;>intro hb hc<;>first|exact yE|conv=>whnf)|(refine gqs ?_;conv=>whnf)|(refine gqc (x:=fun _=>next_S P _ hS) (k:= ?_);conv=>whnf)|(refine gqc (x:=fun _=>small_S (nxt P).text 98 g3) (k:= ?_);conv=>whnf)|(refine yt ?_;conv=>whnf)|exact yK|fail
   refine .mk (q+1) (by omega) (by omega) ?_
   refine eP [] [] ?_ ?_<;>repeat' first|exact eN|apply zi|exact snoc_len hK|exact snoc_get hK rfl|rw[hK]
   all_goals exact fun _ _=>teqs_refl _
  ·rw[if_neg hk] at hK
   by_cases hb0:isLb P=true
   ·rw[if_pos hb0] at hK
    have hlab:=label_T P m i (nxt P) (smallF (nxt P).text 98).1 hS hk (by omega) h5 g5
    have hcl:=closeO (labelF P m i (nxt P) (smallF (nxt P).text 98).1) (labelL m i) (hS.label _ _ _ _ hk)
    have hb1:(decide ((nxt P).kind=1)&&(smallF (nxt P).text 98).2)=true:=hb0
    conv=>whnf
    repeat' first|(refine iG ?_ ?_<;>intro hb hc<;>first|exact yE|conv=>whnf)|(refine gqs ?_;conv=>whnf)|(refine gqc (x:=fun _=>next_S P _ hS) (k:= ?_);conv=>whnf)|(refine gqc (x:=fun _=>small_S (nxt P).text 98 g3) (k:= ?_);conv=>whnf)|(refine gqm (x:=hlab) (k:= ?_);conv=>whnf)|(refine gqm (x:=hcl) (k:= ?_);conv=>whnf)|(refine yt ?_;conv=>whnf)|exact yK|fail
    ·refine .mk (q+1) (by omega) (by omega) ?_
     refine eP [] [] ?_ ?_<;>repeat' first|exact eN|apply zi|exact snoc_len hK|exact snoc_get hK rfl|rw[hK]
     all_goals exact fun _ _=>teqs_refl _
    all_goals exact absurd (hb1.symm.trans (show(decide ((nxt P).kind=1)&&(smallF (nxt P).text 98).2)=false by assumption)) (by decide)
   ·rw[if_neg hb0] at hK
    obtain⟨e1,e2,e3⟩:=(hH.resolve_left hk).resolve_left hb0
    have hb1:(decide ((nxt P).kind=1)&&(smallF (nxt P).text 98).2)=false:=Bool.eq_false_iff.2 hb0
    have ho:=isO P m 1 (⟨#[101,110,100]⟩:ByteArray) hS
    rw[e2,show isF P 1 (⟨#[101,110,100]⟩:ByteArray)=P from if_neg (by rw[e2];decide)] at ho
    have hin:=instr_T P m i (nxt P) hS e3 (by omega) g4 e1 h5 g5
    have hcl:=closeO (instrF P (nxt P)).1 (addIn m i (instrF P (nxt P)).2) (hS.instr e3)
    conv=>whnf
    repeat' first|(refine iG ?_ ?_<;>intro hb hc<;>first|exact yE|conv=>whnf)|(refine gqs ?_;conv=>whnf)|(refine gqc (x:=fun _=>next_S P _ hS) (k:= ?_);conv=>whnf)|(refine gqc (x:=fun _=>small_S (nxt P).text 98 g3) (k:= ?_);conv=>whnf)|(refine yt ?_;conv=>whnf)|exact yK|fail
    ·exact absurd ((show(decide ((nxt P).kind=1)&&(smallF (nxt P).text 98).2)=true by assumption).symm.trans hb1) (by decide)
    repeat' first|(refine iG ?_ ?_<;>intro hb hc<;>first|exact yE|conv=>whnf)|(refine gqs ?_;conv=>whnf)|(refine gqm (x:=ho) (k:= ?_);conv=>whnf)|(refine gqm (x:=hin) (k:= ?_);conv=>whnf)|(refine gqm (x:=hcl) (k:= ?_);conv=>whnf)|(refine yt ?_;conv=>whnf)|exact yK|fail
    ·exact nomatch hb
    ·refine .mk (q+1) (by omega) (by omega) ?_
     refine eP [] [] ?_ ?_<;>repeat' first|exact eN|apply zi|exact snoc_len hK|exact snoc_get hK rfl|rw[hK]
     all_goals exact fun _ _=>teqs_refl _
abbrev rdN (R:RdE):Os:=rdX R .nil
theorem rdNClo {R:RdE} {v:AV} (hv:noOwn v=true):Clo v (rdN R):=by
 refine⟨fun id hm=>(Bool.noConfusion ((noOwn_men hv).symm.trans hm)),fun i ob h id hm=>?_⟩
 unfold rdN rdX at h
 rw[lk_cons] at h
 split at h
 ·cases h
  simp only[rdC,omen,mens,men,Bool.or_false,eL] at hm
  cases hm
 ·simp[lk] at h
theorem liftN {f:FuncId} {args:List AV} {R R':RdE} {r:AV} (h: ∀x,ASpecM Tryz.prog f args (rdX R (.v x)) r (rdX R' (.v x))):ASpecF (.l [] []) Tryz.prog f args (rdN R) r (rdN R'):=by
 have:=ASpecF.frame (F:=[]) (c:= .nil) (os:=[]) (no:=[]) (fu:=[]) (tp:=[]) (a:=[eL R.l,.i .i64 R.i,.nil,.nil]) (a':=[eL R'.l,.i .i64 R'.i,.nil,.nil]) rfl rfl (fun d hd=>(by simp only[men] at hd;cases hd)) (fun x=>(h x).lst)
 exact this
theorem takeN (R:RdE) (k:Int) (h:RdOk R):ASpecF (.l [] []) Tryz.prog 86 [.op 1000 0,.i .i64 k] (rdN R) (eS (nxt R)) (rdN (takeF R k)):=liftN fun x=>take_S R x k h
theorem isN (R:RdE) (k:Int) (s:ByteArray) (h:RdOk R):ASpecF (.l [] []) Tryz.prog 117 [.op 1000 0,.i .i64 k,.s s] (rdN R) (.b (isB R k s)) (rdN (isF R k s)):=liftN fun x=>is_S R x k s h
theorem mustN (R:RdE) (k:Int) (s:ByteArray) (h:RdOk R):ASpecF (.l [] []) Tryz.prog 116 [.op 1000 0,.i .i64 k,.s s] (rdN R) (.tup []) (rdN (mustF R k s)):=liftN fun x=>must_S R x k s h
theorem kindN (R:RdE) (h:RdOk R) (hg:smallG (nxt R).text 105=true):ASpecF (.l [] []) Tryz.prog 118 [.op 1000 0] (rdN R) (.i .i64 (kindF R).2) (rdN (kindF R).1):=liftN fun x=>kindK_S R x h hg
theorem callee_N (R:RdE) (s:ByteArray):ASpecM Tryz.prog 91 [.op 1000 0,.s s] (rdN R) (.tup [.i .i64 0,.b false]) (rdN R):=by
 refine ASpecM.enter TYok mixed Tryz.func91 rfl Tryz.call91 Tryz.ntmps91 rfl (rs:=[.tmp 4,.tmp 5]) rfl (rdNClo rfl) rfl (keep:=[0,1,4,5,6,7,8,9,14,15,16,31,32,33]) fun pin=>?_;conv=>whnf
 repeat' first|(refine iG ?_ ?_<;>intro hb hc<;>first|exact yE|conv=>whnf)|(refine gqs ?_;conv=>whnf)|(refine yt ?_;conv=>whnf)|exact yK|fail
 refine lp [16] (fun q:Nat=>[.i .i64 q]) (fun q=>pinO pin (rdN R)) (fun q=>q=0) (fun q=>1-q) 0 rfl ?_ fun q hq=>?_
 ·refine eP [] [] ?_ ?_<;>repeat' first|exact eN|apply zi
 subst hq
 conv=>whnf
 repeat' first|(refine iG ?_ ?_<;>intro hb hc<;>first|exact yE|conv=>whnf)|(refine gqs ?_;conv=>whnf)|(refine yt ?_;conv=>whnf)|exact yK|fail
 refine lp [33] (fun q:Nat=>[.i .i64 q]) (fun q=>pinO pin (rdN R)) (fun q=>q=0) (fun q=>1-q) 0 rfl ?_ fun q hq=>?_
 ·refine eP [] [] ?_ ?_<;>repeat' first|exact eN|apply zi
 subst hq
 conv=>whnf
 repeat' first|(refine iG ?_ ?_<;>intro hb hc<;>first|exact yE|conv=>whnf)|(refine gqs ?_;conv=>whnf)|(refine yt ?_;conv=>whnf)|exact yK|fail
 refine⟨[],[],?_,?_,rfl⟩<;>repeat' first|exact eN|apply zi
def parA (S:RdE×List Int):RdE:=if 0<S.2.length then mustF S.1 5 (⟨#[44]⟩:ByteArray) else S.1
def parF (S:RdE×List Int):RdE×List Int:=((kindF (parA S)).1,S.2++[(kindF (parA S)).2])
def parsF (S:RdE×List Int):Nat->RdE×List Int
 |0=>S
 |q+1=>parF (parsF S q)
def parG (S:RdE×List Int):Bool:=decide (S.1.flt.code=0)&&(!isB S.1 5 (⟨#[41]⟩:ByteArray)&&(smallG (nxt (parA S)).text 105&&decide (S.2.length<8)))
def headR (R:RdE):RdE:=mustF (takeF R 1) 5 (⟨#[40]⟩:ByteArray)
def hdFn (R:RdE) (N:Nat):RdE×Int:=kindF (goF (parsF (headR R,[]) N).1)
def headP (R:RdE) (N:Nat):List Int:=(parsF (headR R,[]) N).2
def headG (R:RdE) (N:Nat):Bool:=((List.range N).all fun q=>parG (parsF (headR R,[]) q))&&(isB (parsF (headR R,[]) N).1 5 (⟨#[41]⟩:ByteArray)&&smallG (nxt (goF (parsF (headR R,[]) N).1)).text 105)
theorem RdOk.parA {S:RdE×List Int} (h:RdOk S.1):RdOk (parA S):=by
 unfold YtnfdieeaelhpbaaGreatDoor.parA
 split
 ·exact h.must (by decide) _
 ·exact h
theorem RdOk.pars {S:RdE×List Int} (h:RdOk S.1): ∀q,RdOk (parsF S q).1
 |0=>h
 |q+1=>((h.pars q).parA).kind
theorem hdClo {R:RdE} {a:ByteArray} {k:Int} {n:Nat} {l:List Int}:Clo (.tup [.s a,.orow 1011 1 0 n,.i .i64 k]) (rdN R++[(1011,oL l)]):=by
 refine⟨fun id hm=>?_,fun i ob h id hm=>?_⟩
 ·simp only[men,mens,Bool.or_false,Bool.false_or] at hm
  have:=Nat.eq_of_beq_eq_true hm;subst this;rfl
 ·unfold rdN rdX at h
  rw[List.cons_append,lk_cons] at h
  split at h
  ·cases h
   simp only[rdC,omen,mens,men,Bool.or_false,eL] at hm
   cases hm
  ·rw[List.nil_append,lk_cons] at h
   split at h
   ·cases h;cases hm
   ·simp[lk] at h
theorem head_N (R:RdE) (N:Nat) (a b:Int) (h:RdOk R) (hab:a≠b) (hg:headG R N=true):
  ASpecM Tryz.prog 88 [.op 1000 0,.i .i64 a,.i .i64 b] (rdN R) (.tup [.s (nxt R).text,.orow 1011 1 0 (headP R N).length,.i .i64 (hdFn R N).2]) (rdN (hdFn R N).1++[(1011,oL (headP R N))]):=by
 have h1:=h.l
 have h2:=h.i
 simp only[headG,Bool.and_eq_true,List.all_eq_true,List.mem_range] at hg
 obtain⟨g1,g2,g3⟩:=hg
 have r1:=h.take 1
 have r2:RdOk (headR R):=r1.must (by decide) _
 have rq:=RdOk.pars (S:=(headR R,[])) r2
 have hm:=mustN (takeF R 1) 5 (⟨#[40]⟩:ByteArray) r1
 rw[show mustF (takeF R 1) 5 (⟨#[40]⟩:ByteArray)=headR R from rfl] at hm
 have hcal:=callee_N (takeF R 1) (nxt R).text
 refine ASpecM.enter TYok mixed Tryz.func88 rfl Tryz.call88 Tryz.ntmps88 rfl (rs:=[.tmp 6,.tmp 7,.tmp 8]) rfl (hdClo) rfl (keep:=[0,1,2,6,7,8,9,11,12,13]) fun pin=>?_;conv=>whnf
 repeat' first|(refine iG ?_ ?_<;>intro hb hc<;>first|exact yE|conv=>whnf)|(refine gqs ?_;conv=>whnf)|(refine gqm (x:=takeN R 1 h) (k:= ?_);conv=>whnf)|(refine gqm (x:=hcal) (k:= ?_);conv=>whnf)|(refine gqm (x:=hm) (k:= ?_);conv=>whnf)|(refine yt ?_;conv=>whnf)|exact yK|fail
 ·exact nomatch hb
 refine lp [12] (fun q:Nat=>[.orow 12 1 0 (parsF (headR R,[]) q).2.length]) (fun q=>(12,oL (parsF (headR R,[]) q).2)::(9,bx (nxt R))::pinO pin (rdN (parsF (headR R,[]) q).1)) (fun q=>q<=N) (fun q=>N-q) 0 (Nat.zero_le _) ?_ fun q hq=>?_
 ·refine eP [] [12] ?_ ?_<;>repeat' first|exact eN|apply zi
 have hS:=rq q
 have hE:q=N->isB (parsF (headR R,[]) q).1 5 (⟨#[41]⟩:ByteArray)=true/\smallG (nxt (goF (parsF (headR R,[]) q).1)).text 105=true:=fun e=>by rw[e];exact⟨g2,g3⟩
 have hG:q<N->parG (parsF (headR R,[]) q)=true:=g1 q
 have hN:q=N->parsF (headR R,[]) N=parsF (headR R,[]) q:=fun e=>by rw[e]
 have hK:parsF (headR R,[]) (q+1)=parF (parsF (headR R,[]) q):=rfl
 unfold hdFn headP
 generalize parsF (headR R,[]) q=S at*
 have s1:=hS.l
 have s2:=hS.i
 have hz:S.1.flt.code=0:=by
  rcases Nat.lt_or_ge q N with e|e
  ·have:=hG e
   simp only[parG,Bool.and_eq_true,decide_eq_true_eq] at this
   exact this.1
  ·have:=(hE (by omega)).1
   simp only[isB,Bool.and_eq_true,decide_eq_true_eq] at this
   exact this.1
 have hI:=isN S.1 5 (⟨#[41]⟩:ByteArray) hS
 by_cases hq2:q=N
 ·obtain⟨e1,e2⟩:=hE hq2
  rw[hN hq2]
  rw[e1,show isF S.1 5 (⟨#[41]⟩:ByteArray)=goF S.1 from if_pos e1] at hI
  have rg:RdOk (goF S.1):=hS.go (by rw[isB_kind e1];decide)
  conv=>whnf
  repeat' first|(refine iG ?_ ?_<;>intro hb hc<;>first|exact yE|conv=>whnf)|(refine gqs ?_;conv=>whnf)|(refine yt ?_;conv=>whnf)|exact yK|fail
  refine CallG.grd ?_;(conv=>whnf);refine⟨fun ht=>cM (hI) ?_,.b false,fun ht=>?_⟩<;>(simp only[tg_ite,tg_nil,cn,Nat.reduceMul,Nat.reduceAdd,Nat.reduceEqDiff,↓reduceIte,decide_eq_true_eq,decide_eq_false_iff_not] at ht)<;>conv=>whnf
  ·refine And.intro (fun hb=>absurd hb (by simp[pickB_and])) fun _=>?_
   conv=>whnf
   repeat' first|(refine iG ?_ ?_<;>intro hb hc<;>first|exact yE|conv=>whnf)|(refine gqp ?_;conv=>whnf)|(refine gqm (x:=kindN (goF S.1) rg e2) (k:= ?_);conv=>whnf)|(refine yt ?_;conv=>whnf)|exact yK|fail
   refine⟨[(1011,12)],[],?_,?_,rfl⟩<;>repeat' first|exact eN|apply zi
  ·exact absurd hz (by simpa using ht)
 ·have hG:=hG (by omega)
  simp only[parG,Bool.and_eq_true,Bool.not_eq_true',decide_eq_true_eq] at hG
  obtain⟨_,e1,e2,e3⟩:=hG
  rw[e1,show isF S.1 5 (⟨#[41]⟩:ByteArray)=S.1 from if_neg (by rw[e1];decide)] at hI
  have hK1:(parsF (headR R,[]) (q+1)).1=(kindF (parA S)).1:=by rw[hK];rfl
  have hK2:(parsF (headR R,[]) (q+1)).2=S.2++[(kindF (parA S)).2]:=by rw[hK];rfl
  have ra:=RdOk.parA hS
  have hma:=mustN S.1 5 (⟨#[44]⟩:ByteArray) hS
  have hkd:=kindN (parA S) ra e2
  conv=>whnf
  repeat' first|(refine iG ?_ ?_<;>intro hb hc<;>first|exact yE|conv=>whnf)|(refine gqs ?_;conv=>whnf)|(refine yt ?_;conv=>whnf)|exact yK|fail
  refine CallG.grd ?_;(conv=>whnf);refine⟨fun ht=>cM (hI) ?_,.b false,fun ht=>?_⟩<;>(simp only[tg_ite,tg_nil,cn,Nat.reduceMul,Nat.reduceAdd,Nat.reduceEqDiff,↓reduceIte,decide_eq_true_eq,decide_eq_false_iff_not] at ht)<;>conv=>whnf
  ·refine And.intro (fun _=>?_) fun hb=>absurd hb (by simp[pickB_and,hz])
   conv=>whnf
   repeat' first|(refine iG ?_ ?_<;>intro hb hc<;>first|exact yE|conv=>whnf)|(refine gqs ?_;conv=>whnf)|(refine yt ?_;conv=>whnf)|exact yK|fail
   ·have e4:parA S=mustF S.1 5 (⟨#[44]⟩:ByteArray):=if_pos (by omega)
    rw[<-e4] at hma
    repeat' first|(refine iG ?_ ?_<;>intro hb hc<;>first|exact yE|conv=>whnf)|(refine gqs ?_;conv=>whnf)|(refine gqm (x:=hma) (k:= ?_);conv=>whnf)|(refine gqc (x:=fun _=>next_S (parA S) _ ra) (k:= ?_);conv=>whnf)|(refine gqm (x:=hkd) (k:= ?_);conv=>whnf)|(refine yt ?_;conv=>whnf)|exact yK|fail
    refine .mk (q+1) (by omega) (by omega) ?_
    refine eP [(12,65)] [] ?_ ?_<;>repeat' first|exact eN|apply zi|exact snoc_len hK1|exact snoc_get hK1 rfl|rw[hK1]|exact snoc_len hK2|exact snoc_get hK2 rfl|rw[hK2]
   ·have e4:parA S=S.1:=if_neg (by omega)
    rw[e4] at hkd hK1 hK2
    repeat' first|(refine iG ?_ ?_<;>intro hb hc<;>first|exact yE|conv=>whnf)|(refine gqs ?_;conv=>whnf)|(refine gqc (x:=fun _=>next_S S.1 _ hS) (k:= ?_);conv=>whnf)|(refine gqm (x:=hkd) (k:= ?_);conv=>whnf)|(refine yt ?_;conv=>whnf)|exact yK|fail
    refine .mk (q+1) (by omega) (by omega) ?_
    refine eP [(12,65)] [] ?_ ?_<;>repeat' first|exact eN|apply zi|exact snoc_len hK1|exact snoc_get hK1 rfl|rw[hK1]|exact snoc_len hK2|exact snoc_get hK2 rfl|rw[hK2]
  ·exact absurd hz (by simpa using ht)
def topL (R:RdE) (N:Nat):List FnE:=[⟨(nxt (takeF R 1)).text,headP (takeF R 1) N,(hdFn (takeF R 1) N).2,[]⟩]
def topR (R:RdE) (N:Nat):RdE:=closeF (hdFn (takeF R 1) N).1
def topB (R:RdE) (N q:Nat):RdE×List FnE:=linesF 0 ({ topR R N with size:=0},topL R N) q
def topF (R:RdE) (N M:Nat):RdE×List FnE:=(goF (topB R N M).1,(topB R N M).2)
def topG (R:RdE) (N M:Nat):Bool:=(decide ((takeF R 1).flt.code=0)&&decide ((nxt R).text=(⟨#[102,117,110,99]⟩:ByteArray)))&&(headG (takeF R 1) N&&(((List.range M).all fun q=>lineH 0 (topB R N q))&&lineE 0 (topB R N M)))
theorem ASpecF.wkB {P:Program} {f:FuncId} {args:List AV} {os:Os} {r:AV} {no:Os} {fu tp:List Nat} (h:ASpecF (.l fu tp) P f args os r no):ASpecF (.b false) P f args os r no:=by
 obtain⟨h1,h2,h3⟩:=h
 refine⟨h1,h2,fun S β w us hob hap hus hvr=>(h3 S β w us hob hap hus hvr).mono ?_⟩
 rintro e w' ⟨v,β',rfl,g1,g2,g3,g4,g5,g6,g7⟩
 refine⟨v,β',rfl,g1,g2,g3,g4,g5,⟨fun id ob hl hb hs=>g6.1 id ob hl ?_ hs,fun _ _ _ h=>nomatch h⟩,g7⟩
 rw[show kpF (.b false) id=false from rfl,Bool.false_or] at hb
 rw[hb,Bool.or_true]
theorem ASpecF.tre {fx:Fx} {P:Program} {f:FuncId} {args:List AV} {i0 id e n:Nat} {ob0:Obj} {g g':Nat->List AV} {r:AV} {no:Os} (h:ASpecF fx P f args [(i0,ob0),(id,.tree e n g)] r no) (ht: ∀i,i<n->teqs (g' i) (g i)):ASpecF fx P f args [(i0,ob0),(id,.tree e n g')] r no:=by
 obtain⟨h1,h2,h3⟩:=h
 have to': ∀ {i:Nat} {ob:Obj},lk [(i0,ob0),(id,Obj.tree e n g')] i=some ob->(lk [(i0,ob0),(id,Obj.tree e n g)] i=some ob)\/(ob= .tree e n g'/\lk [(i0,ob0),(id,Obj.tree e n g)] i=some (.tree e n g)):=fun {i ob} hl=>by
  rw[lk_cons] at hl⊢
  split at hl
  ·rename_i q;rw[if_pos q];exact .inl hl
  ·rename_i q
   rw[if_neg q]
   rw[lk_cons] at hl⊢
   split at hl
   ·rename_i q2;rw[if_pos q2];cases hl;exact .inr ⟨rfl,rfl⟩
   ·simp[lk] at hl
 have of': ∀ {i:Nat} {ob:Obj},lk [(i0,ob0),(id,Obj.tree e n g)] i=some ob->(lk [(i0,ob0),(id,Obj.tree e n g')] i=some ob)\/(ob= .tree e n g/\lk [(i0,ob0),(id,Obj.tree e n g')] i=some (.tree e n g')):=fun {i ob} hl=>by
  rw[lk_cons] at hl⊢
  split at hl
  ·rename_i q;rw[if_pos q];exact .inl hl
  ·rename_i q
   rw[if_neg q]
   rw[lk_cons] at hl⊢
   split at hl
   ·rename_i q2;rw[if_pos q2];cases hl;exact .inr ⟨rfl,rfl⟩
   ·simp[lk] at hl
 refine⟨h1,h2,fun S β w us hob hap hus hvr=>?_⟩
 refine(h3 S β w us ⟨fun i ob hl=>?_,hob.nodup,hob.keys,hob.lt⟩ hap hus hvr).mono ?_
 ·rcases of' hl with q|⟨rfl,q⟩
  ·exact hob.objs i ob q
  ·have:=hob.objs i _ q
   exact⟨this.1,teq_ok (.row none e n g') (.row none e n g) [] _ _ (by unfold teq;exact⟨rfl,rfl,ht⟩) this.2⟩
 ·rintro e w' ⟨v,β',rfl,g1,g2,g3,g4,g5,g6,g7⟩
  refine⟨v,β',rfl,g1,g2,g3,g4,g5,⟨fun j ob hl hb hs=>?_,fun j ob hl hk hs=>?_⟩,g7⟩
  ·rcases to' hl with q|⟨rfl,q⟩
   ·exact g6.1 j ob q hb hs
   ·exact g6.1 j _ q hb hs
  ·rcases to' hl with q|⟨rfl,q⟩
   ·exact g6.2 j ob q hk hs
   ·exact g6.2 j _ q hk hs
def topT (a:ByteArray) (L:List Int) (k:Int):Nat->List AV:=fun _=>splice (List.map holeC [.s a,.orow 1011 1 0 L.length,.i .i64 k,constC (Value.slice none 0 0)]) (0+1) [.row none 1 L.length fun i=>Enc.enc (L.getD i Enc.d)]
theorem RdOk.head {R:RdE} {N:Nat} (h:RdOk R) (hg:headG R N=true):RdOk (hdFn R N).1:=by
 simp only[headG,Bool.and_eq_true] at hg
 refine RdOk.kind (RdOk.go (RdOk.pars (S:=(headR R,[])) ((h.take 1).must (by decide) _) N) (by rw[isB_kind hg.2.1];decide))
theorem top_N (R:RdE) (N M:Nat) (h:RdOk R) (hg:topG R N M=true):
  ASpecM Tryz.prog 47 [.op 1000 0] (rdN R) (.tup []) (rdO (topF R N M).1 (topF R N M).2):=by
 have h1:=h.l
 have h2:=h.i
 simp only[topG,Bool.and_eq_true,List.all_eq_true,List.mem_range,decide_eq_true_eq] at hg
 obtain⟨⟨g1,g2⟩,g3,g4,g5⟩:=hg
 have r1:=h.take 1
 have r2:=r1.head g3
 have hhd:=head_N (takeF R 1) N 0 8 r1 (by decide) g3
 have hcl:=ASpecF.ren (swp 1003 80) (swp 1003 80) (swp_swp 1003 80) (closeO (hdFn (takeF R 1) N).1 (topL R N) r2).wkB
 have hbd:=ASpecF.ren (swp 1003 80) (swp 1003 80) (swp_swp 1003 80) (body_S (topR R N) (topL R N) 0 M r2.close rfl (show 1<4294967296 by decide) g4 g5)
 rw[show topF R N M=(goF (topB R N M).1,(topB R N M).2) from rfl]
 rw[show closeF (hdFn (takeF R 1) N).1=topR R N from rfl] at hcl
 unfold topB topL at*
 generalize hdFn (takeF R 1) N=H at*
 generalize headP (takeF R 1) N=L at*
 have hcl2:=ASpecF.tre (i0:=1000) (id:=80) (e:=4) (n:=0+1) (g':=catG 0 (topT (nxt (takeF R 1)).text L H.2) (topT (nxt (takeF R 1)).text L H.2)) hcl (fun i hi=>by
  obtain rfl:i=0:=by omega
  exact⟨rfl,teq_refl _,rfl,⟨rfl,rfl⟩⟩)
 refine ASpecM.enter TYok mixed Tryz.func47 rfl Tryz.call47 Tryz.ntmps47 rfl (rs:=[]) rfl (rdOClo rfl) rfl (keep:=[0,2,3,4,5,6,7,8,18]) fun pin=>?_;conv=>whnf
 repeat' first|(refine iG ?_ ?_<;>intro hb hc<;>first|exact yE|conv=>whnf)|(refine gqs ?_;conv=>whnf)|(refine gqm (x:=takeN R 1 h) (k:= ?_);conv=>whnf)|(refine yt ?_;conv=>whnf)|exact yK|fail
 ·rw[g2] at hc;exact absurd hc (by decide)
 ·rw[g2] at hc;exact absurd hc (by decide)
 rotate_left
 ·exact absurd g2 hc
 repeat' first|(refine iG ?_ ?_<;>intro hb hc<;>first|exact yE|conv=>whnf)|(refine gqp ?_;conv=>whnf)|(refine gqm (x:=hhd) (k:= ?_);conv=>whnf)|(refine gqm (x:=hcl2) (k:= ?_);conv=>whnf)|(refine gqm (x:=hbd) (k:= ?_);conv=>whnf)|(refine yt ?_;conv=>whnf)|exact yK|fail
 refine⟨[(1003,80)],[],?_,?_,rfl⟩<;>repeat' first|exact eN|apply zi
 exact fun _ _=>teqs_refl _
theorem namesK_O (R:RdE) (l:List FnE):ASpecM Tryz.prog 49 [.op 1000 0] (rdO R l) (.tup []) (rdO R l):=by
 refine ASpecM.enter TYok mixed Tryz.func49 rfl Tryz.call49 Tryz.ntmps49 rfl (rs:=[]) rfl (rdOClo rfl) rfl (keep:=[0,3,4,5,6,7,8,9,13,14,15,75,76,77]) fun pin=>?_;conv=>whnf
 repeat' first|(refine iG ?_ ?_<;>intro hb hc<;>first|exact yE|conv=>whnf)|(refine gqs ?_;conv=>whnf)|(refine yt ?_;conv=>whnf)|exact yK|fail
 refine lp [15] (fun q:Nat=>[.i .i64 q]) (fun q=>pinO pin (rdO R l)) (fun q=>q=0) (fun q=>1-q) 0 rfl ?_ fun q hq=>?_
 ·refine eP [] [] ?_ ?_<;>repeat' first|exact eN|apply zi
  exact fun _ _=>teqs_refl _
 subst hq
 conv=>whnf
 repeat' first|(refine iG ?_ ?_<;>intro hb hc<;>first|exact yE|conv=>whnf)|(refine gqs ?_;conv=>whnf)|(refine yt ?_;conv=>whnf)|exact yK|fail
 refine⟨[],[],?_,?_,rfl⟩<;>repeat' first|exact eN|apply zi
 exact fun _ _=>teqs_refl _
def lastT (s:ByteArray):TokE:=⟨6,⟨#[]⟩,1+(Lib.countByte s.data.toList 10:Nat),(s.size:Int)-Lib.lastIndexByte s 10⟩
theorem last_S (s:ByteArray) (hs:s.size<=65536) (h1:Lib.countByte s.data.toList 10<=65536) (h2: -1<=Lib.lastIndexByte s 10/\Lib.lastIndexByte s 10<=65536):ASpec Tryz.prog 45 [.s s] (eS (lastT s)) []:=by
 refine ASpec.enter TYok mixed Tryz.func45 rfl Tryz.call45 Tryz.ntmps45 rfl (rs:=[.cell 2 93]) rfl (nodupB_ok rfl) (Clo.one rfl) (keep:=[0,2]) ?_;conv=>whnf
 repeat' first|(refine iG ?_ ?_<;>intro hb hc<;>first|exact yE|conv=>whnf)|(refine gqs ?_;conv=>whnf)|(refine gqc (x:=fun _=>CountK_S s 10) (k:= ?_);conv=>whnf)|(refine gqc (x:=fun _=>LastByte_S s 10 (by omega)) (k:= ?_);conv=>whnf)|(refine yt ?_;conv=>whnf)|exact yK|fail
def rd0 (s:ByteArray) (l:List TokE):RdE:=⟨l,0,lastT s,⟨0,0,0⟩,0⟩
def parR (s:ByteArray) (l:List TokE) (N M:Nat):RdE:=closeF (topF (rd0 s l) N M).1
def parL (s:ByteArray) (l:List TokE) (N M:Nat):List FnE:=(topF (rd0 s l) N M).2
theorem tmClo {l:List FnE}:Clo (.tup [.agg [.nil,.nil,.orow 1003 4 0 l.length],eS (⟨0,0,0⟩:FltE)]) [(1003,oT l)]:=by
 refine⟨fun id hm=>?_,fun i ob h id hm=>?_⟩
 ·simp only[men,mens,Bool.or_false,Bool.false_or,eS] at hm
  have:=Nat.eq_of_beq_eq_true (Bool.or_false _▸hm)
  subst this;rfl
 ·rw[lk_cons] at h
  split at h
  ·cases h;cases hm
  ·simp[lk] at h
theorem Parse_S (s:ByteArray) (K N M:Nat) (c':CutE) (hK:K<=4294967) (hs:s.size<=65536) (h1:Lib.countByte s.data.toList 10<=65536) (h2: -1<=Lib.lastIndexByte s 10/\Lib.lastIndexByte s 10<=65536) (hr:runT s K cut0=some c') (hl:c'.out.length<4294967296) (hl0:0<c'.out.length)
  (hk:(nxt (rd0 s c'.out)).kind≠6) (hg:topG (rd0 s c'.out) N M=true) (hok:RdOk (topF (rd0 s c'.out) N M).1) (h0:(parR s c'.out N M).flt.code=0) (he:(parR s c'.out N M).l.length<=(parR s c'.out N M).i):
  ASpec Tryz.prog 23 [.s s] (.tup [.agg [.nil,.nil,.orow 1003 4 0 (parL s c'.out N M).length],eS (⟨0,0,0⟩:FltE)]) [(1003,oT (parL s c'.out N M))]:=by
 have r0:RdOk (rd0 s c'.out):=⟨hl,Nat.zero_le _,rfl⟩
 have htop:=top_N (rd0 s c'.out) N M r0 hg
 have hcl:=closeO (topF (rd0 s c'.out) N M).1 (topF (rd0 s c'.out) N M).2 hok
 have hnm:=namesK_O (parR s c'.out N M) (parL s c'.out N M)
 have hR:=hok.close
 rw[show closeF (topF (rd0 s c'.out) N M).1=parR s c'.out N M from rfl] at hcl hR
 rw[show(topF (rd0 s c'.out) N M).2=parL s c'.out N M from rfl] at htop hcl
 refine ASpec.enter TYok mixed Tryz.func23 rfl Tryz.call23 Tryz.ntmps23 rfl (rs:=[.cell 2 26,.cell 3 65]) rfl (nd1 _) (tmClo) (keep:=[0,2,3,4,5,6]) ?_;conv=>whnf
 repeat' first|(refine iG ?_ ?_<;>intro hb hc<;>first|exact yE|conv=>whnf)|(refine gqs ?_;conv=>whnf)|(refine gqc (x:=fun _=>Tokens_S s K c' hr hs hK) (k:= ?_);conv=>whnf)|(refine gqc (x:=fun _=>last_S s hs h1 h2) (k:= ?_);conv=>whnf)|(refine yt ?_;conv=>whnf)|exact yK|fail
 ·exact nomatch hb
 refine lp [6] (fun q:Nat=>[.op 1000 0]) (fun q=>(2,.box none none [.nil,.nil,.nil])::(3,bx (⟨0,0,0⟩:FltE))::(match q with|0=>rdN (rd0 s c'.out)|_+1=>rdO (parR s c'.out N M) (parL s c'.out N M))) (fun q=>q<=1) (fun q=>1-q) 0 (Nat.zero_le _) ?_ fun q hq=>?_
 ·refine eP [(1000,21)] [] ?_ ?_<;>repeat' first|exact eN|apply zi
 rcases q with _|_|q
 ·have f1:(rd0 s c'.out).i<(rd0 s c'.out).l.length:=hl0
  have f2:(rd0 s c'.out).flt.code=0:=rfl
  conv=>whnf
  repeat' first|(refine iG ?_ ?_<;>intro hb hc<;>first|exact yE|conv=>whnf)|(refine gqs ?_;conv=>whnf)|(refine gqc (x:=fun _=>next_S (rd0 s c'.out) _ r0) (k:= ?_);conv=>whnf)|(refine gqm (x:=htop) (k:= ?_);conv=>whnf)|(refine gqm (x:=hcl) (k:= ?_);conv=>whnf)|(refine yt ?_;conv=>whnf)|exact yK|fail
  refine .mk 1 (by omega) (by omega) ?_
  refine eP [] [] ?_ ?_<;>repeat' first|exact eN|apply zi
  all_goals exact fun _ _=>teqs_refl _
 ·conv=>whnf
  repeat' first|(refine iG ?_ ?_<;>intro hb hc<;>first|exact yE|conv=>whnf)|(refine gqs ?_;conv=>whnf)|(refine gqm (x:=hnm) (k:= ?_);conv=>whnf)|(refine yt ?_;conv=>whnf)|exact yK|fail
  refine⟨_,Gives.tup (Givess.cons (no1:=[(1003,oT (parL s c'.out N M))]) (no2:=[]) (Gives.agg (Givess.cons (no1:=[]) (no2:=[(1003,oT (parL s c'.out N M))]) (.keep rfl rfl) (Givess.cons (no1:=[]) (no2:=[(1003,oT (parL s c'.out N M))]) (.keep rfl rfl) (Givess.cons (no1:=[(1003,oT (parL s c'.out N M))]) (no2:=[]) (.giveT rfl rfl rfl (fun _ _=>teqs_refl _) rfl) Givess.nil ?_) ?_) ?_)) (Givess.cons (no1:=[]) (no2:=[]) (.keep rfl rfl) Givess.nil ?_) ?_)⟩
  all_goals simp
 ·omega
def liveS:ByteArray:=(⟨#[102,117,110,99,32,102,40,105,56,41,32,105,56,10,98,48,58,10,37,49,32,61,32,97,100,100,32,105,56,32,37,48,44,32,51,10,114,101,116,32,105,56,32,37,49,10,101,110,100,10]⟩:ByteArray)
def liveL:List TokE:=[⟨1,⟨#[102,117,110,99]⟩,1,1⟩,⟨1,⟨#[102]⟩,1,6⟩,⟨5,⟨#[40]⟩,1,7⟩,⟨1,⟨#[105,56]⟩,1,8⟩,⟨5,⟨#[41]⟩,1,10⟩,⟨1,⟨#[105,56]⟩,1,12⟩,⟨6,⟨#[]⟩,1,14⟩,⟨1,⟨#[98,48]⟩,2,1⟩,⟨5,⟨#[58]⟩,2,3⟩,⟨6,⟨#[]⟩,2,4⟩,⟨3,⟨#[49]⟩,3,1⟩,⟨5,⟨#[61]⟩,3,4⟩,⟨1,⟨#[97,100,100]⟩,3,6⟩,⟨1,⟨#[105,56]⟩,3,10⟩,⟨3,⟨#[48]⟩,3,13⟩,⟨5,⟨#[44]⟩,3,15⟩,⟨2,⟨#[51]⟩,3,17⟩,⟨6,⟨#[]⟩,3,18⟩,⟨1,⟨#[114,101,116]⟩,4,1⟩,⟨1,⟨#[105,56]⟩,4,5⟩,⟨3,⟨#[49]⟩,4,8⟩,⟨6,⟨#[]⟩,4,10⟩,⟨1,⟨#[101,110,100]⟩,5,1⟩,⟨6,⟨#[]⟩,5,4⟩]
theorem live_run:(runT liveS 100 cut0).map (·.out)=some liveL:=by decide+kernel
theorem live_top:topG (rd0 liveS liveL) 1 3=true:=by decide+kernel
def liveR:RdE:=parR liveS liveL 1 3
theorem live_end:liveR.flt.code=0/\liveR.l.length<=liveR.i:=by decide+kernel
def liveF:List FnE:=parL liveS liveL 1 3
theorem live_S:ASpec Tryz.prog 23 [.s liveS] (.tup [.agg [.nil,.nil,.orow 1003 4 0 liveF.length],eS (⟨0,0,0⟩:FltE)]) [(1003,oT liveF)]:=by
 obtain⟨c',h1,h2⟩: ∃c',runT liveS 100 cut0=some c'/\c'.out=liveL:=by
  have:=live_run
  cases e:runT liveS 100 cut0 with
  |none=>rw[e] at this;cases this
  |some c=>rw[e] at this;exact⟨c,rfl,Option.some.inj this⟩
 have h:=Parse_S liveS 100 1 3 c' (by decide) (by decide+kernel) (by decide+kernel) (by decide+kernel) h1
 rw[h2] at h
 exact h (by decide+kernel) (by decide+kernel) (by decide+kernel) live_top ⟨by decide+kernel,by decide+kernel,by decide+kernel⟩ live_end.1 live_end.2
theorem live_F:liveF=[⟨⟨#[102]⟩,[8],8,[⟨[⟨1,1,8,0,0,[⟨1,0,0⟩,⟨2,0,3⟩],[]⟩,⟨33,-1,8,0,0,[⟨1,1,0⟩],[]⟩]⟩]⟩]:=by decide+kernel
theorem nil_yes (W:World):(binOp .eql 20 .nilIface .nilIface).run Tryz.prog W= .ok (.bool true) W:=by kernel_rfl
theorem nil_no (W:World) (u:TypeId) (v:Value):(binOp .eql 20 (.iface u v) .nilIface).run Tryz.prog W= .ok (.bool false) W:=by kernel_rfl
theorem flt_yes (W:World) (v:Value):(Instr.typeAssert (.iface 72 v) 20 72 true).run Tryz.prog W= .ok (.tuple #[v,.bool true]) W:=by kernel_rfl
theorem catch_off (p q:Value) (w:World):
  CallsD Tryz.prog 25 #[p,q] .returning w fun e u' w'=>e= .returned (.tuple #[])/\u'= .returning/\w'=w:=by
 refine callsD_of_wpS Tryz.func25 rfl fun c₀ cs hu=>?_
 apply wpS_seq
 apply wpS_region
 simp[wpOpsS,go_sem,recoverD,hu,Tryz.ntmps25,Exit.thenS]
 refine wpS_of_wp ?_
 have h0:=nil_yes
 go_wp2
 cases c₀
 simp_all [bodyPostS,results,Tryz.results25]
def cbO (x y0 y1 y2:Int):Os:=[(1000,.box none (some 30) [.i .i64 x]),(1001,.box none (some 32) [.i .i64 y0,.i .i64 y1,.i .i64 y2])]
theorem catch_on {S:Nat->Prop} {β:Nat->Wt} {w:World} {p q v:Value} {x y0 y1 y2 c z0 z1 z2:Int} (hob:OB S β w (cbO x y0 y1 y2)) (hap: ∀k,S k->k∉feet (cbO x y0 y1 y2) β)
  (hus:rels S β w [.op 1000 0,.op 1001 0] [p,q]) (hv:rel S β w (.agg [.i .i64 c,.i .i64 z0,.i .i64 z1,.i .i64 z2]) v) (hvr:Rob S w Vr)
  {R:Ending->FrameMode->World->Prop} (hR: ∀r w' β',BelowX (feet (cbO x y0 y1 y2) β) w w'->(∀id ob,lk (cbO c z0 z1 z2) id=some ob->orel (fun k=>(S k\/w.heap.size<=k\/k∈feet (cbO x y0 y1 y2) β)/\k∉feet (cbO c z0 z1 z2) β') β' w' (β' id) ob)->(∀k∈feet (cbO c z0 z1 z2) β',(w.heap.size<=k\/k∈feet (cbO x y0 y1 y2) β)/\k<w'.heap.size)->(feet (cbO c z0 z1 z2) β').Nodup->((cbO c z0 z1 z2).map (·.1)).Nodup->
    (∀id ob,lk (cbO x y0 y1 y2) id=some ob->(false||isBox ob)=true->(lk (cbO c z0 z1 z2) id).isSome=true->β' id=β id)->R (.returned r) (.panicking [{ v:= .iface 72 v,recovered:=true}]) w'):
  CallsD Tryz.prog 25 #[p,q] (.panicking [{ v:= .iface 72 v,recovered:=false}]) w R:=by
 have hg0:=start_gam (n:=15) (N:=15) (pv:=fun _=>none) (ds:=[]) (hvr:=hvr) (hap:=hap) (a:= { tmps:=[p,q].toArray++Array.replicate (15-[p,q].toArray.size) undef,defers:=[]}) hob hus rfl (fun d hd=>absurd hd (Nat.not_lt_zero d)) (by decide) rfl rfl
 have hp15: ∀d,d<Nat.div 15 1048576->d<0:=fun d h=>h
 refine callsD_of_wpS Tryz.func25 rfl fun c₀ cs hu=>?_
 apply wpS_seq
 apply wpS_region
 simp[wpOpsS,go_sem,recoverD,hu,Tryz.ntmps25,Exit.thenS]
 refine wpS_of_wp ?_
 have h0:=nil_no
 have h1:=flt_yes
 iterate 25 go_step
 refine wp_cond_split (t:=true) (by simp[Act.eval,Array.replicate]) (fun _=>?_) (fun h=>nomatch h)
 refine runC_ok (n:=15) (E:=⟨15,S,w,feet (cbO x y0 y1 y2) β,hvr,hap,[],fun _=>none⟩) (T:=TY) (keep:=[0,1,3,10]) (Z:=noZ) TYok mixed (K:=endM TY [] (fun i=>(β i).foot.headD 0) (cbO x y0 y1 y2) (.tup []) (cbO c z0 z1 z2)) (s:=[(10,0,.agg [.i .i64 c,.i .i64 z0,.i .i64 z1,.i .i64 z2]),(0,0,.op 1000 0),(1,0,.op 1001 0)]) (o:=pinO (fun i=>(β i).foot.headD 0) (cbO x y0 y1 y2)) ?_ rfl noZ_ok (fun e s' o' hk β1 a1 w1 hg=>?_) β _ _ ?_
 ·conv=>whnf
  repeat' first|(refine iG ?_ ?_<;>intro hb hc<;>first|exact yE|conv=>whnf)|(refine gqs ?_;conv=>whnf)|(refine yt ?_;conv=>whnf)|exact yK|fail
  refine⟨[],[],trivial,?_,rfl⟩
  repeat' first|exact eN|apply zi
 ·cases e with
  |n=>
   obtain⟨u,β',h2,h3⟩:=ret_key (fx:=false) (fn:=Tryz.f25) TYok Tryz.results25 hob rfl rfl hg hk
   exact⟨hg.defers,_,rfl,u,h2,hR u w1 β' h3.1 h3.2.1 h3.2.2.1 h3.2.2.2.1 h3.2.2.2.2.1 h3.2.2.2.2.2.1.1⟩
  |r=>
   obtain⟨u,β',h2,h3⟩:=ret_key (fx:=false) (fn:=Tryz.f25) TYok Tryz.results25 hob rfl rfl hg hk
   exact⟨hg.defers,_,rfl,u,h2,hR u w1 β' h3.1 h3.2.1 h3.2.2.1 h3.2.2.2.1 h3.2.2.2.2.1 h3.2.2.2.2.2.1.1⟩
  |x i=>cases hk
 ·refine⟨?_,rfl,TbOk.nil,fun d c v' hl=>?_,hg0.objs,hg0.below,hg0.new,hg0.nodup,hg0.keys⟩
  ·exact⟨by simp,fun d hd=>absurd (hp15 d hd) (Nat.not_lt_zero d)⟩
  ·rw[lk_cons] at hl
   split at hl
   ·rename_i e;cases hl;subst e
    exact⟨v,by simp[tg,gv,lk],fun _=>flat_rel rfl hv⟩
   ·rw[lk_cons] at hl
    split at hl
    ·rename_i e;cases hl;subst e
     obtain⟨u,e1,e2⟩:=hg0.slots 0 0 _ rfl
     have e3:p=u:=by simpa[tg,gv,lk] using e1
     rw[<-e3] at e2
     exact⟨p,by simp[tg,gv,lk],e2⟩
    ·rw[lk_cons] at hl
     split at hl
     ·rename_i e;cases hl;subst e
      obtain⟨u,e1,e2⟩:=hg0.slots 1 0 _ rfl
      have e3:q=u:=by simpa[tg,gv,lk] using e1
      rw[<-e3] at e2
      exact⟨q,by simp[tg,gv,lk],e2⟩
     ·simp[lk] at hl
def kindB (s:ByteArray) (i:Int):Int:=if(s.size:Int)<=i then 0 else if(97<=byteAt s i/\byteAt s i<=122)\/byteAt s i=95 then 1 else if 48<=byteAt s i/\byteAt s i<=57 then 2 else 0
def runN (p:Nat->Bool):Nat->Nat->Nat
 |0,_=>0
 |f+1,j=>bif p j then runN p f (j+1)+1 else 0
theorem runN_eq {p:Nat->Bool}: ∀ {q f a:Nat},q<=f->(∀j,j<q->p (a+j)=true)->p (a+q)=false->runN p f a=q
 |0,0,a,_,_,_=>rfl
 |0,f+1,a,_,_,h=>by rw[runN,show p a=false from h];rfl
 |q+1,f+1,a,hf,hj,h=>by
  rw[runN,show p a=true from hj 0 (by omega),cond_true,runN_eq (q:=q) (by omega) (fun j h'=>by rw[show a+1+j=a+(j+1) by omega];exact hj _ (by omega)) (by rw[show a+1+q=a+(q+1) by omega];exact h)]
def kp (s:ByteArray) (j:Nat):Bool:= !decide (kindB s j=0)
def wordN (s:ByteArray) (i:Nat):Nat:=if kindB s i=1 then runN (kp s) s.size (i+1)+1 else 0
def Word (s:ByteArray):Bool:=decide (0<(s.size:Int))&&decide ((wordN s 0:Int)=s.size)
theorem irEnds_S (op:Int):ASpec Tryz.prog 21 [.i .i64 op] (.b (Ends op)) []:=by
 have e:Ends op=(decide (31<=op)&&decide (op<=34)):=by
  unfold Ends;rw[Bool.eq_iff_iff];simp only[Bool.or_eq_true,Bool.and_eq_true,decide_eq_true_eq];omega
 rw[e]
 refine ASpec.enter TYok mixed Tryz.func21 rfl Tryz.call21 Tryz.ntmps21 rfl (rs:=[.tmp 2]) rfl (nodupB_ok rfl) (Clo.one rfl) (keep:=[0,2]) ?_;conv=>whnf
 repeat' first|(refine iG ?_ ?_<;>intro hb hc<;>first|exact yE|conv=>whnf)|(refine gqs ?_;conv=>whnf)|(refine yt ?_;conv=>whnf)|exact yK|fail
theorem irResult_S (x:InsE):ASpec Tryz.prog 20 [eS x] (.i .i64 (Result x)) []:=by
 refine ASpec.enter TYok mixed Tryz.func20 rfl Tryz.call20 Tryz.ntmps20 rfl (rs:=[.tmp 2]) rfl (nodupB_ok rfl) (Clo.one rfl) (keep:=[0,1,2,3]) ?_;conv=>whnf
 repeat' first|(refine iG ?_ ?_<;>intro hb hc<;>first|exact yE|conv=>whnf)|(refine gqs ?_;conv=>whnf)|(refine yt ?_;conv=>whnf)|exact yK|fail
 all_goals exact⟨_,.keep (by(try simp only[pickB_or,pickB_and]);unfold Result;repeat' (first|rfl|omega|split|(simp_all;done))) rfl⟩
theorem mem_Code {f:FnE} {x:InsE×Plc} (h:x∈Code f): ∃b i:Nat,b<f.blocks.length/\i<(f.blocks.getD b Enc.d).code.length/\x=((f.blocks.getD b Enc.d).code.getD i Enc.d,⟨0,b,i⟩):=by
 simp only[Code,codeTo,pairs,List.range_zero,List.map_nil,List.append_nil,List.mem_flatMap,List.mem_map,List.mem_range] at h
 obtain⟨b,hb,i,hi,rfl⟩:=h
 exact⟨b,i,hb,hi,rfl⟩
theorem Def_mem {f:FnE} {reg:Int} (h:(Def f reg).2=true): ∃b i:Nat,b<f.blocks.length/\i<(f.blocks.getD b Enc.d).code.length/\(Def f reg).1=⟨0,b,i⟩:=by
 unfold Def at h⊢
 cases hq:(Code f).find? (dfP reg) with
 |none=>rw[hq] at h;cases h
 |some p=>
  obtain⟨b,i,hb,hi,rfl⟩:=mem_Code (List.mem_of_find?_eq_some hq)
  exact⟨b,i,hb,hi,rfl⟩
structure FaultE where
 code:Int
 at':Plc
 deriving DecidableEq
instance:Enc FaultE:=⟨fun x=>[.i .i64 x.code,.i .i64 x.at'.f,.i .i64 x.at'.b,.i .i64 x.at'.i],4,⟨0,⟨0,0,0⟩⟩⟩
theorem any_at {α:Type} {p:α->Bool} {l:List α} {q:Nat} (d:α) (hq:q<l.length) (h:p (l.getD q d)=true):l.any p=true:=by
 rw[List.getD_eq_getElem?_getD,List.getElem?_eq_getElem hq] at h
 exact List.any_eq_true.2 ⟨_,List.getElem_mem hq,h⟩
theorem any_no {α:Type} {p:α->Bool} {l:List α} (d:α) (h: ∀i,i<l.length->p (l.getD i d)=false):l.any p=false:=by
 rw[<-Bool.not_eq_true,List.any_eq_true]
 rintro ⟨x,hx,hp⟩
 obtain⟨i,hi,rfl⟩:=List.getElem_of_mem hx
 have:=h i hi
 rw[List.getD_eq_getElem?_getD,List.getElem?_eq_getElem hi] at this
 rw[show p l[i]=false from this] at hp;cases hp
def badP (most p:Int):Bool:=decide (p<1)||decide (most<p)
def headF (name:ByteArray) (known:List ByteArray) (params:List Int) (ret most:Int):Int:=
 if Word name=false then 4 else if(known.any fun k=>decide (k=name))=true then 5 else if 8<params.length then 6 else if params.any (badP most)=true then 7 else if ret<0\/most<ret then 7 else 0
def firstC (c:Nat->Int) (n:Nat):Option Nat:=(List.range n).find? fun i=>!decide (c i=0)
theorem range_getD {n i:Nat} (h:i<n):(List.range n).getD i 0=i:=by
 rw[List.getD_eq_getElem?_getD,List.getElem?_range h];rfl
theorem firstC_at {c:Nat->Int} {n q:Nat} (hq:q<n) (hv: ∀i,i<q->c i=0) (h:c q≠0):firstC c n=some q:=by
 unfold firstC
 rw[find_take 0 (q:=q) (by simpa using hq) (fun i hi=>by rw[range_getD (by omega),hv i hi];rfl) (by rw[range_getD hq];simp[h]),range_getD hq]
theorem firstC_no {c:Nat->Int} {n:Nat} (hv: ∀i,i<n->c i=0):firstC c n=none:=by
 unfold firstC
 exact find_no 0 fun i hi=>by rw[List.length_range] at hi;rw[range_getD hi,hv i hi];rfl
def varCode (m:ModE) (i:Nat):Int:=
 let x:=m.vars.getD i Enc.d
 if Word x.name=false then 4 else if((m.vars.take i).any fun y=>decide (y.name=x.name))=true then 5 else if x.size<1\/64<x.size then 6 else 0
def extCode (m:ModE) (i:Nat):Int:=
 let x:=m.exts.getD i Enc.d
 headF x.name ((m.exts.take i).map (·.name)) x.params x.ret 64
def fnCode (m:ModE) (i:Nat):Int:=
 let x:=m.funcs.getD i Enc.d
 headF x.name (m.exts.map (·.name)++(m.funcs.take i).map (·.name)) x.params x.ret 65
def headsF (m:ModE):FaultE:=
 if 8<m.vars.length\/8<m.exts.length\/8<m.funcs.length then⟨6,⟨-1,0,0⟩⟩ else
 match firstC (varCode m) m.vars.length with
 |some i=>⟨varCode m i,⟨-1,0,0⟩⟩
 |none=>match firstC (extCode m) m.exts.length with
  |some i=>⟨extCode m i,⟨-1,0,0⟩⟩
  |none=>match firstC (fnCode m) m.funcs.length with
   |some i=>⟨fnCode m i,⟨i,0,0⟩⟩
   |none=>⟨0,⟨0,0,0⟩⟩
theorem headsF_var {m:ModE} {q:Nat} (k1: ¬(8<m.vars.length\/8<m.exts.length\/8<m.funcs.length)) (hq:q<m.vars.length) (hv: ∀i,i<q->varCode m i=0) (h:varCode m q≠0):headsF m=⟨varCode m q,⟨-1,0,0⟩⟩:=by
 rw[headsF,if_neg k1,firstC_at hq hv h]
theorem headsF_ext {m:ModE} {q:Nat} (k1: ¬(8<m.vars.length\/8<m.exts.length\/8<m.funcs.length)) (k2:firstC (varCode m) m.vars.length=none) (hq:q<m.exts.length) (hv: ∀i,i<q->extCode m i=0) (h:extCode m q≠0):headsF m=⟨extCode m q,⟨-1,0,0⟩⟩:=by
 rw[headsF,if_neg k1,k2,firstC_at hq hv h]
theorem headsF_fn {m:ModE} {q:Nat} (k1: ¬(8<m.vars.length\/8<m.exts.length\/8<m.funcs.length)) (k2:firstC (varCode m) m.vars.length=none) (k3:firstC (extCode m) m.exts.length=none) (hq:q<m.funcs.length) (hv: ∀i,i<q->fnCode m i=0) (h:fnCode m q≠0):headsF m=⟨fnCode m q,⟨q,0,0⟩⟩:=by
 rw[headsF,if_neg k1,k2,k3,firstC_at hq hv h]
theorem take_any {α:Type} {p:α->Bool} {l:List α} {q k:Nat} (d:α) (hk:k<q) (hq:q<=l.length) (h:p (l.getD k d)=true):(l.take q).any p=true:=by
 refine any_at (q:=k) d (by rw[List.length_take];omega) ?_
 rwa [List.getD_eq_getElem?_getD,List.getElem?_take_of_lt hk,<-List.getD_eq_getElem?_getD]
theorem take_no {α:Type} {p:α->Bool} {l:List α} {q:Nat} (d:α) (h: ∀k,k<q->p (l.getD k d)=false):(l.take q).any p=false:=by
 refine any_no d fun i hi=>?_
 rw[List.length_take] at hi
 rw[List.getD_eq_getElem?_getD,List.getElem?_take_of_lt (by omega),<-List.getD_eq_getElem?_getD]
 exact h i (by omega)
def codeB (f:FnE) (b:Nat):List InsE:=(f.blocks.getD b Enc.d).code
def lastB (f:FnE) (b:Nat):InsE:=(codeB f b).getD (((codeB f b).length:Int)-1).toNat Enc.d
def earlyC (f:FnE) (b i:Nat):Int:=if Ends ((codeB f b).getD i Enc.d).op=true then 9 else 0
def toC (f:FnE) (b i:Nat):Int:=if(lastB f b).to.getD i Enc.d<1\/(f.blocks.length:Int)<=(lastB f b).to.getD i Enc.d then 8 else 0
def blkF (f:FnE) (n:Int) (b:Nat):FaultE:=
 if(codeB f b).length=0 then⟨9,⟨n,b,0⟩⟩ else if Ends (lastB f b).op=false then⟨9,⟨n,b,0⟩⟩ else
 match firstC (earlyC f b) ((codeB f b).length-1) with
 |some i=>⟨9,⟨n,b,i⟩⟩
 |none=>match firstC (toC f b) (lastB f b).to.length with
  |some i=>⟨8,⟨n,b,((codeB f b).length:Int)-1⟩⟩
  |none=>⟨0,⟨0,0,0⟩⟩
def blocksF (f:FnE) (n:Int):FaultE:=
 if f.blocks.length<1\/64<f.blocks.length\/400<(Code f).length then⟨6,⟨n,0,0⟩⟩ else
 match firstC (fun b=>(blkF f n b).code) f.blocks.length with
 |some b=>blkF f n b
 |none=>⟨0,⟨0,0,0⟩⟩
theorem blocksF_at {f:FnE} {n:Int} {b:Nat} {x:FaultE} (k1: ¬(f.blocks.length<1\/64<f.blocks.length\/400<(Code f).length)) (hb:b<f.blocks.length) (hv: ∀i,i<b->(blkF f n i).code=0) (h:blkF f n b=x) (hx:x.code≠0):blocksF f n=x:=by
 rw[blocksF,if_neg k1,firstC_at (c:=fun b=>(blkF f n b).code) hb hv (by rw[h];exact hx)];exact h
def TypeR (f:FnE) (reg:Int):Int:=if reg<0 then 0 else if reg<f.params.length then f.params.getD reg.toNat Enc.d else if(Def f reg).2=false then 0 else Result ((f.blocks.getD (Def f reg).1.b.toNat Enc.d).code.getD (Def f reg).1.i.toNat Enc.d)
def conv (op:Int):Bool:=decide (op=20)||decide (op=21)||decide (op=22)
def many (f:FnE) (x:InsE):Int×Int:=
 if x.op=23 then(3,0) else if x.op=25 then(x.args.length,x.args.length) else if x.op=30 then(x.args.length,0) else if x.op=26\/x.op=34 then(0,0)
 else if x.op=31 then(0,1) else if x.op=32 then(1,2) else if x.op=20\/x.op=21\/x.op=22\/x.op=24\/x.op=27 then(1,0)
 else if x.op=33 then(if f.ret=0 then(0,0) else(1,0)) else if 1<=x.op/\x.op<=29 then(2,0) else(-1,-1)
def typedF (m:ModE) (f:FnE) (x:InsE):Int:=
 if conv x.op=true then(if(Convert x.op x.n x.t 0).2=false then 7 else 0)
 else if x.op=30 then(if(Callee m x.n).2.2=false then 4 else if(Callee m x.n).2.1≠x.t then 7 else if(Callee m x.n).1.length≠x.args.length then 13 else 0)
 else if x.op=33 then(if x.t≠f.ret then 7 else 0)
 else if x.op=26\/x.op=29\/x.op=31\/x.op=32\/x.op=34 then 0
 else if x.op<=13\/(16<=x.op/\x.op<=19) then(if x.t<1\/64<x.t then 7 else 0)
 else if x.t<1\/65<x.t then 7 else 0
def operandF (m:ModE) (f:FnE) (v:Opd) (want:Int):Int:=
 if v.k=1 then(if v.b≠0 then 15 else if v.n<=4095 then(if TypeR f v.n=0 then 10 else if TypeR f v.n≠want then 7 else 0) else 10)
 else if v.k=2 then(if v.n≠0 then 15 else if want=65\/Mask want<v.b then 7 else 0)
 else if v.k=3\/v.k=4 then(if v.n≠0\/v.b≠0 then 15 else if v.k=4/\want≠65 then 7 else 0)
 else if v.k=5 then(if v.b≠0 then 15 else if v.n<0\/m.vars.length<=v.n then 4 else if want≠65 then 7 else 0)
 else 15
def formedF (f:FnE) (x:InsE) (b:Int):Bool:=
 if(many f x).1≠x.args.length\/(many f x).2≠x.to.length then false
 else if¬(decide (Result x=0)=decide (x.reg= -1)) then false
 else if x.n≠0/\conv x.op=false/\x.op≠26/\x.op≠30 then false
 else if x.op=26 then(decide (b=0)&&decide (x.t=65)&&decide (1<=x.n)&&decide (x.n<=64))
 else if x.op=29 then decide (x.t=65)
 else if x.op=31\/x.op=32\/x.op=34 then decide (x.t=0) else true
def wantedF (m:ModE) (x:InsE) (k:Int):Int:=
 if conv x.op=true then x.n else if(x.op=23/\k=0)\/x.op=32 then 1
 else if x.op=27\/(x.op=28/\k=1)\/(x.op=29/\k=0) then 65 else if x.op=29 then 64
 else if x.op=30 then(Callee m x.n).1.getD k.toNat Enc.d else x.t
def C1 (f:FnE):List InsE:=(Code f).map Prod.fst
def C2 (f:FnE):List Plc:=(Code f).map Prod.snd
theorem C1_len (f:FnE):(C1 f).length=(Code f).length:=List.length_map _
theorem C2_len (f:FnE):(C2 f).length=(Code f).length:=List.length_map _
theorem Code_C (d d':Nat) (hd:d≠d') (f:FnE) (hs:siz f<4294967296):ASpec Tryz.prog 42 [eS f] (.tup [.orow d 7 0 (C1 f).length,.orow d' 3 0 (C2 f).length]) [(d,oL (C1 f)),(d',oL (C2 f))]:=Code_S d d' hd f hs
def regF (f:FnE) (n:Int) (i:Nat):FaultE:=
 if Result ((C1 f).getD i Enc.d)=0 then⟨0,⟨0,0,0⟩⟩
 else if((C1 f).getD i Enc.d).reg<f.params.length\/4095<((C1 f).getD i Enc.d).reg then⟨10,⟨n,((C2 f).getD i Enc.d).b,((C2 f).getD i Enc.d).i⟩⟩
 else if(Def f ((C1 f).getD i Enc.d).reg).1≠(C2 f).getD i Enc.d then⟨5,⟨n,((C2 f).getD i Enc.d).b,((C2 f).getD i Enc.d).i⟩⟩ else⟨0,⟨0,0,0⟩⟩
def firstF (c:Nat->FaultE) (n:Nat):FaultE:=match firstC (fun i=>(c i).code) n with
 |some i=>c i
 |none=>⟨0,⟨0,0,0⟩⟩
theorem firstF_at {c:Nat->FaultE} {n q:Nat} {x:FaultE} (hq:q<n) (hv: ∀i,i<q->(c i).code=0) (h:c q=x) (hx:x.code≠0):firstF c n=x:=by
 rw[firstF,firstC_at (c:=fun i=>(c i).code) hq hv (by rw[h];exact hx)];exact h
theorem firstF_no {c:Nat->FaultE} {n:Nat} (hv: ∀i,i<n->(c i).code=0):firstF c n=⟨0,⟨0,0,0⟩⟩:=by
 rw[firstF,firstC_no hv]
def registersF (f:FnE) (n:Int):FaultE:=firstF (regF f n) (Code f).length
abbrev at2 (f:FnE) (n c:Int) (i:Nat):FaultE:=⟨c,⟨n,((C2 f).getD i Enc.d).b,((C2 f).getD i Enc.d).i⟩⟩
def formC (m:ModE) (f:FnE) (n:Int) (i:Nat):FaultE:=
 if formedF f ((C1 f).getD i Enc.d) ((C2 f).getD i Enc.d).b=false then at2 f n 15 i
 else if bits .andNot .i64 ((C1 f).getD i Enc.d).f (Flags ((C1 f).getD i Enc.d).op)≠0 then at2 f n 14 i
 else at2 f n (typedF m f ((C1 f).getD i Enc.d)) i
def formsF (m:ModE) (f:FnE) (n:Int):FaultE:=firstF (formC m f n) (Code f).length
theorem Code_mem {f:FnE} {p:InsE×Plc} (h:p∈Code f): ∃b k:Nat,b<f.blocks.length/\k<(f.blocks.getD b Enc.d).code.length/\p=((f.blocks.getD b Enc.d).code.getD k Enc.d,⟨0,b,k⟩):=by
 unfold Code codeTo at h
 rw[List.mem_append] at h
 rcases h with h|h
 ·obtain⟨b,hb,h⟩:=List.mem_flatMap.1 h
  unfold pairs at h
  obtain⟨k,hk,rfl⟩:=List.mem_map.1 h
  exact⟨b,k,List.mem_range.1 hb,List.mem_range.1 hk,rfl⟩
 ·unfold pairs at h
  simp at h
theorem Code_get {f:FnE} {q:Nat} (hq:q<(Code f).length): ∃b k:Nat,b<f.blocks.length/\k<(f.blocks.getD b Enc.d).code.length/\(C1 f).getD q Enc.d=(f.blocks.getD b Enc.d).code.getD k Enc.d/\(C2 f).getD q Enc.d=⟨0,b,k⟩:=by
 obtain⟨b,k,h1,h2,h3⟩:=Code_mem (List.getElem_mem hq)
 have e:(Code f).getD q noP=(Code f)[q]:=by rw[List.getD_eq_getElem?_getD,List.getElem?_eq_getElem hq];rfl
 refine⟨b,k,h1,h2,?_,?_⟩
 ·rw[C1,getD_map Prod.fst (Code f) q noP Enc.d rfl,e,h3]
 ·rw[C2,getD_map Prod.snd (Code f) q noP Enc.d rfl,e,h3]
def oprC (m:ModE) (f:FnE) (x:InsE) (k:Nat):Int:=operandF m f (x.args.getD k Enc.d) (wantedF m x k)
def opsC (m:ModE) (f:FnE) (n:Int) (i:Nat):FaultE:=match firstC (oprC m f ((C1 f).getD i Enc.d)) ((C1 f).getD i Enc.d).args.length with
 |some k=>at2 f n (oprC m f ((C1 f).getD i Enc.d) k) i
 |none=>⟨0,⟨0,0,0⟩⟩
def operandsF (m:ModE) (f:FnE) (n:Int):FaultE:=firstF (opsC m f n) (Code f).length
def sucStep (n:Int) (l:List Int) (t:Int):List Int:=bif decide (0<=t)&&decide (t<n)&& !l.contains t then l++[t] else l
def Succs (f:FnE) (b:Int):List Int:=
 if b<0\/(f.blocks.length:Int)<=b then[] else
 let c:=(f.blocks.getD b.toNat Enc.d).code
 if c.length=0 then[] else
 let x:=c.getD ((c.length:Int)-1).toNat Enc.d
 if x.op≠31/\x.op≠32 then[] else x.to.foldl (sucStep f.blocks.length) []
theorem sucStep_len (n:Int): ∀(l a:List Int),(l.foldl (sucStep n) a).length<=a.length+l.length
 |[],a=>Nat.le_refl _
 |t::l,a=>by
  have h:=sucStep_len n l (sucStep n a t)
  have:(sucStep n a t).length<=a.length+1:=by
   unfold sucStep;cases decide (0<=t)&&decide (t<n)&& !a.contains t
   ·exact Nat.le_succ _
   ·rw[cond_true,List.length_append];exact Nat.le_refl _
  rw[List.foldl_cons,List.length_cons];omega
theorem sucStep_mem {n:Int}: ∀ {l a:List Int},(∀x∈a,0<=x/\x<n)-> ∀x∈l.foldl (sucStep n) a,0<=x/\x<n
 |[],a,h,x,hx=>h x hx
 |t::l,a,h,x,hx=>by
  rw[List.foldl_cons] at hx
  refine sucStep_mem (l:=l) (fun y hy=>?_) x hx
  unfold sucStep at hy
  by_cases hc:(decide (0<=t)&&decide (t<n)&& !a.contains t)=true
  ·rw[hc,cond_true,List.mem_append] at hy
   rcases hy with hy|hy
   ·exact h y hy
   ·rw[List.mem_singleton] at hy;subst hy
    simp only[Bool.and_eq_true,decide_eq_true_eq] at hc
    exact⟨hc.1.1,hc.1.2⟩
  ·rw[Bool.not_eq_true] at hc
   rw[hc,cond_false] at hy;exact h y hy
theorem sucStep_nd {n:Int}: ∀ {l a:List Int},a.Nodup->(l.foldl (sucStep n) a).Nodup
 |[],a,h=>h
 |t::l,a,h=>by
  rw[List.foldl_cons]
  refine sucStep_nd (l:=l) ?_
  unfold sucStep
  by_cases hc:(decide (0<=t)&&decide (t<n)&& !a.contains t)=true
  ·rw[hc,cond_true]
   simp only[Bool.and_eq_true,Bool.not_eq_true',List.contains_eq_mem,decide_eq_false_iff_not] at hc
   exact List.nodup_append.2 ⟨h,by simp,fun x hx y hy e=>by rw[List.mem_singleton] at hy;subst hy;subst e;exact hc.2 hx⟩
  ·rw[Bool.not_eq_true] at hc
   rw[hc,cond_false];exact h
theorem Succs_mem {f:FnE} {b x:Int} (h:x∈Succs f b):0<=x/\x<f.blocks.length:=by
 unfold Succs at h
 dsimp only at h
 split at h
 ·cases h
 ·split at h
  ·cases h
  ·split at h
   ·cases h
   ·exact sucStep_mem (fun y hy=>by cases hy) x h
theorem Succs_nd (f:FnE) (b:Int):(Succs f b).Nodup:=by
 unfold Succs
 dsimp only
 split
 ·exact List.nodup_nil
 ·split
  ·exact List.nodup_nil
  ·split
   ·exact List.nodup_nil
   ·exact sucStep_nd List.nodup_nil
def cnt (f:FnE) (t:Int) (k:Nat):List Int:=(List.range k).flatMap fun c:Nat=>List.replicate ((Succs f (c:Int)).count t) (c:Int)
def prow (f:FnE) (b i:Nat) (t:Int):List Int:=cnt f t b++List.replicate (((Succs f b).take i).count t) (b:Int)
theorem cnt_len (f:FnE) (t:Int): ∀k,(cnt f t k).length<=k
 |0=>Nat.le_refl _
 |k+1=>by
  have h:=cnt_len f t k
  have h2:(Succs f k).count t<=1:=List.nodup_iff_count.1 (Succs_nd f k) t
  unfold cnt at h⊢
  rw[List.range_succ,List.flatMap_append,List.length_append]
  simp only[List.flatMap_cons,List.flatMap_nil,List.append_nil,List.length_replicate]
  omega
theorem prow_len (f:FnE) (b i:Nat) (t:Int):(prow f b i t).length<=b+1:=by
 have h:=cnt_len f t b
 have h2:(Succs f b).count t<=1:=List.nodup_iff_count.1 (Succs_nd f b) t
 have h3:((Succs f b).take i).count t<=(Succs f b).count t:=(List.take_sublist i _).count_le t
 unfold prow
 rw[List.length_append,List.length_replicate]
 omega
theorem prow_zero (f:FnE) (b:Nat) (t:Int):prow f b 0 t=cnt f t b:=by
 unfold prow;simp
theorem prow_all (f:FnE) (b i:Nat) (t:Int) (h:(Succs f b).length<=i):prow f b i t=cnt f t (b+1):=by
 unfold prow cnt
 rw[List.take_of_length_le h,List.range_succ,List.flatMap_append]
 simp
theorem prow_succ (f:FnE) (b i:Nat) (t:Int) (h:i<(Succs f b).length):prow f b (i+1) t=if t=(Succs f b)[i] then prow f b i t++[(b:Int)] else prow f b i t:=by
 unfold prow
 rw[List.take_add_one,List.getElem?_eq_getElem h,List.count_append]
 simp only[Option.toList_some,List.count_singleton,beq_iff_eq]
 by_cases hc:t=(Succs f b)[i]
 ·subst hc;simp[List.replicate_succ',List.append_assoc]
 ·have: ¬(Succs f b)[i]=t:=fun e=>hc e.symm
  simp[hc,this]
theorem Succs_len (f:FnE) (b:Int):(Succs f b).length<=siz f:=by
 unfold Succs
 dsimp only
 split
 ·exact Nat.zero_le _
 ·split
  ·exact Nat.zero_le _
  ·split
   ·exact Nat.zero_le _
   ·refine Nat.le_trans (sucStep_len _ _ _) ?_
    rw[List.length_nil,Nat.zero_add]
    exact Nat.le_trans (to_le _) (ins_le f _ _)
def PredsL (f:FnE):List (List Int):=(List.range f.blocks.length).map fun t:Nat=>cnt f t f.blocks.length
def phiOk (f:FnE) (i k:Nat):Bool:=(decide (¬((C2 f).getD i Enc.d).b=0)&&decide (((C1 f).getD i Enc.d).to=(PredsL f).getD ((C2 f).getD i Enc.d).b.toNat Enc.d))&&(List.range k).all fun j=>decide (((f.blocks.getD ((C2 f).getD i Enc.d).b.toNat Enc.d).code.getD j Enc.d).op=25)
def phiC (f:FnE) (n:Int) (i:Nat):FaultE:=
 if¬((C1 f).getD i Enc.d).op=25 then⟨0,⟨0,0,0⟩⟩ else if phiOk f i ((C2 f).getD i Enc.d).i.toNat=false then at2 f n 12 i else⟨0,⟨0,0,0⟩⟩
def phisF (f:FnE) (n:Int):FaultE:=firstF (phiC f n) (Code f).length
end Go.Proofs.YtnfdieeaelhpbaaGreatDoor
