/- The reference's Lower (layer 1), walked by hand. -/
import Derived.Test.YtfggjdkccdkogaaGreatDoorProg
import Derived.Test.YtfggjdkccdkogaaGreatDoorRows
import Derived.Test.YtfggjdkccdkogaaGreatDoorWMore
import Derived.Shelf.Strconv.Atoi
import Derived.Shelf.Strconv.Itoa0
import Derived.Shelf.Strconv.Itoa1
import Derived.Shelf.LaysM
import Derived.Shelf.Strconv.Itoa2
import Derived.Shelf.Strconv.Itoa3
import Derived.Shelf.Strconv.AtoiErrFast
import Derived.Shelf.Strconv.ParseIntEmpty
import Derived.Shelf.Strconv.AtoiFail
import Derived.Shelf.Strconv.Clone
import Derived.Shelf.Strconv.SyntaxError
import Derived.Shelf.LaysC
import Derived.Shelf.Strconv.ToError
import Derived.Shelf.Strconv.Lower
import Derived.Shelf.Strconv.ParseUint10
import Derived.Shelf.Strconv.ParseUint10Empty
import Derived.Shelf.Strconv.ParseUint10Any
import Derived.Shelf.Strconv.ParseInt10
import Derived.Shelf.Strconv.AtoiLong
import Derived.Shelf.Strconv.AtoiInnerAll
import Derived.Shelf.Strconv.RangeError
import Derived.Shelf.Strconv.ToErrorRange
import Derived.Shelf.Strconv.AtoiAll
import Derived.Shelf.Strconv.ErrVarAll
import Derived.Shelf.Strings.Search1
import Derived.Shelf.Strings.Search2
import Derived.Shelf.Strings.Search3
import Derived.Shelf.Strings.Count
import Derived.Shelf.Strings.Shaped
import Derived.Shelf.Strings.Split
import Derived.Shelf.Strings.SplitShaped
import Derived.Shelf.Unicode.DecodeSlow
import Derived.Shelf.Unicode.DecodeAny
import Derived.Lib.SmallJoins
import Derived.Lib.AppendIntMem
import Derived.Lib.AtoiErrMem
import Derived.Lib.LaidTab
import Derived.Stop.LaidErr
import Derived.LoopTactic
section
namespace Go.Proofs
open Shelf
def Tryz.Ox:Go.Shelf.Ren:=⟨λ|171=>133|243=>144|246=>153|283=>158|284=>159|285=>160|286=>161|129=>163|317=>162|318=>164|319=>165|320=>166|337=>167|338=>168|n=>n,λ|3=>3|9=>9|2=>2|4=>4|171=>188|0=>0|53=>71|37=>67|5=>5|173=>191|212=>194|51=>66|20=>20|213=>195|46=>109|232=>199|233=>200|n=>n,λ|17=>5|18=>6|19=>7|n=>n⟩
theorem Tryz.Ux:Go.Proofs.LaysM.n171 Tryz.prog Tryz.Ox:={
 mixed:=by kernel_rfl
 f129:=Tryz.func163.trans (congrArg some (by kernel_rfl))
 f171:=Tryz.func133.trans (congrArg some (by kernel_rfl))
 f243:=Tryz.func144.trans (congrArg some (by kernel_rfl))
 f246:=Tryz.func153.trans (congrArg some (by kernel_rfl))
 f283:=Tryz.func158.trans (congrArg some (by kernel_rfl))
 f284:=Tryz.func159.trans (congrArg some (by kernel_rfl))
 f285:=Tryz.func160.trans (congrArg some (by kernel_rfl))
 f286:=Tryz.func161.trans (congrArg some (by kernel_rfl))
 f317:=Tryz.func162.trans (congrArg some (by kernel_rfl))
 f318:=Tryz.func164.trans (congrArg some (by kernel_rfl))
 f319:=Tryz.func165.trans (congrArg some (by kernel_rfl))
 f320:=Tryz.func166.trans (congrArg some (by kernel_rfl))
 f337:=Tryz.func167.trans (congrArg some (by kernel_rfl))
 f338:=Tryz.func168.trans (congrArg some (by kernel_rfl))
 t0:=Tryz.underlying0
 a0:=Tryz.isAgg0
 z0:=Tryz.sizeOf0
 v0:=Tryz.zeroValue0
 t2:=Tryz.underlying2
 a2:=Tryz.isAgg2
 z2:=Tryz.sizeOf2
 v2:=Tryz.zeroValue2
 t3:=Tryz.underlying3
 a3:=Tryz.isAgg3
 z3:=Tryz.sizeOf3
 v3:=Tryz.zeroValue3
 t4:=Tryz.underlying4
 a4:=Tryz.isAgg4
 z4:=Tryz.sizeOf4
 v4:=Tryz.zeroValue4
 t5:=Tryz.underlying5
 a5:=Tryz.isAgg5
 z5:=Tryz.sizeOf5
 v5:=Tryz.zeroValue5
 t9:=Tryz.underlying9
 a9:=Tryz.isAgg9
 z9:=Tryz.sizeOf9
 v9:=Tryz.zeroValue9
 t20:=Tryz.underlying20
 a20:=Tryz.isAgg20
 z20:=Tryz.sizeOf20
 v20:=Tryz.zeroValue20
 t37:=Tryz.underlying67
 a37:=Tryz.isAgg67
 z37:=Tryz.sizeOf67
 v37:=Tryz.zeroValue67
 t46:=Tryz.underlying109
 a46:=Tryz.isAgg109
 z46:=Tryz.sizeOf109
 v46:=Tryz.zeroValue109
 t51:=Tryz.underlying66
 a51:=Tryz.isAgg66
 z51:=Tryz.sizeOf66
 v51:=Tryz.zeroValue66
 t53:=Tryz.underlying71
 a53:=Tryz.isAgg71
 z53:=Tryz.sizeOf71
 v53:=Tryz.zeroValue71
 t171:=Tryz.underlying188
 a171:=Tryz.isAgg188
 z171:=Tryz.sizeOf188
 v171:=Tryz.zeroValue188
 t173:=Tryz.underlying191
 a173:=Tryz.isAgg191
 z173:=Tryz.sizeOf191
 v173:=Tryz.zeroValue191
 t212:=Tryz.underlying194
 a212:=Tryz.isAgg194
 z212:=Tryz.sizeOf194
 v212:=Tryz.zeroValue194
 t213:=Tryz.underlying195
 a213:=Tryz.isAgg195
 z213:=Tryz.sizeOf195
 t232:=Tryz.underlying199
 a232:=Tryz.isAgg199
 z232:=Tryz.sizeOf199
 v232:=Tryz.zeroValue199
 t233:=Tryz.underlying200
 a233:=Tryz.isAgg200
 z233:=Tryz.sizeOf200
 v233:=Tryz.zeroValue200
 g17:=by kernel_rfl
 g18:=by kernel_rfl
 g19:=by kernel_rfl
 i0:=by kernel_rfl
 i2:=by kernel_rfl
 i3:=by kernel_rfl
 i4:=by kernel_rfl
 i5:=by kernel_rfl
 i9:=by kernel_rfl
 i20:=by kernel_rfl
 i37:=by kernel_rfl
 i46:=by kernel_rfl
 i51:=by kernel_rfl
 i53:=by kernel_rfl
 i171:=by kernel_rfl
 i173:=by kernel_rfl
 i212:=by kernel_rfl
 i232:=by kernel_rfl
 i233:=by kernel_rfl
 m17:=by kernel_rfl
 m18:=by kernel_rfl
 m19:=by kernel_rfl}
def Tryz.Oy:Go.Shelf.Ren:=⟨λ|172=>123|244=>131|245=>132|247=>139|279=>140|280=>141|281=>142|282=>143|287=>150|316=>151|171=>133|205=>152|321=>156|322=>157|243=>144|246=>153|283=>158|284=>159|285=>160|286=>161|129=>163|317=>162|318=>164|319=>165|320=>166|337=>167|338=>168|n=>n,λ|9=>9|3=>3|75=>155|76=>156|4=>4|5=>5|167=>165|37=>67|0=>0|85=>166|2=>2|168=>168|53=>71|175=>171|46=>109|210=>174|127=>184|145=>187|143=>185|21=>21|171=>188|173=>191|212=>194|51=>66|20=>20|213=>195|232=>199|233=>200|80=>201|n=>n,λ|15=>1|16=>2|17=>5|18=>6|19=>7|n=>n⟩
theorem Tryz.Mj:Go.Proofs.LaysC.n172 Tryz.prog Tryz.Oy:={
 mixed:=by kernel_rfl
 f129:=Tryz.func163.trans (congrArg some (by kernel_rfl))
 f171:=Tryz.func133.trans (congrArg some (by kernel_rfl))
 f172:=Tryz.func123.trans (congrArg some (by kernel_rfl))
 f205:=Tryz.func152.trans (congrArg some (by kernel_rfl))
 f243:=Tryz.func144.trans (congrArg some (by kernel_rfl))
 f244:=Tryz.func131.trans (congrArg some (by kernel_rfl))
 f245:=Tryz.func132.trans (congrArg some (by kernel_rfl))
 f246:=Tryz.func153.trans (congrArg some (by kernel_rfl))
 f247:=Tryz.func139.trans (congrArg some (by kernel_rfl))
 f279:=Tryz.func140.trans (congrArg some (by kernel_rfl))
 f280:=Tryz.func141.trans (congrArg some (by kernel_rfl))
 f281:=Tryz.func142.trans (congrArg some (by kernel_rfl))
 f282:=Tryz.func143.trans (congrArg some (by kernel_rfl))
 f283:=Tryz.func158.trans (congrArg some (by kernel_rfl))
 f284:=Tryz.func159.trans (congrArg some (by kernel_rfl))
 f285:=Tryz.func160.trans (congrArg some (by kernel_rfl))
 f286:=Tryz.func161.trans (congrArg some (by kernel_rfl))
 f287:=Tryz.func150.trans (congrArg some (by kernel_rfl))
 f316:=Tryz.func151.trans (congrArg some (by kernel_rfl))
 f317:=Tryz.func162.trans (congrArg some (by kernel_rfl))
 f318:=Tryz.func164.trans (congrArg some (by kernel_rfl))
 f319:=Tryz.func165.trans (congrArg some (by kernel_rfl))
 f320:=Tryz.func166.trans (congrArg some (by kernel_rfl))
 f321:=Tryz.func156.trans (congrArg some (by kernel_rfl))
 f322:=Tryz.func157.trans (congrArg some (by kernel_rfl))
 f337:=Tryz.func167.trans (congrArg some (by kernel_rfl))
 f338:=Tryz.func168.trans (congrArg some (by kernel_rfl))
 t0:=Tryz.underlying0
 a0:=Tryz.isAgg0
 z0:=Tryz.sizeOf0
 v0:=Tryz.zeroValue0
 t2:=Tryz.underlying2
 a2:=Tryz.isAgg2
 z2:=Tryz.sizeOf2
 v2:=Tryz.zeroValue2
 t3:=Tryz.underlying3
 a3:=Tryz.isAgg3
 z3:=Tryz.sizeOf3
 v3:=Tryz.zeroValue3
 t4:=Tryz.underlying4
 a4:=Tryz.isAgg4
 z4:=Tryz.sizeOf4
 v4:=Tryz.zeroValue4
 t5:=Tryz.underlying5
 a5:=Tryz.isAgg5
 z5:=Tryz.sizeOf5
 v5:=Tryz.zeroValue5
 t9:=Tryz.underlying9
 a9:=Tryz.isAgg9
 z9:=Tryz.sizeOf9
 v9:=Tryz.zeroValue9
 t20:=Tryz.underlying20
 a20:=Tryz.isAgg20
 z20:=Tryz.sizeOf20
 v20:=Tryz.zeroValue20
 t21:=Tryz.underlying21
 a21:=Tryz.isAgg21
 z21:=Tryz.sizeOf21
 v21:=Tryz.zeroValue21
 t37:=Tryz.underlying67
 a37:=Tryz.isAgg67
 z37:=Tryz.sizeOf67
 v37:=Tryz.zeroValue67
 t46:=Tryz.underlying109
 a46:=Tryz.isAgg109
 z46:=Tryz.sizeOf109
 v46:=Tryz.zeroValue109
 t51:=Tryz.underlying66
 a51:=Tryz.isAgg66
 z51:=Tryz.sizeOf66
 v51:=Tryz.zeroValue66
 t53:=Tryz.underlying71
 a53:=Tryz.isAgg71
 z53:=Tryz.sizeOf71
 v53:=Tryz.zeroValue71
 t75:=Tryz.underlying155
 a75:=Tryz.isAgg155
 z75:=Tryz.sizeOf155
 v75:=Tryz.zeroValue155
 t76:=Tryz.underlying156
 a76:=Tryz.isAgg156
 z76:=Tryz.sizeOf156
 v76:=Tryz.zeroValue156
 t85:=Tryz.underlying166
 a85:=Tryz.isAgg166
 z85:=Tryz.sizeOf166
 v85:=Tryz.zeroValue166
 t127:=Tryz.underlying184
 a127:=Tryz.isAgg184
 z127:=Tryz.sizeOf184
 v127:=Tryz.zeroValue184
 t143:=Tryz.underlying185
 a143:=Tryz.isAgg185
 z143:=Tryz.sizeOf185
 v143:=Tryz.zeroValue185
 t145:=Tryz.underlying187
 a145:=Tryz.isAgg187
 z145:=Tryz.sizeOf187
 v145:=Tryz.zeroValue187
 t167:=Tryz.underlying165
 a167:=Tryz.isAgg165
 z167:=Tryz.sizeOf165
 v167:=Tryz.zeroValue165
 t168:=Tryz.underlying168
 a168:=Tryz.isAgg168
 z168:=Tryz.sizeOf168
 v168:=Tryz.zeroValue168
 t171:=Tryz.underlying188
 a171:=Tryz.isAgg188
 z171:=Tryz.sizeOf188
 v171:=Tryz.zeroValue188
 t173:=Tryz.underlying191
 a173:=Tryz.isAgg191
 z173:=Tryz.sizeOf191
 v173:=Tryz.zeroValue191
 t175:=Tryz.underlying171
 a175:=Tryz.isAgg171
 z175:=Tryz.sizeOf171
 v175:=Tryz.zeroValue171
 t210:=Tryz.underlying174
 a210:=Tryz.isAgg174
 z210:=Tryz.sizeOf174
 v210:=Tryz.zeroValue174
 t212:=Tryz.underlying194
 a212:=Tryz.isAgg194
 z212:=Tryz.sizeOf194
 v212:=Tryz.zeroValue194
 t213:=Tryz.underlying195
 a213:=Tryz.isAgg195
 z213:=Tryz.sizeOf195
 t232:=Tryz.underlying199
 a232:=Tryz.isAgg199
 z232:=Tryz.sizeOf199
 v232:=Tryz.zeroValue199
 t233:=Tryz.underlying200
 a233:=Tryz.isAgg200
 z233:=Tryz.sizeOf200
 v233:=Tryz.zeroValue200
 g15:=by kernel_rfl
 g16:=by kernel_rfl
 g17:=by kernel_rfl
 g18:=by kernel_rfl
 g19:=by kernel_rfl
 t80:=Tryz.underlying201
 a80:=Tryz.isAgg201
 z80:=Tryz.sizeOf201
 v80:=Tryz.zeroValue201
 i0:=by kernel_rfl
 i2:=by kernel_rfl
 i3:=by kernel_rfl
 i4:=by kernel_rfl
 i5:=by kernel_rfl
 i9:=by kernel_rfl
 i20:=by kernel_rfl
 i21:=by kernel_rfl
 i37:=by kernel_rfl
 i46:=by kernel_rfl
 i51:=by kernel_rfl
 i53:=by kernel_rfl
 i75:=by kernel_rfl
 i76:=by kernel_rfl
 i80:=by kernel_rfl
 i85:=by kernel_rfl
 i127:=by kernel_rfl
 i143:=by kernel_rfl
 i145:=by kernel_rfl
 i167:=by kernel_rfl
 i168:=by kernel_rfl
 i171:=by kernel_rfl
 i173:=by kernel_rfl
 i175:=by kernel_rfl
 i210:=by kernel_rfl
 i212:=by kernel_rfl
 i232:=by kernel_rfl
 i233:=by kernel_rfl
 m15:=by kernel_rfl
 m16:=by kernel_rfl
 m17:=by kernel_rfl
 m18:=by kernel_rfl
 m19:=by kernel_rfl
 c0:=by kernel_rfl
 c2:=by kernel_rfl
 c3:=by kernel_rfl
 c4:=by kernel_rfl
 c5:=by kernel_rfl
 c9:=by kernel_rfl
 c20:=by kernel_rfl
 c21:=by kernel_rfl
 c37:=by kernel_rfl
 c46:=by kernel_rfl
 c51:=by kernel_rfl
 c53:=by kernel_rfl
 c75:=by kernel_rfl
 c76:=by kernel_rfl
 c80:=by kernel_rfl
 c85:=by kernel_rfl
 c127:=by kernel_rfl
 c143:=by kernel_rfl
 c145:=by kernel_rfl
 c167:=by kernel_rfl
 c168:=by kernel_rfl
 c171:=by kernel_rfl
 c173:=by kernel_rfl
 c175:=by kernel_rfl
 c210:=by kernel_rfl
 c212:=by kernel_rfl
 c213:=by kernel_rfl
 c232:=by kernel_rfl
 c233:=by kernel_rfl}
def Tryz.Oz:Go.Shelf.Ren:=⟨λ|146=>101|221=>122|268=>128|138=>129|143=>130|195=>135|197=>136|218=>137|219=>138|260=>145|217=>146|225=>147|224=>148|267=>149|266=>154|314=>155|n=>n,λ|9=>9|31=>107|3=>3|4=>4|0=>0|105=>162|21=>21|5=>5|46=>109|119=>177|139=>180|138=>179|146=>181|51=>66|n=>n,λ|1=>0|3=>3|4=>4|n=>n⟩
theorem Tryz.QG:Go.Proofs.LaysM.n146 Tryz.prog Tryz.Oz:={
 mixed:=by kernel_rfl
 f138:=Tryz.func129.trans (congrArg some (by kernel_rfl))
 f143:=Tryz.func130.trans (congrArg some (by kernel_rfl))
 f146:=Tryz.func101.trans (congrArg some (by kernel_rfl))
 f195:=Tryz.func135.trans (congrArg some (by kernel_rfl))
 f197:=Tryz.func136.trans (congrArg some (by kernel_rfl))
 f217:=Tryz.func146.trans (congrArg some (by kernel_rfl))
 f218:=Tryz.func137.trans (congrArg some (by kernel_rfl))
 f219:=Tryz.func138.trans (congrArg some (by kernel_rfl))
 f221:=Tryz.func122.trans (congrArg some (by kernel_rfl))
 f224:=Tryz.func148.trans (congrArg some (by kernel_rfl))
 f225:=Tryz.func147.trans (congrArg some (by kernel_rfl))
 f260:=Tryz.func145.trans (congrArg some (by kernel_rfl))
 f266:=Tryz.func154.trans (congrArg some (by kernel_rfl))
 f267:=Tryz.func149.trans (congrArg some (by kernel_rfl))
 f268:=Tryz.func128.trans (congrArg some (by kernel_rfl))
 f314:=Tryz.func155.trans (congrArg some (by kernel_rfl))
 t0:=Tryz.underlying0
 a0:=Tryz.isAgg0
 z0:=Tryz.sizeOf0
 v0:=Tryz.zeroValue0
 t3:=Tryz.underlying3
 a3:=Tryz.isAgg3
 z3:=Tryz.sizeOf3
 v3:=Tryz.zeroValue3
 t4:=Tryz.underlying4
 a4:=Tryz.isAgg4
 z4:=Tryz.sizeOf4
 v4:=Tryz.zeroValue4
 t5:=Tryz.underlying5
 a5:=Tryz.isAgg5
 z5:=Tryz.sizeOf5
 v5:=Tryz.zeroValue5
 t9:=Tryz.underlying9
 a9:=Tryz.isAgg9
 z9:=Tryz.sizeOf9
 v9:=Tryz.zeroValue9
 t21:=Tryz.underlying21
 a21:=Tryz.isAgg21
 z21:=Tryz.sizeOf21
 v21:=Tryz.zeroValue21
 t31:=Tryz.underlying107
 a31:=Tryz.isAgg107
 z31:=Tryz.sizeOf107
 v31:=Tryz.zeroValue107
 t46:=Tryz.underlying109
 a46:=Tryz.isAgg109
 z46:=Tryz.sizeOf109
 v46:=Tryz.zeroValue109
 t51:=Tryz.underlying66
 a51:=Tryz.isAgg66
 z51:=Tryz.sizeOf66
 v51:=Tryz.zeroValue66
 t105:=Tryz.underlying162
 a105:=Tryz.isAgg162
 z105:=Tryz.sizeOf162
 v105:=Tryz.zeroValue162
 t119:=Tryz.underlying177
 a119:=Tryz.isAgg177
 z119:=Tryz.sizeOf177
 t138:=Tryz.underlying179
 a138:=Tryz.isAgg179
 z138:=Tryz.sizeOf179
 v138:=Tryz.zeroValue179
 t139:=Tryz.underlying180
 a139:=Tryz.isAgg180
 z139:=Tryz.sizeOf180
 v139:=Tryz.zeroValue180
 t146:=Tryz.underlying181
 a146:=Tryz.isAgg181
 z146:=Tryz.sizeOf181
 v146:=Tryz.zeroValue181
 g1:=by kernel_rfl
 g3:=by kernel_rfl
 g4:=by kernel_rfl
 i0:=by kernel_rfl
 i3:=by kernel_rfl
 i4:=by kernel_rfl
 i5:=by kernel_rfl
 i9:=by kernel_rfl
 i21:=by kernel_rfl
 i31:=by kernel_rfl
 i46:=by kernel_rfl
 i51:=by kernel_rfl
 i105:=by kernel_rfl
 i138:=by kernel_rfl
 i139:=by kernel_rfl
 i146:=by kernel_rfl
 m1:=by kernel_rfl
 s1_3:=λw h=>Go.Proofs.cell_of_shapedOpen_int (zero:=#[.int .i64 0]) (t:=3) h (of_decide_eq_true (by kernel_rfl)) (by kernel_rfl) rfl (by kernel_rfl) (by kernel_rfl) Tryz.underlying3
 m3:=by kernel_rfl
 m4:=by kernel_rfl}
end Go.Proofs
end
section
namespace Go.Proofs.YtfggjdkccdkogaaGreatDoor.Print
open RowKit Ac Aq Aw
set_option linter.unusedVariables false
set_option linter.unusedSimpArgs false
noncomputable def nameOf (g:Nat):String:=((Tryz.prog.globals[g]?).map (·.name)).getD ""
noncomputable def Rv:String:=nameOf 5
noncomputable def Rw:String:=nameOf 1
noncomputable def Rx:String:=nameOf 2
theorem Yb:Tryz.prog.globalNamed Rv=some 5:=by kernel_rfl
theorem Yc:Tryz.prog.globalNamed Rw=some 1:=by kernel_rfl
theorem Yd:Tryz.prog.globalNamed Rx=some 2:=by kernel_rfl
structure D8 (w:World):Prop where
 pow:Lib.TabIs Tryz.prog w Rv .u64 Lib.pow10Tab
 syn:∃ tp p,w.var? Tryz.prog Rw=some #[.iface tp p]
 rng:∃ tp p,w.var? Tryz.prog Rx=some #[.iface tp p]
 mlen:∃ m,w.cell? ⟨0,0,none⟩=some (.int .i64 m)
theorem LF {w w':World} {n:String} {g:Nat} {cs:Array Value} (hg:Tryz.prog.globalNamed n=some g) (h:w.var? Tryz.prog n=some cs) (hb:Below w.heap.size w w'):w'.var? Tryz.prog n=some cs:=by
 exact Go.Joins.var_stays hg h hb (Nat.le_refl _)
theorem cell_below {w w':World} {a:Addr} {v:Value} (h:w.cell? a=some v) (hb:Below w.heap.size w w'):w'.cell? a=some v:=by
 have hlt:a.block<w.heap.size:=by
  by_cases hl:a.block<w.heap.size
  ·exact hl
  ·exfalso;have:w.heap[a.block]? =none:=Array.getElem?_eq_none (by omega);simp [World.cell?,this] at h
 rw [hb.cell hlt];exact h
theorem D8.below {w w':World} (h:D8 w) (hb:Below w.heap.size w w'):D8 w':=
 ⟨LF Yb h.pow hb,by obtain ⟨tp,p,hv⟩:=h.syn;exact ⟨tp,p,LF Yc hv hb⟩,by obtain ⟨tp,p,hv⟩:=h.rng;exact ⟨tp,p,LF Yd hv hb⟩
 ,by obtain ⟨m,hm⟩:=h.mlen;exact ⟨m,cell_below hm hb⟩
 ⟩
theorem D8.drewN {w:World} {n:Nat} (h:D8 w):D8 (w.drewN n):=h.below (by apply Ce;exact Below.refl _ _)
theorem D8.drew {w:World} (h:D8 w):D8 w.drew:=h.below (by apply Bb;exact Below.refl _ _)
theorem D8.alloc {w:World} {o:Obj} (h:D8 w):D8 (w.alloc o):=h.below (by apply Bu;exact Below.refl _ _)
def IK (n:Int):ByteArray:=⟨(Lib.itoa n).toArray⟩
def strconv_Itoa.f (a0:Int):Option ByteArray:=if -9223372036854775808<=a0 then (if a0<=9223372036854775807 then some (IK a0) else none) else none
theorem strconv_Itoa.calls (a0:Int) (r:ByteArray) (w:World) (hG:AA (D8 w)) (h:strconv_Itoa.f a0=some r):
 Calls Tryz.prog 133 #[.int .i64 a0] w λe w'=>e= .returned (.string r)/\Below w.heap.size w w':=by
 unfold strconv_Itoa.f at h;by_cases h0: -9223372036854775808<=a0
 ·rw [if_pos h0] at h;by_cases h1:a0<=9223372036854775807
  ·rw [if_pos h1] at h;obtain rfl:=Option.some.inj h;refine (Any.strconv_Itoa Tryz.Ux a0 h0 h1 w (Eq.mp (congrArg (λz=>Lib.TabIs Tryz.prog w z .u64 Lib.pow10Tab) (by kernel_rfl)) hG.out.pow)).mono ?_;rintro e w' ⟨rfl,k,os,rfl⟩;exact ⟨rfl,Lib.below_grow _ _ (Nat.le_refl _) _ _⟩
  ·rw [if_neg h1] at h;exact absurd h (by simp)
 ·rw [if_neg h0] at h;exact absurd h (by simp)
def IE.f (a0:Int):Option ByteArray:=strconv_Itoa.f a0
theorem IE.calls (a0:Int) (r:ByteArray) (w:World) (hG:AA (D8 w)) (h:IE.f a0=some r):
 Calls Tryz.prog 124 #[.int .i64 a0] w λe w'=>e= .returned (.string r)/\Below w.heap.size w w':=by
 have H:=AA.mk h;clear h;go_enter Tryz.func124,Tryz.ntmps124;go_wp2_with (go_at_call 133;refine (strconv_Itoa.calls a0 r _ hG H.out).mono ?_;rintro e w' ⟨rfl,hb⟩);go_ret;exact ⟨rfl,hb⟩
def GU (s:ByteArray):Int×Bool:=if s.size>20 then (0,false) else match Lib.atoiAll s.data.toList with
 | .ok v=>if (IK v).toList=s.toList then (v,true) else (0,false)
 |_=>(0,false)
def IL.f (a0:ByteArray):Option (Int×Bool):=some (GU a0)
theorem Ry (s:ByteArray) (hs:s.size<=20) (v:Int) (h:Lib.atoiAll s.data.toList= .ok v) (w:World):
 Calls Tryz.prog 123 #[.string s] w λe w'=>e= .returned (.tuple #[.int .i64 v, .nilIface])/\Below w.heap.size w w':=by
 refine (Any.strconv_Atoi_ok Tryz.Mj s (by omega) v h w).mono ?_;rintro e w' ⟨rfl,hw|⟨t,hw⟩⟩
 ·subst hw;exact ⟨rfl,Below.refl _ _⟩
 ·subst hw;exact ⟨rfl,Lib.bytesWorld_below _ _ _⟩
theorem Rz (s:ByteArray) (hs:s.size<=20) (h:∀ v,Lib.atoiAll s.data.toList≠ .ok v) (w:World) (hG:D8 w):
 Calls Tryz.prog 123 #[.string s] w λe w'=>∃ n t p,e= .returned (.tuple #[.int .i64 n, .iface t p])/\Below w.heap.size w w':=by
 cases hv:Lib.atoiAll s.data.toList with
 |ok v=>exact absurd hv (h v)
 |range=>
  obtain ⟨tp,p,hvar⟩:=hG.rng;refine (Any.strconv_Atoi_range_var Tryz.Mj s (by omega) hv tp p w (Eq.mp (congrArg (λz=>w.var? Tryz.prog z=some #[.iface tp p]) (by kernel_rfl)) hvar)).mono ?_;rintro e w' ⟨N,rfl,_,_,hb⟩;exact ⟨_,_,_,rfl,hb⟩
 |_=>
  obtain ⟨tp,p,hvar⟩:=hG.syn;refine (Any.strconv_Atoi_syntax_var Tryz.Mj s (by omega) hv tp p w (Eq.mp (congrArg (λz=>w.var? Tryz.prog z=some #[.iface tp p]) (by kernel_rfl)) hvar)).mono ?_;rintro e w' ⟨N,rfl,_,_,hb⟩;exact ⟨_,_,_,rfl,hb⟩
theorem UU (v:Int) (h: -9223372036854775808<=v/\v<=9223372036854775807):IE.f v=some (IK v):=by
 unfold IE.f strconv_Itoa.f;rw [if_pos h.1,if_pos h.2]
theorem Q0 {l:List UInt8} {v:Int} (h:Lib.atoiAll l= .ok v): -9223372036854775808<=v/\v<=9223372036854775807:=by
 unfold Lib.atoiAll at h;cases l with
 |nil=>cases h
 |cons c r=>
  simp only at h;split at h
  ·cases h
  ·cases h
  ·rename_i u hu;have:=Lib.parseMag_lt hu;split at h
   ·cases h
   ·split at h
    ·cases h
    ·rename_i h1 h2;injection h with h
     rw [<-h];split<;>omega
theorem IL.calls (a0:ByteArray) (r1:Int) (r2:Bool) (w:World) (hG:AA (D8 w)) (h:IL.f a0=some (r1,r2)):
 Calls Tryz.prog 102 #[.string a0] w λe w'=>e= .returned (.tuple #[.int .i64 r1, .bool r2])/\Below w.heap.size w w':=by
 have h':GU a0=(r1,r2):=Option.some.inj h;clear h;unfold GU at h';by_cases hs:a0.size>20
 ·rw [if_pos hs] at h';obtain ⟨rfl,rfl⟩:=Prod.mk.inj h';clear h';have hs1:decide (20<(a0.size:Int))=true:=decide_eq_true (by omega);clear hs;go_enter Tryz.func102,Tryz.ntmps102;go_wp2;go_ret2;exact ⟨rfl,Below.refl _ _⟩
 ·rw [if_neg hs] at h';have hs1:decide (20<(a0.size:Int))=false:=decide_eq_false (by omega);have hs2:=AA.mk (show a0.size<=20 by omega);clear hs;cases hv:Lib.atoiAll a0.data.toList with
  |ok v=>
   rw [hv] at h';simp only at h';have hv':=AA.mk hv;have hp':=AA.mk (UU v (Q0 hv));clear hv;by_cases hb:(IK v).toList=a0.toList
   ·rw [if_pos hb] at h';obtain ⟨rfl,rfl⟩:=Prod.mk.inj h';clear h';have hb1:((IK v).toList != a0.toList)=false:=by rw [hb];simp
    have hb2:((IK v).toList==a0.toList)=true:=by rw [hb];simp
    clear hb;go_enter Tryz.func102,Tryz.ntmps102;go_wp2_with (first|(go_at_call 123;refine (Ry a0 hs2.out v hv'.out _).mono ?_;rintro e w1 ⟨rfl,hb1'⟩;have HB1:=AA.mk hb1';clear hb1')|(go_at_call 124;refine (IE.calls v (IK v) _ (AA.mk (hG.out.below HB1.out)) hp'.out).mono ?_;rintro e w2 ⟨rfl,hb2'⟩;have HB2:=AA.mk hb2';clear hb2'));go_ret2;exact ⟨rfl,HB1.out.trans (HB2.out.mono HB1.out.size)⟩
   ·rw [if_neg hb] at h';obtain ⟨rfl,rfl⟩:=Prod.mk.inj h';clear h';have hb1:((IK v).toList != a0.toList)=true:=by simpa using hb
    have hb2:((IK v).toList==a0.toList)=false:=by simpa using hb
    clear hb;go_enter Tryz.func102,Tryz.ntmps102;go_wp2_with (first|(go_at_call 123;refine (Ry a0 hs2.out v hv'.out _).mono ?_;rintro e w1 ⟨rfl,hb1'⟩;have HB1:=AA.mk hb1';clear hb1')|(go_at_call 124;refine (IE.calls v (IK v) _ (AA.mk (hG.out.below HB1.out)) hp'.out).mono ?_;rintro e w2 ⟨rfl,hb2'⟩;have HB2:=AA.mk hb2';clear hb2'));go_ret2;exact ⟨rfl,HB1.out.trans (HB2.out.mono HB1.out.size)⟩
  |range=>
   rw [hv] at h';obtain ⟨rfl,rfl⟩:=Prod.mk.inj h';clear h';have hv':=AA.mk (show ∀ v,Lib.atoiAll a0.data.toList≠ .ok v by rw [hv];intro v e;cases e);clear hv;go_enter Tryz.func102,Tryz.ntmps102;go_wp2_with (go_at_call 123;refine (Rz a0 hs2.out hv'.out _ hG.out).mono ?_;rintro e w1 ⟨n1,t1,p1,rfl,hb1'⟩;have HB1:=AA.mk hb1';clear hb1');go_ret2;exact ⟨rfl,HB1.out⟩
  |_=>
   rw [hv] at h';obtain ⟨rfl,rfl⟩:=Prod.mk.inj h';clear h';have hv':=AA.mk (show ∀ v,Lib.atoiAll a0.data.toList≠ .ok v by rw [hv];intro v e;cases e);clear hv;go_enter Tryz.func102,Tryz.ntmps102;go_wp2_with (go_at_call 123;refine (Rz a0 hs2.out hv'.out _ hG.out).mono ?_;rintro e w1 ⟨n1,t1,p1,rfl,hb1'⟩;have HB1:=AA.mk hb1';clear hb1');go_ret2;exact ⟨rfl,HB1.out⟩
end Go.Proofs.YtfggjdkccdkogaaGreatDoor.Print
end
section
namespace Go.Proofs.YtfggjdkccdkogaaGreatDoor.Print
open RowKit Ac Aq Aw
set_option linter.unusedVariables false
set_option linter.unusedSimpArgs false
structure Hr (W0 w:World) (g n:Nat) (f:Nat->Int):Prop where
 cell:∀ j,j<n->w.cell? ⟨g,j,none⟩=some (.int .u8 (f j))
 frz:∀ j,j<n->w.frozen? ⟨g,j,none⟩=false
 below:Below W0.heap.size W0 w
 base:W0.heap.size<=g
 lt:g<w.heap.size
theorem Hr.congr {W0 w:World} {g n:Nat} {f f':Nat->Int} (h:Hr W0 w g n f) (e:∀ j,j<n->f j=f' j):Hr W0 w g n f':=
 ⟨λj hj=>by rw [h.cell j hj,e j hj],h.frz,h.below,h.base,h.lt⟩
theorem Hr.set {W0 w:World} {g n:Nat} {f:Nat->Int} (h:Hr W0 w g n f) {k:Nat} (hk:k<n) (x:Int):Hr W0 (w.setCell ⟨g,k,none⟩ (.int .u8 x)) g n (λj=>if j=k then x else f j):=by
 refine ⟨λj hj=>?_,λj hj=>?_,h.below.setCell h.base _,h.base,by simpa using h.lt⟩
 ·by_cases e:j=k
  ·subst e;rw [if_pos rfl];exact World.cell?_setCell_same _ _ _ (h.cell j hj)
  ·rw [if_neg e];exact (World.cell?_setCell_other _ _ _ _ (by intro e2;injection e2 with _ e3;exact e e3.symm)).trans (h.cell j hj)
 ·rw [World.frozen?_setCell];exact h.frz j hj
theorem Pt (w:World) (e:TypeId) (s:ByteArray):Hr w (Lib.bytesWorld w e s) w.heap.size s.size (λj=>(bytesOf s).getD j 0):=by
 refine ⟨λj hj=>?_,λj hj=>?_,Lib.bytesWorld_below w e s,Nat.le_refl _,by rw [Lib.bytesWorld_size];omega⟩
 ·rw [Lib.bytesWorld_cell w e s j hj];have hj':j<s.data.size:=hj;simp [bytesOf,List.getD,Array.getElem?_eq_getElem hj']
 ·have hb:(Lib.bytesCells w e s).size>=s.size:=by simp [Lib.bytesCells]
  simp only [World.frozen?,Lib.bytesWorld_at_new];simp;omega
theorem TK {W0 w:World} {g n:Nat} {f:Nat->Int} (h:Hr W0 w g n f) (hn:n<=9223372036854775807):FN w .u8 (some ⟨g,0,none⟩) n ((List.range n).map f):=by
 refine ⟨by simp,hn,λ_=>⟨_,rfl,λj hj=>?_⟩⟩;rw [add_plain,h.cell j (by simpa using hj)];have hj':j<n:=by simpa using hj
 simp [hj']
def Jb (c:Int):Int:=if 65<=c/\c<=90 then c+32 else c
def IM (s:ByteArray):ByteArray:=strOfNums ((bytesOf s).map Jb)
theorem Q3 (s:ByteArray):(List.range s.size).map (λj=>Jb ((bytesOf s).getD j 0))=(bytesOf s).map Jb:=by
 apply List.ext_getElem?;intro i;by_cases h:i<s.size
 ·have h':i<(bytesOf s).length:=by rw [bytesOf_length];exact h
  simp [h,h',List.getD]
 ·simp [h,bytesOf_length]
theorem Pv {W0 w:World} {g k:Nat} {s:ByteArray} (h:Hr W0 w g s.size (λj=>if j<k then Jb ((bytesOf s).getD j 0) else (bytesOf s).getD j 0)) {c:Int} (hk:k<s.size) (hc:c=(bytesOf s).getD k 0) (h0:65<=c) (h1:c<=90) {x:Int} (hx:x=c+32):
 Hr W0 (w.setCell ⟨g,k,none⟩ (.int .u8 x)) g s.size (λj=>if j<k+1 then Jb ((bytesOf s).getD j 0) else (bytesOf s).getD j 0):=by
 refine (h.set hk x).congr λj hj=>?_
 by_cases e:j=k
 ·subst e;simp only [if_true,if_pos (Nat.lt_succ_self _), <-hc];unfold Jb;rw [if_pos ⟨h0,h1⟩,hx]
 ·simp only [if_neg e];by_cases l:j<k
  ·rw [if_pos l,if_pos (by omega)]
  ·rw [if_neg l,if_neg (by omega)]
theorem Ka {W0 w:World} {g k:Nat} {s:ByteArray} (h:Hr W0 w g s.size (λj=>if j<k then Jb ((bytesOf s).getD j 0) else (bytesOf s).getD j 0)) {c:Int} (hk:k<s.size) (hc:c=(bytesOf s).getD k 0) (hn:¬(65<=c/\c<=90)):
 Hr W0 w g s.size (λj=>if j<k+1 then Jb ((bytesOf s).getD j 0) else (bytesOf s).getD j 0):=by
 refine h.congr λj hj=>?_
 by_cases e:j=k
 ·subst e;simp only [if_neg (Nat.lt_irrefl _),if_pos (Nat.lt_succ_self _), <-hc];unfold Jb;rw [if_neg hn]
 ·by_cases l:j<k
  ·rw [if_pos l,if_pos (by omega)]
  ·rw [if_neg l,if_neg (by omega)]
theorem Pw {W0 w:World} {g k cap:Nat} {s:ByteArray} (hs:s.size<=9223372036854775806) (h:Hr W0 w g s.size (λj=>if j<k then Jb ((bytesOf s).getD j 0) else (bytesOf s).getD j 0)) (hk:s.size<=k):
 (convert 67 9 (.slice (some ⟨g,0,none⟩) s.size cap)).run Tryz.prog w= .ok (.string (IM s)) w:=by
 have hr:=TK (f:=λj=>Jb ((bytesOf s).getD j 0)) (h.congr λj hj=>by rw [if_pos (by omega)]) (by omega);rw [Q3] at hr;exact MJ Tryz.underlying67 Tryz.underlying5 Tryz.underlying9 hr
def FU.f (a0:ByteArray):Option ByteArray:=if a0.size<=9223372036854775806 then some (IM a0) else none
set_option maxHeartbeats 4000000 in
set_option maxRecDepth 100000 in
theorem FU.calls (a0:ByteArray) (r:ByteArray) (w:World) (h:FU.f a0=some r):
 Calls Tryz.prog 99 #[.string a0] w λe w'=>e= .returned (.string r)/\Below w.heap.size w w':=by
 unfold FU.f at h;by_cases hs:a0.size<=9223372036854775806
 ·rw [if_pos hs] at h;obtain rfl:=Option.some.inj h;clear h;obtain ⟨wB,g,cap,hconv,HR⟩:∃ wB g cap,(convert 9 67 (.string a0)).run Tryz.prog w= .ok (.slice (some ⟨g,0,none⟩) a0.size cap) wB/\AA (Hr w wB g a0.size (λj=>(bytesOf a0).getD j 0)):=
   ⟨_,_,_,Lib.run_convert_string_bytes w _ _ _ a0 Tryz.underlying9 Tryz.underlying67 Tryz.underlying5,⟨Pt w _ a0⟩⟩
  go_enter Tryz.func99,Tryz.ntmps99;go_wp2;go_loopw [9] (λv9 wr=>∃ k:Nat,k<=a0.size/\v9= .int .i64 k/\AA (Hr w wr g a0.size (λj=>if j<k then Jb ((bytesOf a0).getD j 0) else (bytesOf a0).getD j 0))) (λv9 _=>a0.size - (intOf v9).toNat);case atStart=>exact ⟨0,Nat.zero_le _,rfl,⟨HR.out.congr λj _=>by simp⟩⟩
  case round=>
   obtain ⟨k,hk,rfl,HK⟩:=hrel;by_cases hlt:k<a0.size
   ·obtain ⟨c,hc⟩:∃ c:Int,c=(bytesOf a0).getD k 0:=⟨_,rfl⟩;have hcell:wr.cell? ⟨g,k,none⟩=some (.int .u8 c):=by rw [HK.out.cell k hlt,if_neg (Nat.lt_irrefl _),hc]
    have hfr:=HK.out.frz k hlt;have HC:=AA.mk hc;clear hc;go_wp2
    ·go_roundw;case rel=>exact ⟨k+1,by omega,by go_num,⟨Pv HK.out hlt HC.out (by assumption) (by assumption) (by omega)⟩⟩
     case measure=>simp [intOf];omega
    ·go_roundw;case rel=>exact ⟨k+1,by omega,by go_num,⟨Ka HK.out hlt HC.out (by omega)⟩⟩
     case measure=>simp [intOf];omega
    ·go_roundw;case rel=>exact ⟨k+1,by omega,by go_num,⟨Ka HK.out hlt HC.out (by omega)⟩⟩
     case measure=>simp [intOf];omega
   ·have hback:=Pw (cap:=cap) hs HK.out (by omega);go_wp2;go_ret;exact ⟨rfl,HK.out.below⟩
 ·rw [if_neg hs] at h;exact absurd h (by simp)
def Mc (s sep:ByteArray):List ByteArray:=Lib.splitB sep 0 (Lib.countB s sep) s
def strings_Split.f (a0 a1:ByteArray):Option (List ByteArray):=if a0.size<4294967281/\1<=a1.size then some (Mc a0 a1) else none
theorem strings_Split.calls (a0 a1:ByteArray) (r:List ByteArray) (w:World) (hG:AA (D8 w)) (h:strings_Split.f a0 a1=some r):
 Calls Tryz.prog 101 #[.string a0, .string a1] w λe w'=>∃ v0_:Value,e= .returned (v0_)/\Kd.R Kd.string 9 w' w.heap.size (λ_=>True) v0_ r/\Below w.heap.size w w':=by
 unfold strings_Split.f at h;by_cases hc:a0.size<4294967281/\1<=a1.size
 ·rw [if_pos hc] at h;obtain rfl:=Option.some.inj h;obtain ⟨m,hm⟩:=hG.out.mlen;have L:=Tryz.QG;refine (Any.strings_Split {L with} L.i9 a0 a1 m w hc.1 hm hc.2).mono ?_;rintro e w' ⟨rfl,rfl⟩;have hlen:(Mc a0 a1).length=Lib.countB a0 a1+1:=Lib.splitB_all a1 hc.2 0 _ a0 rfl;have hle:=Lib.countB_le a1 hc.2 a0.size a0 (Nat.le_refl _);refine ⟨_,rfl,Kd.QK (enc:=Value.string) ?_ (λ_ _=>trivial),(Below.refl _ _).alloc (Nat.le_refl _) _⟩;rw [hlen];refine ⟨by simp [encs,hlen], .inr ⟨w.heap.size,_,((Mc a0 a1).map Value.string).toArray,rfl,Nat.le_refl _,?_,Nat.le_refl _,by unfold maxLen;omega,?_,?_⟩⟩
  ·exact (show ∀ (w:World) (o:Obj),(w.alloc o).heap[w.heap.size]? =some o from λw o=>Array.getElem?_push_size) w _
  ·simp [hlen]
  ·rw [<-hlen,Nat.mul_one];exact List.take_of_length_le (by simp)
 ·rw [if_neg hc] at h;exact absurd h (by simp)
end Go.Proofs.YtfggjdkccdkogaaGreatDoor.Print
end
section
namespace Go.Proofs.YtfggjdkccdkogaaGreatDoor.Print
open RowKit Ac Aq Aw
set_option linter.unusedVariables false
set_option linter.unusedSimpArgs false
def EB.f (a0:ByteArray):Option ByteArray:=if a0.size<=9223372036854775806 then some (IM a0) else none
set_option maxHeartbeats 4000000 in
set_option maxRecDepth 100000 in
theorem EB.calls (a0:ByteArray) (r:ByteArray) (w:World) (h:EB.f a0=some r):
 Calls Tryz.prog 113 #[.string a0] w λe w'=>e= .returned (.string r)/\Below w.heap.size w w':=by
 unfold EB.f at h;by_cases hs:a0.size<=9223372036854775806
 ·rw [if_pos hs] at h;obtain rfl:=Option.some.inj h;clear h;obtain ⟨wB,g,cap,hconv,HR⟩:∃ wB g cap,(convert 9 67 (.string a0)).run Tryz.prog w= .ok (.slice (some ⟨g,0,none⟩) a0.size cap) wB/\AA (Hr w wB g a0.size (λj=>(bytesOf a0).getD j 0)):=
   ⟨_,_,_,Lib.run_convert_string_bytes w _ _ _ a0 Tryz.underlying9 Tryz.underlying67 Tryz.underlying5,⟨Pt w _ a0⟩⟩
  go_enter Tryz.func113,Tryz.ntmps113;go_wp2;go_loopw [4] (λv4 wr=>∃ k:Nat,k<=a0.size/\v4= .int .i64 k/\AA (Hr w wr g a0.size (λj=>if j<k then Jb ((bytesOf a0).getD j 0) else (bytesOf a0).getD j 0))) (λv4 _=>a0.size - (intOf v4).toNat);case atStart=>exact ⟨0,Nat.zero_le _,rfl,⟨HR.out.congr λj _=>by simp⟩⟩
  case round=>
   obtain ⟨k,hk,rfl,HK⟩:=hrel;by_cases hlt:k<a0.size
   ·obtain ⟨c,hc⟩:∃ c:Int,c=(bytesOf a0).getD k 0:=⟨_,rfl⟩;have hcell:wr.cell? ⟨g,k,none⟩=some (.int .u8 c):=by rw [HK.out.cell k hlt,if_neg (Nat.lt_irrefl _),hc]
    have hfr:=HK.out.frz k hlt;have HC:=AA.mk hc;clear hc;by_cases h0:65<=c
    ·by_cases h1:c<=90
     ·go_wp2;go_roundw;case rel=>exact ⟨k+1,by omega,by go_num,⟨Pv HK.out hlt HC.out (by assumption) (by assumption) (by omega)⟩⟩
      case measure=>simp [intOf];omega
     ·go_wp2;go_roundw;case rel=>exact ⟨k+1,by omega,by go_num,⟨Ka HK.out hlt HC.out (by omega)⟩⟩
      case measure=>simp [intOf];omega
    ·go_wp2;go_roundw;case rel=>exact ⟨k+1,by omega,by go_num,⟨Ka HK.out hlt HC.out (by omega)⟩⟩
     case measure=>simp [intOf];omega
   ·have hback:=Pw (cap:=cap) hs HK.out (by omega);go_wp2;go_ret;exact ⟨rfl,HK.out.below⟩
 ·rw [if_neg hs] at h;exact absurd h (by simp)
end Go.Proofs.YtfggjdkccdkogaaGreatDoor.Print
end
