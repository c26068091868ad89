/- The reference's Lower (layer 1), walked by hand. -/
import Derived.Test.YtccmackhhppbdaaGreatDoorProg
import Derived.Test.YtccmackhhppbdaaGreatDoorRows
import Derived.Test.YtccmackhhppbdaaGreatDoorWMore
import Derived.Shelf.Utf8.RuneCount
import Derived.Shelf.Strconv.Atoi
import Derived.Shelf.Strconv.Itoa0
import Derived.Shelf.Strconv.Itoa1
import Derived.Shelf.LaysM
import Derived.Shelf.Strconv.Itoa2
import Derived.Shelf.Strconv.Itoa3
import Derived.Shelf.Strconv.AtoiErrFast
import Derived.Shelf.Strconv.ParseIntEmpty
import Derived.Shelf.Strconv.AtoiFail
import Derived.Shelf.Strconv.Clone
import Derived.Shelf.Strconv.SyntaxError
import Derived.Shelf.LaysC
import Derived.Shelf.Strconv.ToError
import Derived.Shelf.Strconv.Lower
import Derived.Shelf.Strconv.ParseUint10
import Derived.Shelf.Strconv.ParseUint10Empty
import Derived.Shelf.Strconv.ParseUint10Any
import Derived.Shelf.Strconv.ParseInt10
import Derived.Shelf.Strconv.AtoiLong
import Derived.Shelf.Strconv.AtoiInnerAll
import Derived.Shelf.Strconv.RangeError
import Derived.Shelf.Strconv.ToErrorRange
import Derived.Shelf.Strconv.AtoiAll
import Derived.Shelf.Strconv.ErrVarAll
import Derived.Shelf.Strings.Search1
import Derived.Shelf.Strings.Search2
import Derived.Shelf.Strings.Search3
import Derived.Shelf.Strings.Count
import Derived.Shelf.Strings.Shaped
import Derived.Shelf.Strings.Split
import Derived.Shelf.Strings.SplitShaped
import Derived.Shelf.Unicode.Decode
import Derived.Shelf.Strings.RuneCount
import Derived.Shelf.Strings.Explode
import Derived.Shelf.Unicode.DecodeSlow
import Derived.Shelf.Unicode.DecodeAny
import Derived.Lib.SmallJoins
import Derived.Lib.AppendIntMem
import Derived.Lib.AtoiErrMem
import Derived.Lib.LaidTab
import Derived.Stop.LaidErr
import Derived.LoopTactic
section
namespace Go.Proofs
open Shelf
def Tryz.Jy:Go.Shelf.Ren:=⟨λ|171=>82|243=>93|246=>102|283=>107|284=>108|285=>109|286=>110|129=>112|317=>111|318=>113|319=>114|320=>115|337=>116|338=>117|n=>n,λ|3=>3|9=>9|2=>2|4=>4|171=>137|0=>0|53=>102|37=>94|5=>5|173=>140|212=>143|51=>129|20=>20|213=>144|46=>101|232=>148|233=>149|n=>n,λ|17=>5|18=>6|19=>7|n=>n⟩
theorem Tryz.Ny:Go.Proofs.LaysM.n171 Tryz.prog Tryz.Jy:={
 mixed:=by kernel_rfl
 f129:=Tryz.func112.trans (congrArg some (by kernel_rfl))
 f171:=Tryz.func82.trans (congrArg some (by kernel_rfl))
 f243:=Tryz.func93.trans (congrArg some (by kernel_rfl))
 f246:=Tryz.func102.trans (congrArg some (by kernel_rfl))
 f283:=Tryz.func107.trans (congrArg some (by kernel_rfl))
 f284:=Tryz.func108.trans (congrArg some (by kernel_rfl))
 f285:=Tryz.func109.trans (congrArg some (by kernel_rfl))
 f286:=Tryz.func110.trans (congrArg some (by kernel_rfl))
 f317:=Tryz.func111.trans (congrArg some (by kernel_rfl))
 f318:=Tryz.func113.trans (congrArg some (by kernel_rfl))
 f319:=Tryz.func114.trans (congrArg some (by kernel_rfl))
 f320:=Tryz.func115.trans (congrArg some (by kernel_rfl))
 f337:=Tryz.func116.trans (congrArg some (by kernel_rfl))
 f338:=Tryz.func117.trans (congrArg some (by kernel_rfl))
 t0:=Tryz.underlying0
 a0:=Tryz.isAgg0
 z0:=Tryz.sizeOf0
 v0:=Tryz.zeroValue0
 t2:=Tryz.underlying2
 a2:=Tryz.isAgg2
 z2:=Tryz.sizeOf2
 v2:=Tryz.zeroValue2
 t3:=Tryz.underlying3
 a3:=Tryz.isAgg3
 z3:=Tryz.sizeOf3
 v3:=Tryz.zeroValue3
 t4:=Tryz.underlying4
 a4:=Tryz.isAgg4
 z4:=Tryz.sizeOf4
 v4:=Tryz.zeroValue4
 t5:=Tryz.underlying5
 a5:=Tryz.isAgg5
 z5:=Tryz.sizeOf5
 v5:=Tryz.zeroValue5
 t9:=Tryz.underlying9
 a9:=Tryz.isAgg9
 z9:=Tryz.sizeOf9
 v9:=Tryz.zeroValue9
 t20:=Tryz.underlying20
 a20:=Tryz.isAgg20
 z20:=Tryz.sizeOf20
 v20:=Tryz.zeroValue20
 t37:=Tryz.underlying94
 a37:=Tryz.isAgg94
 z37:=Tryz.sizeOf94
 v37:=Tryz.zeroValue94
 t46:=Tryz.underlying101
 a46:=Tryz.isAgg101
 z46:=Tryz.sizeOf101
 v46:=Tryz.zeroValue101
 t51:=Tryz.underlying129
 a51:=Tryz.isAgg129
 z51:=Tryz.sizeOf129
 v51:=Tryz.zeroValue129
 t53:=Tryz.underlying102
 a53:=Tryz.isAgg102
 z53:=Tryz.sizeOf102
 v53:=Tryz.zeroValue102
 t171:=Tryz.underlying137
 a171:=Tryz.isAgg137
 z171:=Tryz.sizeOf137
 v171:=Tryz.zeroValue137
 t173:=Tryz.underlying140
 a173:=Tryz.isAgg140
 z173:=Tryz.sizeOf140
 v173:=Tryz.zeroValue140
 t212:=Tryz.underlying143
 a212:=Tryz.isAgg143
 z212:=Tryz.sizeOf143
 v212:=Tryz.zeroValue143
 t213:=Tryz.underlying144
 a213:=Tryz.isAgg144
 z213:=Tryz.sizeOf144
 t232:=Tryz.underlying148
 a232:=Tryz.isAgg148
 z232:=Tryz.sizeOf148
 v232:=Tryz.zeroValue148
 t233:=Tryz.underlying149
 a233:=Tryz.isAgg149
 z233:=Tryz.sizeOf149
 v233:=Tryz.zeroValue149
 g17:=by kernel_rfl
 g18:=by kernel_rfl
 g19:=by kernel_rfl
 i0:=by kernel_rfl
 i2:=by kernel_rfl
 i3:=by kernel_rfl
 i4:=by kernel_rfl
 i5:=by kernel_rfl
 i9:=by kernel_rfl
 i20:=by kernel_rfl
 i37:=by kernel_rfl
 i46:=by kernel_rfl
 i51:=by kernel_rfl
 i53:=by kernel_rfl
 i171:=by kernel_rfl
 i173:=by kernel_rfl
 i212:=by kernel_rfl
 i232:=by kernel_rfl
 i233:=by kernel_rfl
 m17:=by kernel_rfl
 m18:=by kernel_rfl
 m19:=by kernel_rfl}
def Tryz.Jz:Go.Shelf.Ren:=⟨λ|172=>71|244=>80|245=>81|247=>88|279=>89|280=>90|281=>91|282=>92|287=>99|316=>100|171=>82|205=>101|321=>105|322=>106|243=>93|246=>102|283=>107|284=>108|285=>109|286=>110|129=>112|317=>111|318=>113|319=>114|320=>115|337=>116|338=>117|n=>n,λ|9=>9|3=>3|75=>98|76=>99|4=>4|5=>5|167=>112|37=>94|0=>0|85=>113|2=>2|168=>115|53=>102|175=>119|46=>101|210=>122|127=>133|145=>136|143=>134|21=>21|171=>137|173=>140|212=>143|51=>129|20=>20|213=>144|232=>148|233=>149|80=>150|n=>n,λ|15=>1|16=>2|17=>5|18=>6|19=>7|n=>n⟩
theorem Tryz.Ih:Go.Proofs.LaysC.n172 Tryz.prog Tryz.Jz:={
 mixed:=by kernel_rfl
 f129:=Tryz.func112.trans (congrArg some (by kernel_rfl))
 f171:=Tryz.func82.trans (congrArg some (by kernel_rfl))
 f172:=Tryz.func71.trans (congrArg some (by kernel_rfl))
 f205:=Tryz.func101.trans (congrArg some (by kernel_rfl))
 f243:=Tryz.func93.trans (congrArg some (by kernel_rfl))
 f244:=Tryz.func80.trans (congrArg some (by kernel_rfl))
 f245:=Tryz.func81.trans (congrArg some (by kernel_rfl))
 f246:=Tryz.func102.trans (congrArg some (by kernel_rfl))
 f247:=Tryz.func88.trans (congrArg some (by kernel_rfl))
 f279:=Tryz.func89.trans (congrArg some (by kernel_rfl))
 f280:=Tryz.func90.trans (congrArg some (by kernel_rfl))
 f281:=Tryz.func91.trans (congrArg some (by kernel_rfl))
 f282:=Tryz.func92.trans (congrArg some (by kernel_rfl))
 f283:=Tryz.func107.trans (congrArg some (by kernel_rfl))
 f284:=Tryz.func108.trans (congrArg some (by kernel_rfl))
 f285:=Tryz.func109.trans (congrArg some (by kernel_rfl))
 f286:=Tryz.func110.trans (congrArg some (by kernel_rfl))
 f287:=Tryz.func99.trans (congrArg some (by kernel_rfl))
 f316:=Tryz.func100.trans (congrArg some (by kernel_rfl))
 f317:=Tryz.func111.trans (congrArg some (by kernel_rfl))
 f318:=Tryz.func113.trans (congrArg some (by kernel_rfl))
 f319:=Tryz.func114.trans (congrArg some (by kernel_rfl))
 f320:=Tryz.func115.trans (congrArg some (by kernel_rfl))
 f321:=Tryz.func105.trans (congrArg some (by kernel_rfl))
 f322:=Tryz.func106.trans (congrArg some (by kernel_rfl))
 f337:=Tryz.func116.trans (congrArg some (by kernel_rfl))
 f338:=Tryz.func117.trans (congrArg some (by kernel_rfl))
 t0:=Tryz.underlying0
 a0:=Tryz.isAgg0
 z0:=Tryz.sizeOf0
 v0:=Tryz.zeroValue0
 t2:=Tryz.underlying2
 a2:=Tryz.isAgg2
 z2:=Tryz.sizeOf2
 v2:=Tryz.zeroValue2
 t3:=Tryz.underlying3
 a3:=Tryz.isAgg3
 z3:=Tryz.sizeOf3
 v3:=Tryz.zeroValue3
 t4:=Tryz.underlying4
 a4:=Tryz.isAgg4
 z4:=Tryz.sizeOf4
 v4:=Tryz.zeroValue4
 t5:=Tryz.underlying5
 a5:=Tryz.isAgg5
 z5:=Tryz.sizeOf5
 v5:=Tryz.zeroValue5
 t9:=Tryz.underlying9
 a9:=Tryz.isAgg9
 z9:=Tryz.sizeOf9
 v9:=Tryz.zeroValue9
 t20:=Tryz.underlying20
 a20:=Tryz.isAgg20
 z20:=Tryz.sizeOf20
 v20:=Tryz.zeroValue20
 t21:=Tryz.underlying21
 a21:=Tryz.isAgg21
 z21:=Tryz.sizeOf21
 v21:=Tryz.zeroValue21
 t37:=Tryz.underlying94
 a37:=Tryz.isAgg94
 z37:=Tryz.sizeOf94
 v37:=Tryz.zeroValue94
 t46:=Tryz.underlying101
 a46:=Tryz.isAgg101
 z46:=Tryz.sizeOf101
 v46:=Tryz.zeroValue101
 t51:=Tryz.underlying129
 a51:=Tryz.isAgg129
 z51:=Tryz.sizeOf129
 v51:=Tryz.zeroValue129
 t53:=Tryz.underlying102
 a53:=Tryz.isAgg102
 z53:=Tryz.sizeOf102
 v53:=Tryz.zeroValue102
 t75:=Tryz.underlying98
 a75:=Tryz.isAgg98
 z75:=Tryz.sizeOf98
 v75:=Tryz.zeroValue98
 t76:=Tryz.underlying99
 a76:=Tryz.isAgg99
 z76:=Tryz.sizeOf99
 v76:=Tryz.zeroValue99
 t85:=Tryz.underlying113
 a85:=Tryz.isAgg113
 z85:=Tryz.sizeOf113
 v85:=Tryz.zeroValue113
 t127:=Tryz.underlying133
 a127:=Tryz.isAgg133
 z127:=Tryz.sizeOf133
 v127:=Tryz.zeroValue133
 t143:=Tryz.underlying134
 a143:=Tryz.isAgg134
 z143:=Tryz.sizeOf134
 v143:=Tryz.zeroValue134
 t145:=Tryz.underlying136
 a145:=Tryz.isAgg136
 z145:=Tryz.sizeOf136
 v145:=Tryz.zeroValue136
 t167:=Tryz.underlying112
 a167:=Tryz.isAgg112
 z167:=Tryz.sizeOf112
 v167:=Tryz.zeroValue112
 t168:=Tryz.underlying115
 a168:=Tryz.isAgg115
 z168:=Tryz.sizeOf115
 v168:=Tryz.zeroValue115
 t171:=Tryz.underlying137
 a171:=Tryz.isAgg137
 z171:=Tryz.sizeOf137
 v171:=Tryz.zeroValue137
 t173:=Tryz.underlying140
 a173:=Tryz.isAgg140
 z173:=Tryz.sizeOf140
 v173:=Tryz.zeroValue140
 t175:=Tryz.underlying119
 a175:=Tryz.isAgg119
 z175:=Tryz.sizeOf119
 v175:=Tryz.zeroValue119
 t210:=Tryz.underlying122
 a210:=Tryz.isAgg122
 z210:=Tryz.sizeOf122
 v210:=Tryz.zeroValue122
 t212:=Tryz.underlying143
 a212:=Tryz.isAgg143
 z212:=Tryz.sizeOf143
 v212:=Tryz.zeroValue143
 t213:=Tryz.underlying144
 a213:=Tryz.isAgg144
 z213:=Tryz.sizeOf144
 t232:=Tryz.underlying148
 a232:=Tryz.isAgg148
 z232:=Tryz.sizeOf148
 v232:=Tryz.zeroValue148
 t233:=Tryz.underlying149
 a233:=Tryz.isAgg149
 z233:=Tryz.sizeOf149
 v233:=Tryz.zeroValue149
 g15:=by kernel_rfl
 g16:=by kernel_rfl
 g17:=by kernel_rfl
 g18:=by kernel_rfl
 g19:=by kernel_rfl
 t80:=Tryz.underlying150
 a80:=Tryz.isAgg150
 z80:=Tryz.sizeOf150
 v80:=Tryz.zeroValue150
 i0:=by kernel_rfl
 i2:=by kernel_rfl
 i3:=by kernel_rfl
 i4:=by kernel_rfl
 i5:=by kernel_rfl
 i9:=by kernel_rfl
 i20:=by kernel_rfl
 i21:=by kernel_rfl
 i37:=by kernel_rfl
 i46:=by kernel_rfl
 i51:=by kernel_rfl
 i53:=by kernel_rfl
 i75:=by kernel_rfl
 i76:=by kernel_rfl
 i80:=by kernel_rfl
 i85:=by kernel_rfl
 i127:=by kernel_rfl
 i143:=by kernel_rfl
 i145:=by kernel_rfl
 i167:=by kernel_rfl
 i168:=by kernel_rfl
 i171:=by kernel_rfl
 i173:=by kernel_rfl
 i175:=by kernel_rfl
 i210:=by kernel_rfl
 i212:=by kernel_rfl
 i232:=by kernel_rfl
 i233:=by kernel_rfl
 m15:=by kernel_rfl
 m16:=by kernel_rfl
 m17:=by kernel_rfl
 m18:=by kernel_rfl
 m19:=by kernel_rfl
 c0:=by kernel_rfl
 c2:=by kernel_rfl
 c3:=by kernel_rfl
 c4:=by kernel_rfl
 c5:=by kernel_rfl
 c9:=by kernel_rfl
 c20:=by kernel_rfl
 c21:=by kernel_rfl
 c37:=by kernel_rfl
 c46:=by kernel_rfl
 c51:=by kernel_rfl
 c53:=by kernel_rfl
 c75:=by kernel_rfl
 c76:=by kernel_rfl
 c80:=by kernel_rfl
 c85:=by kernel_rfl
 c127:=by kernel_rfl
 c143:=by kernel_rfl
 c145:=by kernel_rfl
 c167:=by kernel_rfl
 c168:=by kernel_rfl
 c171:=by kernel_rfl
 c173:=by kernel_rfl
 c175:=by kernel_rfl
 c210:=by kernel_rfl
 c212:=by kernel_rfl
 c213:=by kernel_rfl
 c232:=by kernel_rfl
 c233:=by kernel_rfl}
def Tryz.J2:Go.Shelf.Ren:=⟨λ|146=>51|221=>70|268=>77|138=>78|143=>79|195=>84|197=>85|218=>86|219=>87|260=>94|217=>95|225=>96|224=>97|267=>98|266=>103|314=>104|n=>n,λ|9=>9|31=>60|3=>3|4=>4|0=>0|105=>109|21=>21|5=>5|46=>101|119=>125|139=>128|138=>127|146=>130|51=>129|n=>n,λ|1=>0|3=>3|4=>4|n=>n⟩
theorem Tryz.Ke:Go.Proofs.LaysM.n146 Tryz.prog Tryz.J2:={
 mixed:=by kernel_rfl
 f138:=Tryz.func78.trans (congrArg some (by kernel_rfl))
 f143:=Tryz.func79.trans (congrArg some (by kernel_rfl))
 f146:=Tryz.func51.trans (congrArg some (by kernel_rfl))
 f195:=Tryz.func84.trans (congrArg some (by kernel_rfl))
 f197:=Tryz.func85.trans (congrArg some (by kernel_rfl))
 f217:=Tryz.func95.trans (congrArg some (by kernel_rfl))
 f218:=Tryz.func86.trans (congrArg some (by kernel_rfl))
 f219:=Tryz.func87.trans (congrArg some (by kernel_rfl))
 f221:=Tryz.func70.trans (congrArg some (by kernel_rfl))
 f224:=Tryz.func97.trans (congrArg some (by kernel_rfl))
 f225:=Tryz.func96.trans (congrArg some (by kernel_rfl))
 f260:=Tryz.func94.trans (congrArg some (by kernel_rfl))
 f266:=Tryz.func103.trans (congrArg some (by kernel_rfl))
 f267:=Tryz.func98.trans (congrArg some (by kernel_rfl))
 f268:=Tryz.func77.trans (congrArg some (by kernel_rfl))
 f314:=Tryz.func104.trans (congrArg some (by kernel_rfl))
 t0:=Tryz.underlying0
 a0:=Tryz.isAgg0
 z0:=Tryz.sizeOf0
 v0:=Tryz.zeroValue0
 t3:=Tryz.underlying3
 a3:=Tryz.isAgg3
 z3:=Tryz.sizeOf3
 v3:=Tryz.zeroValue3
 t4:=Tryz.underlying4
 a4:=Tryz.isAgg4
 z4:=Tryz.sizeOf4
 v4:=Tryz.zeroValue4
 t5:=Tryz.underlying5
 a5:=Tryz.isAgg5
 z5:=Tryz.sizeOf5
 v5:=Tryz.zeroValue5
 t9:=Tryz.underlying9
 a9:=Tryz.isAgg9
 z9:=Tryz.sizeOf9
 v9:=Tryz.zeroValue9
 t21:=Tryz.underlying21
 a21:=Tryz.isAgg21
 z21:=Tryz.sizeOf21
 v21:=Tryz.zeroValue21
 t31:=Tryz.underlying60
 a31:=Tryz.isAgg60
 z31:=Tryz.sizeOf60
 v31:=Tryz.zeroValue60
 t46:=Tryz.underlying101
 a46:=Tryz.isAgg101
 z46:=Tryz.sizeOf101
 v46:=Tryz.zeroValue101
 t51:=Tryz.underlying129
 a51:=Tryz.isAgg129
 z51:=Tryz.sizeOf129
 v51:=Tryz.zeroValue129
 t105:=Tryz.underlying109
 a105:=Tryz.isAgg109
 z105:=Tryz.sizeOf109
 v105:=Tryz.zeroValue109
 t119:=Tryz.underlying125
 a119:=Tryz.isAgg125
 z119:=Tryz.sizeOf125
 t138:=Tryz.underlying127
 a138:=Tryz.isAgg127
 z138:=Tryz.sizeOf127
 v138:=Tryz.zeroValue127
 t139:=Tryz.underlying128
 a139:=Tryz.isAgg128
 z139:=Tryz.sizeOf128
 v139:=Tryz.zeroValue128
 t146:=Tryz.underlying130
 a146:=Tryz.isAgg130
 z146:=Tryz.sizeOf130
 v146:=Tryz.zeroValue130
 g1:=by kernel_rfl
 g3:=by kernel_rfl
 g4:=by kernel_rfl
 i0:=by kernel_rfl
 i3:=by kernel_rfl
 i4:=by kernel_rfl
 i5:=by kernel_rfl
 i9:=by kernel_rfl
 i21:=by kernel_rfl
 i31:=by kernel_rfl
 i46:=by kernel_rfl
 i51:=by kernel_rfl
 i105:=by kernel_rfl
 i138:=by kernel_rfl
 i139:=by kernel_rfl
 i146:=by kernel_rfl
 m1:=by kernel_rfl
 s1_3:=λw h=>Go.Proofs.cell_of_shapedOpen_int (zero:=#[.int .i64 0]) (t:=3) h (of_decide_eq_true (by kernel_rfl)) (by kernel_rfl) rfl (by kernel_rfl) (by kernel_rfl) Tryz.underlying3
 m3:=by kernel_rfl
 m4:=by kernel_rfl}
end Go.Proofs
end
section
namespace Go.Proofs.YtccmackhhppbdaaGreatDoor.Print
open RowKit Af BI BM
set_option linter.unusedVariables false
set_option linter.unusedSimpArgs false
noncomputable def nameOf (g:Nat):String:=((Tryz.prog.globals[g]?).map (·.name)).getD ""
noncomputable def L8:String:=nameOf 5
noncomputable def L9:String:=nameOf 1
noncomputable def MB:String:=nameOf 2
theorem Q6:Tryz.prog.globalNamed L8=some 5:=by kernel_rfl
theorem Q7:Tryz.prog.globalNamed L9=some 1:=by kernel_rfl
theorem Q8:Tryz.prog.globalNamed MB=some 2:=by kernel_rfl
structure DT (w:World):Prop where
 pow:Lib.TabIs Tryz.prog w L8 .u64 Lib.pow10Tab
 syn:∃ tp p,w.var? Tryz.prog L9=some #[.iface tp p]
 rng:∃ tp p,w.var? Tryz.prog MB=some #[.iface tp p]
 mlen:∃ m,w.cell? ⟨0,0,none⟩=some (.int .i64 m)
theorem Hq {w w':World} {n:String} {g:Nat} {cs:Array Value} (hg:Tryz.prog.globalNamed n=some g) (h:w.var? Tryz.prog n=some cs) (hb:Below w.heap.size w w'):w'.var? Tryz.prog n=some cs:=by
 exact Go.Joins.var_stays hg h hb (Nat.le_refl _)
theorem cell_below {w w':World} {a:Addr} {v:Value} (h:w.cell? a=some v) (hb:Below w.heap.size w w'):w'.cell? a=some v:=by
 have hlt:a.block<w.heap.size:=by
  by_cases hl:a.block<w.heap.size
  ·exact hl
  ·exfalso;have:w.heap[a.block]? =none:=Array.getElem?_eq_none (by omega);simp [World.cell?,this] at h
 rw [hb.cell hlt];exact h
theorem DT.below {w w':World} (h:DT w) (hb:Below w.heap.size w w'):DT w':=
 ⟨Hq Q6 h.pow hb,by obtain ⟨tp,p,hv⟩:=h.syn;exact ⟨tp,p,Hq Q7 hv hb⟩,by obtain ⟨tp,p,hv⟩:=h.rng;exact ⟨tp,p,Hq Q8 hv hb⟩
 ,by obtain ⟨m,hm⟩:=h.mlen;exact ⟨m,cell_below hm hb⟩
 ⟩
theorem DT.drewN {w:World} {n:Nat} (h:DT w):DT (w.drewN n):=h.below (by apply CR;exact Below.refl _ _)
theorem DT.drew {w:World} (h:DT w):DT w.drew:=h.below (by apply Cg;exact Below.refl _ _)
theorem DT.alloc {w:World} {o:Obj} (h:DT w):DT (w.alloc o):=h.below (by apply Bi;exact Below.refl _ _)
def FL (n:Int):ByteArray:=⟨(Lib.itoa n).toArray⟩
def strconv_Itoa.f (a0:Int):Option ByteArray:=if -9223372036854775808<=a0 then (if a0<=9223372036854775807 then some (FL a0) else none) else none
theorem strconv_Itoa.calls (a0:Int) (r:ByteArray) (w:World) (hG:AA (DT w)) (h:strconv_Itoa.f a0=some r):
 Calls Tryz.prog 82 #[.int .i64 a0] w λe w'=>e= .returned (.string r)/\Below w.heap.size w w':=by
 unfold strconv_Itoa.f at h;by_cases h0: -9223372036854775808<=a0
 ·rw [if_pos h0] at h;by_cases h1:a0<=9223372036854775807
  ·rw [if_pos h1] at h;obtain rfl:=Option.some.inj h;refine (Any.strconv_Itoa Tryz.Ny a0 h0 h1 w (Eq.mp (congrArg (λz=>Lib.TabIs Tryz.prog w z .u64 Lib.pow10Tab) (by kernel_rfl)) hG.out.pow)).mono ?_;rintro e w' ⟨rfl,k,os,rfl⟩;exact ⟨rfl,Lib.below_grow _ _ (Nat.le_refl _) _ _⟩
  ·rw [if_neg h1] at h;exact absurd h (by simp)
 ·rw [if_neg h0] at h;exact absurd h (by simp)
def FC.f (a0:Int):Option ByteArray:=strconv_Itoa.f a0
theorem FC.calls (a0:Int) (r:ByteArray) (w:World) (hG:AA (DT w)) (h:FC.f a0=some r):
 Calls Tryz.prog 72 #[.int .i64 a0] w λe w'=>e= .returned (.string r)/\Below w.heap.size w w':=by
 have H:=AA.mk h;clear h;go_enter Tryz.func72,Tryz.ntmps72;go_wp2_with (go_at_call 82;refine (strconv_Itoa.calls a0 r _ hG H.out).mono ?_;rintro e w' ⟨rfl,hb⟩);go_ret;exact ⟨rfl,hb⟩
def EG (s:ByteArray):Int×Bool:=if s.size>20 then (0,false) else match Lib.atoiAll s.data.toList with
 | .ok v=>if (FL v).toList=s.toList then (v,true) else (0,false)
 |_=>(0,false)
def FM.f (a0:ByteArray):Option (Int×Bool):=some (EG a0)
theorem MC (s:ByteArray) (hs:s.size<=20) (v:Int) (h:Lib.atoiAll s.data.toList= .ok v) (w:World):
 Calls Tryz.prog 71 #[.string s] w λe w'=>e= .returned (.tuple #[.int .i64 v, .nilIface])/\Below w.heap.size w w':=by
 refine (Any.strconv_Atoi_ok Tryz.Ih s (by omega) v h w).mono ?_;rintro e w' ⟨rfl,hw|⟨t,hw⟩⟩
 ·subst hw;exact ⟨rfl,Below.refl _ _⟩
 ·subst hw;exact ⟨rfl,Lib.bytesWorld_below _ _ _⟩
theorem ME (s:ByteArray) (hs:s.size<=20) (h:∀ v,Lib.atoiAll s.data.toList≠ .ok v) (w:World) (hG:DT w):
 Calls Tryz.prog 71 #[.string s] w λe w'=>∃ n t p,e= .returned (.tuple #[.int .i64 n, .iface t p])/\Below w.heap.size w w':=by
 cases hv:Lib.atoiAll s.data.toList with
 |ok v=>exact absurd hv (h v)
 |range=>
  obtain ⟨tp,p,hvar⟩:=hG.rng;refine (Any.strconv_Atoi_range_var Tryz.Ih s (by omega) hv tp p w (Eq.mp (congrArg (λz=>w.var? Tryz.prog z=some #[.iface tp p]) (by kernel_rfl)) hvar)).mono ?_;rintro e w' ⟨N,rfl,_,_,hb⟩;exact ⟨_,_,_,rfl,hb⟩
 |_=>
  obtain ⟨tp,p,hvar⟩:=hG.syn;refine (Any.strconv_Atoi_syntax_var Tryz.Ih s (by omega) hv tp p w (Eq.mp (congrArg (λz=>w.var? Tryz.prog z=some #[.iface tp p]) (by kernel_rfl)) hvar)).mono ?_;rintro e w' ⟨N,rfl,_,_,hb⟩;exact ⟨_,_,_,rfl,hb⟩
theorem Ni (v:Int) (h: -9223372036854775808<=v/\v<=9223372036854775807):FC.f v=some (FL v):=by
 unfold FC.f strconv_Itoa.f;rw [if_pos h.1,if_pos h.2]
theorem LQ {l:List UInt8} {v:Int} (h:Lib.atoiAll l= .ok v): -9223372036854775808<=v/\v<=9223372036854775807:=by
 unfold Lib.atoiAll at h;cases l with
 |nil=>cases h
 |cons c r=>
  simp only at h;split at h
  ·cases h
  ·cases h
  ·rename_i u hu;have:=Lib.parseMag_lt hu;split at h
   ·cases h
   ·split at h
    ·cases h
    ·rename_i h1 h2;injection h with h
     rw [<-h];split<;>omega
theorem FM.calls (a0:ByteArray) (r1:Int) (r2:Bool) (w:World) (hG:AA (DT w)) (h:FM.f a0=some (r1,r2)):
 Calls Tryz.prog 52 #[.string a0] w λe w'=>e= .returned (.tuple #[.int .i64 r1, .bool r2])/\Below w.heap.size w w':=by
 have h':EG a0=(r1,r2):=Option.some.inj h;clear h;unfold EG at h';by_cases hs:a0.size>20
 ·rw [if_pos hs] at h';obtain ⟨rfl,rfl⟩:=Prod.mk.inj h';clear h';have hs1:decide (20<(a0.size:Int))=true:=decide_eq_true (by omega);clear hs;go_enter Tryz.func52,Tryz.ntmps52;go_wp2;go_ret2;exact ⟨rfl,Below.refl _ _⟩
 ·rw [if_neg hs] at h';have hs1:decide (20<(a0.size:Int))=false:=decide_eq_false (by omega);have hs2:=AA.mk (show a0.size<=20 by omega);clear hs;cases hv:Lib.atoiAll a0.data.toList with
  |ok v=>
   rw [hv] at h';simp only at h';have hv':=AA.mk hv;have hp':=AA.mk (Ni v (LQ hv));clear hv;by_cases hb:(FL v).toList=a0.toList
   ·rw [if_pos hb] at h';obtain ⟨rfl,rfl⟩:=Prod.mk.inj h';clear h';have hb1:((FL v).toList != a0.toList)=false:=by rw [hb];simp
    have hb2:((FL v).toList==a0.toList)=true:=by rw [hb];simp
    clear hb;go_enter Tryz.func52,Tryz.ntmps52;go_wp2_with (first|(go_at_call 71;refine (MC a0 hs2.out v hv'.out _).mono ?_;rintro e w1 ⟨rfl,hb1'⟩;have HB1:=AA.mk hb1';clear hb1')|(go_at_call 72;refine (FC.calls v (FL v) _ (AA.mk (hG.out.below HB1.out)) hp'.out).mono ?_;rintro e w2 ⟨rfl,hb2'⟩;have HB2:=AA.mk hb2';clear hb2'));go_ret2;exact ⟨rfl,HB1.out.trans (HB2.out.mono HB1.out.size)⟩
   ·rw [if_neg hb] at h';obtain ⟨rfl,rfl⟩:=Prod.mk.inj h';clear h';have hb1:((FL v).toList != a0.toList)=true:=by simpa using hb
    have hb2:((FL v).toList==a0.toList)=false:=by simpa using hb
    clear hb;go_enter Tryz.func52,Tryz.ntmps52;go_wp2_with (first|(go_at_call 71;refine (MC a0 hs2.out v hv'.out _).mono ?_;rintro e w1 ⟨rfl,hb1'⟩;have HB1:=AA.mk hb1';clear hb1')|(go_at_call 72;refine (FC.calls v (FL v) _ (AA.mk (hG.out.below HB1.out)) hp'.out).mono ?_;rintro e w2 ⟨rfl,hb2'⟩;have HB2:=AA.mk hb2';clear hb2'));go_ret2;exact ⟨rfl,HB1.out.trans (HB2.out.mono HB1.out.size)⟩
  |range=>
   rw [hv] at h';obtain ⟨rfl,rfl⟩:=Prod.mk.inj h';clear h';have hv':=AA.mk (show ∀ v,Lib.atoiAll a0.data.toList≠ .ok v by rw [hv];intro v e;cases e);clear hv;go_enter Tryz.func52,Tryz.ntmps52;go_wp2_with (go_at_call 71;refine (ME a0 hs2.out hv'.out _ hG.out).mono ?_;rintro e w1 ⟨n1,t1,p1,rfl,hb1'⟩;have HB1:=AA.mk hb1';clear hb1');go_ret2;exact ⟨rfl,HB1.out⟩
  |_=>
   rw [hv] at h';obtain ⟨rfl,rfl⟩:=Prod.mk.inj h';clear h';have hv':=AA.mk (show ∀ v,Lib.atoiAll a0.data.toList≠ .ok v by rw [hv];intro v e;cases e);clear hv;go_enter Tryz.func52,Tryz.ntmps52;go_wp2_with (go_at_call 71;refine (ME a0 hs2.out hv'.out _ hG.out).mono ?_;rintro e w1 ⟨n1,t1,p1,rfl,hb1'⟩;have HB1:=AA.mk hb1';clear hb1');go_ret2;exact ⟨rfl,HB1.out⟩
end Go.Proofs.YtccmackhhppbdaaGreatDoor.Print
end
section
namespace Go.Proofs.YtccmackhhppbdaaGreatDoor.Print
open RowKit Af BI BM
set_option linter.unusedVariables false
set_option linter.unusedSimpArgs false
structure El (W0 w:World) (g n:Nat) (f:Nat->Int):Prop where
 cell:∀ j,j<n->w.cell? ⟨g,j,none⟩=some (.int .u8 (f j))
 frz:∀ j,j<n->w.frozen? ⟨g,j,none⟩=false
 below:Below W0.heap.size W0 w
 base:W0.heap.size<=g
 lt:g<w.heap.size
theorem El.congr {W0 w:World} {g n:Nat} {f f':Nat->Int} (h:El W0 w g n f) (e:∀ j,j<n->f j=f' j):El W0 w g n f':=
 ⟨λj hj=>by rw [h.cell j hj,e j hj],h.frz,h.below,h.base,h.lt⟩
theorem El.set {W0 w:World} {g n:Nat} {f:Nat->Int} (h:El W0 w g n f) {k:Nat} (hk:k<n) (x:Int):El W0 (w.setCell ⟨g,k,none⟩ (.int .u8 x)) g n (λj=>if j=k then x else f j):=by
 refine ⟨λj hj=>?_,λj hj=>?_,h.below.setCell h.base _,h.base,by simpa using h.lt⟩
 ·by_cases e:j=k
  ·subst e;rw [if_pos rfl];exact World.cell?_setCell_same _ _ _ (h.cell j hj)
  ·rw [if_neg e];exact (World.cell?_setCell_other _ _ _ _ (by intro e2;injection e2 with _ e3;exact e e3.symm)).trans (h.cell j hj)
 ·rw [World.frozen?_setCell];exact h.frz j hj
theorem KV (w:World) (e:TypeId) (s:ByteArray):El w (Lib.bytesWorld w e s) w.heap.size s.size (λj=>(bytesOf s).getD j 0):=by
 refine ⟨λj hj=>?_,λj hj=>?_,Lib.bytesWorld_below w e s,Nat.le_refl _,by rw [Lib.bytesWorld_size];omega⟩
 ·rw [Lib.bytesWorld_cell w e s j hj];have hj':j<s.data.size:=hj;simp [bytesOf,List.getD,Array.getElem?_eq_getElem hj']
 ·have hb:(Lib.bytesCells w e s).size>=s.size:=by simp [Lib.bytesCells]
  simp only [World.frozen?,Lib.bytesWorld_at_new];simp;omega
theorem Mt {W0 w:World} {g n:Nat} {f:Nat->Int} (h:El W0 w g n f) (hn:n<=9223372036854775807):Dc w .u8 (some ⟨g,0,none⟩) n ((List.range n).map f):=by
 refine ⟨by simp,hn,λ_=>⟨_,rfl,λj hj=>?_⟩⟩;rw [add_plain,h.cell j (by simpa using hj)];have hj':j<n:=by simpa using hj
 simp [hj']
def GD (c:Int):Int:=if 65<=c/\c<=90 then c+32 else c
def Fb (s:ByteArray):ByteArray:=strOfNums ((bytesOf s).map GD)
theorem LU (s:ByteArray):(List.range s.size).map (λj=>GD ((bytesOf s).getD j 0))=(bytesOf s).map GD:=by
 apply List.ext_getElem?;intro i;by_cases h:i<s.size
 ·have h':i<(bytesOf s).length:=by rw [bytesOf_length];exact h
  simp [h,h',List.getD]
 ·simp [h,bytesOf_length]
theorem KW {W0 w:World} {g k:Nat} {s:ByteArray} (h:El W0 w g s.size (λj=>if j<k then GD ((bytesOf s).getD j 0) else (bytesOf s).getD j 0)) {c:Int} (hk:k<s.size) (hc:c=(bytesOf s).getD k 0) (h0:65<=c) (h1:c<=90) {x:Int} (hx:x=c+32):
 El W0 (w.setCell ⟨g,k,none⟩ (.int .u8 x)) g s.size (λj=>if j<k+1 then GD ((bytesOf s).getD j 0) else (bytesOf s).getD j 0):=by
 refine (h.set hk x).congr λj hj=>?_
 by_cases e:j=k
 ·subst e;simp only [if_true,if_pos (Nat.lt_succ_self _), <-hc];unfold GD;rw [if_pos ⟨h0,h1⟩,hx]
 ·simp only [if_neg e];by_cases l:j<k
  ·rw [if_pos l,if_pos (by omega)]
  ·rw [if_neg l,if_neg (by omega)]
theorem Gz {W0 w:World} {g k:Nat} {s:ByteArray} (h:El W0 w g s.size (λj=>if j<k then GD ((bytesOf s).getD j 0) else (bytesOf s).getD j 0)) {c:Int} (hk:k<s.size) (hc:c=(bytesOf s).getD k 0) (hn:¬(65<=c/\c<=90)):
 El W0 w g s.size (λj=>if j<k+1 then GD ((bytesOf s).getD j 0) else (bytesOf s).getD j 0):=by
 refine h.congr λj hj=>?_
 by_cases e:j=k
 ·subst e;simp only [if_neg (Nat.lt_irrefl _),if_pos (Nat.lt_succ_self _), <-hc];unfold GD;rw [if_neg hn]
 ·by_cases l:j<k
  ·rw [if_pos l,if_pos (by omega)]
  ·rw [if_neg l,if_neg (by omega)]
theorem KX {W0 w:World} {g k cap:Nat} {s:ByteArray} (hs:s.size<=9223372036854775806) (h:El W0 w g s.size (λj=>if j<k then GD ((bytesOf s).getD j 0) else (bytesOf s).getD j 0)) (hk:s.size<=k):
 (convert 94 9 (.slice (some ⟨g,0,none⟩) s.size cap)).run Tryz.prog w= .ok (.string (Fb s)) w:=by
 have hr:=Mt (f:=λj=>GD ((bytesOf s).getD j 0)) (h.congr λj hj=>by rw [if_pos (by omega)]) (by omega);rw [LU] at hr;exact IQ Tryz.underlying94 Tryz.underlying5 Tryz.underlying9 hr
def Dh.f (a0:ByteArray):Option ByteArray:=if a0.size<=9223372036854775806 then some (Fb a0) else none
set_option maxHeartbeats 4000000 in
set_option maxRecDepth 100000 in
theorem Dh.calls (a0:ByteArray) (r:ByteArray) (w:World) (h:Dh.f a0=some r):
 Calls Tryz.prog 49 #[.string a0] w λe w'=>e= .returned (.string r)/\Below w.heap.size w w':=by
 unfold Dh.f at h;by_cases hs:a0.size<=9223372036854775806
 ·rw [if_pos hs] at h;obtain rfl:=Option.some.inj h;clear h;obtain ⟨wB,g,cap,hconv,HR⟩:∃ wB g cap,(convert 9 94 (.string a0)).run Tryz.prog w= .ok (.slice (some ⟨g,0,none⟩) a0.size cap) wB/\AA (El w wB g a0.size (λj=>(bytesOf a0).getD j 0)):=
   ⟨_,_,_,Lib.run_convert_string_bytes w _ _ _ a0 Tryz.underlying9 Tryz.underlying94 Tryz.underlying5,⟨KV w _ a0⟩⟩
  go_enter Tryz.func49,Tryz.ntmps49;go_wp2;go_loopw [9] (λv9 wr=>∃ k:Nat,k<=a0.size/\v9= .int .i64 k/\AA (El w wr g a0.size (λj=>if j<k then GD ((bytesOf a0).getD j 0) else (bytesOf a0).getD j 0))) (λv9 _=>a0.size - (intOf v9).toNat);case atStart=>exact ⟨0,Nat.zero_le _,rfl,⟨HR.out.congr λj _=>by simp⟩⟩
  case round=>
   obtain ⟨k,hk,rfl,HK⟩:=hrel;by_cases hlt:k<a0.size
   ·obtain ⟨c,hc⟩:∃ c:Int,c=(bytesOf a0).getD k 0:=⟨_,rfl⟩;have hcell:wr.cell? ⟨g,k,none⟩=some (.int .u8 c):=by rw [HK.out.cell k hlt,if_neg (Nat.lt_irrefl _),hc]
    have hfr:=HK.out.frz k hlt;have HC:=AA.mk hc;clear hc;go_wp2
    ·go_roundw;case rel=>exact ⟨k+1,by omega,by go_num,⟨KW HK.out hlt HC.out (by assumption) (by assumption) (by omega)⟩⟩
     case measure=>simp [intOf];omega
    ·go_roundw;case rel=>exact ⟨k+1,by omega,by go_num,⟨Gz HK.out hlt HC.out (by omega)⟩⟩
     case measure=>simp [intOf];omega
    ·go_roundw;case rel=>exact ⟨k+1,by omega,by go_num,⟨Gz HK.out hlt HC.out (by omega)⟩⟩
     case measure=>simp [intOf];omega
   ·have hback:=KX (cap:=cap) hs HK.out (by omega);go_wp2;go_ret;exact ⟨rfl,HK.out.below⟩
 ·rw [if_neg hs] at h;exact absurd h (by simp)
def Ie (s sep:ByteArray):List ByteArray:=Lib.splitB sep 0 (Lib.countB s sep) s
def strings_Split.f (a0 a1:ByteArray):Option (List ByteArray):=if a0.size<4294967281/\1<=a1.size then some (Ie a0 a1) else none
theorem strings_Split.calls (a0 a1:ByteArray) (r:List ByteArray) (w:World) (hG:AA (DT w)) (h:strings_Split.f a0 a1=some r):
 Calls Tryz.prog 51 #[.string a0, .string a1] w λe w'=>∃ v0_:Value,e= .returned (v0_)/\Kd.R Kd.string 9 w' w.heap.size (λ_=>True) v0_ r/\Below w.heap.size w w':=by
 unfold strings_Split.f at h;by_cases hc:a0.size<4294967281/\1<=a1.size
 ·rw [if_pos hc] at h;obtain rfl:=Option.some.inj h;obtain ⟨m,hm⟩:=hG.out.mlen;have L:=Tryz.Ke;refine (Any.strings_Split {L with} L.i9 a0 a1 m w hc.1 hm hc.2).mono ?_;rintro e w' ⟨rfl,rfl⟩;have hlen:(Ie a0 a1).length=Lib.countB a0 a1+1:=Lib.splitB_all a1 hc.2 0 _ a0 rfl;have hle:=Lib.countB_le a1 hc.2 a0.size a0 (Nat.le_refl _);refine ⟨_,rfl,Kd.OC (enc:=Value.string) ?_ (λ_ _=>trivial),(Below.refl _ _).alloc (Nat.le_refl _) _⟩;rw [hlen];refine ⟨by simp [encs,hlen], .inr ⟨w.heap.size,_,((Ie a0 a1).map Value.string).toArray,rfl,Nat.le_refl _,?_,Nat.le_refl _,by unfold maxLen;omega,?_,?_⟩⟩
  ·exact (show ∀ (w:World) (o:Obj),(w.alloc o).heap[w.heap.size]? =some o from λw o=>Array.getElem?_push_size) w _
  ·simp [hlen]
  ·rw [<-hlen,Nat.mul_one];exact List.take_of_length_le (by simp)
 ·rw [if_neg hc] at h;exact absurd h (by simp)
end Go.Proofs.YtccmackhhppbdaaGreatDoor.Print
end
section
namespace Go.Proofs.YtccmackhhppbdaaGreatDoor.Print
open RowKit Af BI BM
set_option linter.unusedVariables false
set_option linter.unusedSimpArgs false
def Ce.f (a0:ByteArray):Option ByteArray:=if a0.size<=9223372036854775806 then some (Fb a0) else none
set_option maxHeartbeats 4000000 in
set_option maxRecDepth 100000 in
theorem Ce.calls (a0:ByteArray) (r:ByteArray) (w:World) (h:Ce.f a0=some r):
 Calls Tryz.prog 61 #[.string a0] w λe w'=>e= .returned (.string r)/\Below w.heap.size w w':=by
 unfold Ce.f at h;by_cases hs:a0.size<=9223372036854775806
 ·rw [if_pos hs] at h;obtain rfl:=Option.some.inj h;clear h;obtain ⟨wB,g,cap,hconv,HR⟩:∃ wB g cap,(convert 9 94 (.string a0)).run Tryz.prog w= .ok (.slice (some ⟨g,0,none⟩) a0.size cap) wB/\AA (El w wB g a0.size (λj=>(bytesOf a0).getD j 0)):=
   ⟨_,_,_,Lib.run_convert_string_bytes w _ _ _ a0 Tryz.underlying9 Tryz.underlying94 Tryz.underlying5,⟨KV w _ a0⟩⟩
  go_enter Tryz.func61,Tryz.ntmps61;go_wp2;go_loopw [4] (λv4 wr=>∃ k:Nat,k<=a0.size/\v4= .int .i64 k/\AA (El w wr g a0.size (λj=>if j<k then GD ((bytesOf a0).getD j 0) else (bytesOf a0).getD j 0))) (λv4 _=>a0.size - (intOf v4).toNat);case atStart=>exact ⟨0,Nat.zero_le _,rfl,⟨HR.out.congr λj _=>by simp⟩⟩
  case round=>
   obtain ⟨k,hk,rfl,HK⟩:=hrel;by_cases hlt:k<a0.size
   ·obtain ⟨c,hc⟩:∃ c:Int,c=(bytesOf a0).getD k 0:=⟨_,rfl⟩;have hcell:wr.cell? ⟨g,k,none⟩=some (.int .u8 c):=by rw [HK.out.cell k hlt,if_neg (Nat.lt_irrefl _),hc]
    have hfr:=HK.out.frz k hlt;have HC:=AA.mk hc;clear hc;by_cases h0:65<=c
    ·by_cases h1:c<=90
     ·go_wp2;go_roundw;case rel=>exact ⟨k+1,by omega,by go_num,⟨KW HK.out hlt HC.out (by assumption) (by assumption) (by omega)⟩⟩
      case measure=>simp [intOf];omega
     ·go_wp2;go_roundw;case rel=>exact ⟨k+1,by omega,by go_num,⟨Gz HK.out hlt HC.out (by omega)⟩⟩
      case measure=>simp [intOf];omega
    ·go_wp2;go_roundw;case rel=>exact ⟨k+1,by omega,by go_num,⟨Gz HK.out hlt HC.out (by omega)⟩⟩
     case measure=>simp [intOf];omega
   ·have hback:=KX (cap:=cap) hs HK.out (by omega);go_wp2;go_ret;exact ⟨rfl,HK.out.below⟩
 ·rw [if_neg hs] at h;exact absurd h (by simp)
end Go.Proofs.YtccmackhhppbdaaGreatDoor.Print
end
