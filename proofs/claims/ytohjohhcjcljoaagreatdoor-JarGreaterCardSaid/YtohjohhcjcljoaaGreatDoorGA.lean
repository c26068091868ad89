/- The reference's Lower (layer 1), walked by hand. -/
import Derived.Test.YtohjohhcjcljoaaGreatDoorProg
import Derived.Test.YtohjohhcjcljoaaGreatDoorRows
import Derived.Test.YtohjohhcjcljoaaGreatDoorWMore
import Derived.Shelf.Strconv.Atoi
import Derived.Shelf.Strconv.Itoa0
import Derived.Shelf.Strconv.Itoa1
import Derived.Shelf.LaysM
import Derived.Shelf.Strconv.Itoa2
import Derived.Shelf.Strconv.Itoa3
import Derived.Shelf.Strconv.AtoiErrFast
import Derived.Shelf.Strconv.ParseIntEmpty
import Derived.Shelf.Strconv.AtoiFail
import Derived.Shelf.Strconv.Clone
import Derived.Shelf.Strconv.SyntaxError
import Derived.Shelf.LaysC
import Derived.Shelf.Strconv.ToError
import Derived.Shelf.Strconv.Lower
import Derived.Shelf.Strconv.ParseUint10
import Derived.Shelf.Strconv.ParseUint10Empty
import Derived.Shelf.Strconv.ParseUint10Any
import Derived.Shelf.Strconv.ParseInt10
import Derived.Shelf.Strconv.AtoiLong
import Derived.Shelf.Strconv.AtoiInnerAll
import Derived.Shelf.Strconv.RangeError
import Derived.Shelf.Strconv.ToErrorRange
import Derived.Shelf.Strconv.AtoiAll
import Derived.Shelf.Strconv.ErrVarAll
import Derived.Shelf.Strings.Search1
import Derived.Shelf.Strings.Search2
import Derived.Shelf.Strings.Search3
import Derived.Shelf.Strings.Count
import Derived.Shelf.Strings.Shaped
import Derived.Shelf.Strings.Split
import Derived.Shelf.Strings.SplitShaped
import Derived.Shelf.Unicode.DecodeSlow
import Derived.Shelf.Unicode.DecodeAny
import Derived.Lib.SmallJoins
import Derived.Lib.AppendIntMem
import Derived.Lib.AtoiErrMem
import Derived.Lib.LaidTab
import Derived.Stop.LaidErr
import Derived.LoopTactic
section
namespace Go.Proofs
open Shelf
def Tryz.MV:Go.Shelf.Ren:=⟨λ|171=>106|243=>117|246=>126|283=>131|284=>132|285=>133|286=>134|129=>136|317=>135|318=>137|319=>138|320=>139|337=>140|338=>141|n=>n,λ|3=>3|9=>9|2=>2|4=>4|171=>151|0=>0|53=>117|37=>108|5=>5|173=>154|212=>156|51=>143|20=>20|213=>157|46=>116|232=>160|233=>161|n=>n,λ|17=>5|18=>6|19=>7|n=>n⟩
theorem Tryz.Q8:Go.Proofs.LaysM.n171 Tryz.prog Tryz.MV:={
 mixed:=by kernel_rfl
 f129:=Tryz.func136.trans (congrArg some (by kernel_rfl))
 f171:=Tryz.func106.trans (congrArg some (by kernel_rfl))
 f243:=Tryz.func117.trans (congrArg some (by kernel_rfl))
 f246:=Tryz.func126.trans (congrArg some (by kernel_rfl))
 f283:=Tryz.func131.trans (congrArg some (by kernel_rfl))
 f284:=Tryz.func132.trans (congrArg some (by kernel_rfl))
 f285:=Tryz.func133.trans (congrArg some (by kernel_rfl))
 f286:=Tryz.func134.trans (congrArg some (by kernel_rfl))
 f317:=Tryz.func135.trans (congrArg some (by kernel_rfl))
 f318:=Tryz.func137.trans (congrArg some (by kernel_rfl))
 f319:=Tryz.func138.trans (congrArg some (by kernel_rfl))
 f320:=Tryz.func139.trans (congrArg some (by kernel_rfl))
 f337:=Tryz.func140.trans (congrArg some (by kernel_rfl))
 f338:=Tryz.func141.trans (congrArg some (by kernel_rfl))
 t0:=Tryz.underlying0
 a0:=Tryz.isAgg0
 z0:=Tryz.sizeOf0
 v0:=Tryz.zeroValue0
 t2:=Tryz.underlying2
 a2:=Tryz.isAgg2
 z2:=Tryz.sizeOf2
 v2:=Tryz.zeroValue2
 t3:=Tryz.underlying3
 a3:=Tryz.isAgg3
 z3:=Tryz.sizeOf3
 v3:=Tryz.zeroValue3
 t4:=Tryz.underlying4
 a4:=Tryz.isAgg4
 z4:=Tryz.sizeOf4
 v4:=Tryz.zeroValue4
 t5:=Tryz.underlying5
 a5:=Tryz.isAgg5
 z5:=Tryz.sizeOf5
 v5:=Tryz.zeroValue5
 t9:=Tryz.underlying9
 a9:=Tryz.isAgg9
 z9:=Tryz.sizeOf9
 v9:=Tryz.zeroValue9
 t20:=Tryz.underlying20
 a20:=Tryz.isAgg20
 z20:=Tryz.sizeOf20
 v20:=Tryz.zeroValue20
 t37:=Tryz.underlying108
 a37:=Tryz.isAgg108
 z37:=Tryz.sizeOf108
 v37:=Tryz.zeroValue108
 t46:=Tryz.underlying116
 a46:=Tryz.isAgg116
 z46:=Tryz.sizeOf116
 v46:=Tryz.zeroValue116
 t51:=Tryz.underlying143
 a51:=Tryz.isAgg143
 z51:=Tryz.sizeOf143
 v51:=Tryz.zeroValue143
 t53:=Tryz.underlying117
 a53:=Tryz.isAgg117
 z53:=Tryz.sizeOf117
 v53:=Tryz.zeroValue117
 t171:=Tryz.underlying151
 a171:=Tryz.isAgg151
 z171:=Tryz.sizeOf151
 v171:=Tryz.zeroValue151
 t173:=Tryz.underlying154
 a173:=Tryz.isAgg154
 z173:=Tryz.sizeOf154
 v173:=Tryz.zeroValue154
 t212:=Tryz.underlying156
 a212:=Tryz.isAgg156
 z212:=Tryz.sizeOf156
 v212:=Tryz.zeroValue156
 t213:=Tryz.underlying157
 a213:=Tryz.isAgg157
 z213:=Tryz.sizeOf157
 t232:=Tryz.underlying160
 a232:=Tryz.isAgg160
 z232:=Tryz.sizeOf160
 v232:=Tryz.zeroValue160
 t233:=Tryz.underlying161
 a233:=Tryz.isAgg161
 z233:=Tryz.sizeOf161
 v233:=Tryz.zeroValue161
 g17:=by kernel_rfl
 g18:=by kernel_rfl
 g19:=by kernel_rfl
 i0:=by kernel_rfl
 i2:=by kernel_rfl
 i3:=by kernel_rfl
 i4:=by kernel_rfl
 i5:=by kernel_rfl
 i9:=by kernel_rfl
 i20:=by kernel_rfl
 i37:=by kernel_rfl
 i46:=by kernel_rfl
 i51:=by kernel_rfl
 i53:=by kernel_rfl
 i171:=by kernel_rfl
 i173:=by kernel_rfl
 i212:=by kernel_rfl
 i232:=by kernel_rfl
 i233:=by kernel_rfl
 m17:=by kernel_rfl
 m18:=by kernel_rfl
 m19:=by kernel_rfl}
def Tryz.MW:Go.Shelf.Ren:=⟨λ|172=>96|244=>104|245=>105|247=>112|279=>113|280=>114|281=>115|282=>116|287=>123|316=>124|171=>106|205=>125|321=>129|322=>130|243=>117|246=>126|283=>131|284=>132|285=>133|286=>134|129=>136|317=>135|318=>137|319=>138|320=>139|337=>140|338=>141|n=>n,λ|9=>9|3=>3|75=>112|76=>113|4=>4|5=>5|167=>126|37=>108|0=>0|85=>127|2=>2|168=>129|53=>117|175=>133|46=>116|210=>136|127=>147|145=>150|143=>148|21=>21|171=>151|173=>154|212=>156|51=>143|20=>20|213=>157|232=>160|233=>161|80=>162|n=>n,λ|15=>1|16=>2|17=>5|18=>6|19=>7|n=>n⟩
theorem Tryz.Kw:Go.Proofs.LaysC.n172 Tryz.prog Tryz.MW:={
 mixed:=by kernel_rfl
 f129:=Tryz.func136.trans (congrArg some (by kernel_rfl))
 f171:=Tryz.func106.trans (congrArg some (by kernel_rfl))
 f172:=Tryz.func96.trans (congrArg some (by kernel_rfl))
 f205:=Tryz.func125.trans (congrArg some (by kernel_rfl))
 f243:=Tryz.func117.trans (congrArg some (by kernel_rfl))
 f244:=Tryz.func104.trans (congrArg some (by kernel_rfl))
 f245:=Tryz.func105.trans (congrArg some (by kernel_rfl))
 f246:=Tryz.func126.trans (congrArg some (by kernel_rfl))
 f247:=Tryz.func112.trans (congrArg some (by kernel_rfl))
 f279:=Tryz.func113.trans (congrArg some (by kernel_rfl))
 f280:=Tryz.func114.trans (congrArg some (by kernel_rfl))
 f281:=Tryz.func115.trans (congrArg some (by kernel_rfl))
 f282:=Tryz.func116.trans (congrArg some (by kernel_rfl))
 f283:=Tryz.func131.trans (congrArg some (by kernel_rfl))
 f284:=Tryz.func132.trans (congrArg some (by kernel_rfl))
 f285:=Tryz.func133.trans (congrArg some (by kernel_rfl))
 f286:=Tryz.func134.trans (congrArg some (by kernel_rfl))
 f287:=Tryz.func123.trans (congrArg some (by kernel_rfl))
 f316:=Tryz.func124.trans (congrArg some (by kernel_rfl))
 f317:=Tryz.func135.trans (congrArg some (by kernel_rfl))
 f318:=Tryz.func137.trans (congrArg some (by kernel_rfl))
 f319:=Tryz.func138.trans (congrArg some (by kernel_rfl))
 f320:=Tryz.func139.trans (congrArg some (by kernel_rfl))
 f321:=Tryz.func129.trans (congrArg some (by kernel_rfl))
 f322:=Tryz.func130.trans (congrArg some (by kernel_rfl))
 f337:=Tryz.func140.trans (congrArg some (by kernel_rfl))
 f338:=Tryz.func141.trans (congrArg some (by kernel_rfl))
 t0:=Tryz.underlying0
 a0:=Tryz.isAgg0
 z0:=Tryz.sizeOf0
 v0:=Tryz.zeroValue0
 t2:=Tryz.underlying2
 a2:=Tryz.isAgg2
 z2:=Tryz.sizeOf2
 v2:=Tryz.zeroValue2
 t3:=Tryz.underlying3
 a3:=Tryz.isAgg3
 z3:=Tryz.sizeOf3
 v3:=Tryz.zeroValue3
 t4:=Tryz.underlying4
 a4:=Tryz.isAgg4
 z4:=Tryz.sizeOf4
 v4:=Tryz.zeroValue4
 t5:=Tryz.underlying5
 a5:=Tryz.isAgg5
 z5:=Tryz.sizeOf5
 v5:=Tryz.zeroValue5
 t9:=Tryz.underlying9
 a9:=Tryz.isAgg9
 z9:=Tryz.sizeOf9
 v9:=Tryz.zeroValue9
 t20:=Tryz.underlying20
 a20:=Tryz.isAgg20
 z20:=Tryz.sizeOf20
 v20:=Tryz.zeroValue20
 t21:=Tryz.underlying21
 a21:=Tryz.isAgg21
 z21:=Tryz.sizeOf21
 v21:=Tryz.zeroValue21
 t37:=Tryz.underlying108
 a37:=Tryz.isAgg108
 z37:=Tryz.sizeOf108
 v37:=Tryz.zeroValue108
 t46:=Tryz.underlying116
 a46:=Tryz.isAgg116
 z46:=Tryz.sizeOf116
 v46:=Tryz.zeroValue116
 t51:=Tryz.underlying143
 a51:=Tryz.isAgg143
 z51:=Tryz.sizeOf143
 v51:=Tryz.zeroValue143
 t53:=Tryz.underlying117
 a53:=Tryz.isAgg117
 z53:=Tryz.sizeOf117
 v53:=Tryz.zeroValue117
 t75:=Tryz.underlying112
 a75:=Tryz.isAgg112
 z75:=Tryz.sizeOf112
 v75:=Tryz.zeroValue112
 t76:=Tryz.underlying113
 a76:=Tryz.isAgg113
 z76:=Tryz.sizeOf113
 v76:=Tryz.zeroValue113
 t85:=Tryz.underlying127
 a85:=Tryz.isAgg127
 z85:=Tryz.sizeOf127
 v85:=Tryz.zeroValue127
 t127:=Tryz.underlying147
 a127:=Tryz.isAgg147
 z127:=Tryz.sizeOf147
 v127:=Tryz.zeroValue147
 t143:=Tryz.underlying148
 a143:=Tryz.isAgg148
 z143:=Tryz.sizeOf148
 v143:=Tryz.zeroValue148
 t145:=Tryz.underlying150
 a145:=Tryz.isAgg150
 z145:=Tryz.sizeOf150
 v145:=Tryz.zeroValue150
 t167:=Tryz.underlying126
 a167:=Tryz.isAgg126
 z167:=Tryz.sizeOf126
 v167:=Tryz.zeroValue126
 t168:=Tryz.underlying129
 a168:=Tryz.isAgg129
 z168:=Tryz.sizeOf129
 v168:=Tryz.zeroValue129
 t171:=Tryz.underlying151
 a171:=Tryz.isAgg151
 z171:=Tryz.sizeOf151
 v171:=Tryz.zeroValue151
 t173:=Tryz.underlying154
 a173:=Tryz.isAgg154
 z173:=Tryz.sizeOf154
 v173:=Tryz.zeroValue154
 t175:=Tryz.underlying133
 a175:=Tryz.isAgg133
 z175:=Tryz.sizeOf133
 v175:=Tryz.zeroValue133
 t210:=Tryz.underlying136
 a210:=Tryz.isAgg136
 z210:=Tryz.sizeOf136
 v210:=Tryz.zeroValue136
 t212:=Tryz.underlying156
 a212:=Tryz.isAgg156
 z212:=Tryz.sizeOf156
 v212:=Tryz.zeroValue156
 t213:=Tryz.underlying157
 a213:=Tryz.isAgg157
 z213:=Tryz.sizeOf157
 t232:=Tryz.underlying160
 a232:=Tryz.isAgg160
 z232:=Tryz.sizeOf160
 v232:=Tryz.zeroValue160
 t233:=Tryz.underlying161
 a233:=Tryz.isAgg161
 z233:=Tryz.sizeOf161
 v233:=Tryz.zeroValue161
 g15:=by kernel_rfl
 g16:=by kernel_rfl
 g17:=by kernel_rfl
 g18:=by kernel_rfl
 g19:=by kernel_rfl
 t80:=Tryz.underlying162
 a80:=Tryz.isAgg162
 z80:=Tryz.sizeOf162
 v80:=Tryz.zeroValue162
 i0:=by kernel_rfl
 i2:=by kernel_rfl
 i3:=by kernel_rfl
 i4:=by kernel_rfl
 i5:=by kernel_rfl
 i9:=by kernel_rfl
 i20:=by kernel_rfl
 i21:=by kernel_rfl
 i37:=by kernel_rfl
 i46:=by kernel_rfl
 i51:=by kernel_rfl
 i53:=by kernel_rfl
 i75:=by kernel_rfl
 i76:=by kernel_rfl
 i80:=by kernel_rfl
 i85:=by kernel_rfl
 i127:=by kernel_rfl
 i143:=by kernel_rfl
 i145:=by kernel_rfl
 i167:=by kernel_rfl
 i168:=by kernel_rfl
 i171:=by kernel_rfl
 i173:=by kernel_rfl
 i175:=by kernel_rfl
 i210:=by kernel_rfl
 i212:=by kernel_rfl
 i232:=by kernel_rfl
 i233:=by kernel_rfl
 m15:=by kernel_rfl
 m16:=by kernel_rfl
 m17:=by kernel_rfl
 m18:=by kernel_rfl
 m19:=by kernel_rfl
 c0:=by kernel_rfl
 c2:=by kernel_rfl
 c3:=by kernel_rfl
 c4:=by kernel_rfl
 c5:=by kernel_rfl
 c9:=by kernel_rfl
 c20:=by kernel_rfl
 c21:=by kernel_rfl
 c37:=by kernel_rfl
 c46:=by kernel_rfl
 c51:=by kernel_rfl
 c53:=by kernel_rfl
 c75:=by kernel_rfl
 c76:=by kernel_rfl
 c80:=by kernel_rfl
 c85:=by kernel_rfl
 c127:=by kernel_rfl
 c143:=by kernel_rfl
 c145:=by kernel_rfl
 c167:=by kernel_rfl
 c168:=by kernel_rfl
 c171:=by kernel_rfl
 c173:=by kernel_rfl
 c175:=by kernel_rfl
 c210:=by kernel_rfl
 c212:=by kernel_rfl
 c213:=by kernel_rfl
 c232:=by kernel_rfl
 c233:=by kernel_rfl}
def Tryz.MX:Go.Shelf.Ren:=⟨λ|146=>74|221=>95|268=>101|138=>102|143=>103|195=>108|197=>109|218=>110|219=>111|260=>118|217=>119|225=>120|224=>121|267=>122|266=>127|314=>128|n=>n,λ|9=>9|31=>97|3=>3|4=>4|0=>0|105=>123|21=>21|5=>5|46=>116|119=>139|139=>142|138=>141|146=>144|51=>143|n=>n,λ|1=>0|3=>3|4=>4|n=>n⟩
theorem Tryz.NS:Go.Proofs.LaysM.n146 Tryz.prog Tryz.MX:={
 mixed:=by kernel_rfl
 f138:=Tryz.func102.trans (congrArg some (by kernel_rfl))
 f143:=Tryz.func103.trans (congrArg some (by kernel_rfl))
 f146:=Tryz.func74.trans (congrArg some (by kernel_rfl))
 f195:=Tryz.func108.trans (congrArg some (by kernel_rfl))
 f197:=Tryz.func109.trans (congrArg some (by kernel_rfl))
 f217:=Tryz.func119.trans (congrArg some (by kernel_rfl))
 f218:=Tryz.func110.trans (congrArg some (by kernel_rfl))
 f219:=Tryz.func111.trans (congrArg some (by kernel_rfl))
 f221:=Tryz.func95.trans (congrArg some (by kernel_rfl))
 f224:=Tryz.func121.trans (congrArg some (by kernel_rfl))
 f225:=Tryz.func120.trans (congrArg some (by kernel_rfl))
 f260:=Tryz.func118.trans (congrArg some (by kernel_rfl))
 f266:=Tryz.func127.trans (congrArg some (by kernel_rfl))
 f267:=Tryz.func122.trans (congrArg some (by kernel_rfl))
 f268:=Tryz.func101.trans (congrArg some (by kernel_rfl))
 f314:=Tryz.func128.trans (congrArg some (by kernel_rfl))
 t0:=Tryz.underlying0
 a0:=Tryz.isAgg0
 z0:=Tryz.sizeOf0
 v0:=Tryz.zeroValue0
 t3:=Tryz.underlying3
 a3:=Tryz.isAgg3
 z3:=Tryz.sizeOf3
 v3:=Tryz.zeroValue3
 t4:=Tryz.underlying4
 a4:=Tryz.isAgg4
 z4:=Tryz.sizeOf4
 v4:=Tryz.zeroValue4
 t5:=Tryz.underlying5
 a5:=Tryz.isAgg5
 z5:=Tryz.sizeOf5
 v5:=Tryz.zeroValue5
 t9:=Tryz.underlying9
 a9:=Tryz.isAgg9
 z9:=Tryz.sizeOf9
 v9:=Tryz.zeroValue9
 t21:=Tryz.underlying21
 a21:=Tryz.isAgg21
 z21:=Tryz.sizeOf21
 v21:=Tryz.zeroValue21
 t31:=Tryz.underlying97
 a31:=Tryz.isAgg97
 z31:=Tryz.sizeOf97
 v31:=Tryz.zeroValue97
 t46:=Tryz.underlying116
 a46:=Tryz.isAgg116
 z46:=Tryz.sizeOf116
 v46:=Tryz.zeroValue116
 t51:=Tryz.underlying143
 a51:=Tryz.isAgg143
 z51:=Tryz.sizeOf143
 v51:=Tryz.zeroValue143
 t105:=Tryz.underlying123
 a105:=Tryz.isAgg123
 z105:=Tryz.sizeOf123
 v105:=Tryz.zeroValue123
 t119:=Tryz.underlying139
 a119:=Tryz.isAgg139
 z119:=Tryz.sizeOf139
 t138:=Tryz.underlying141
 a138:=Tryz.isAgg141
 z138:=Tryz.sizeOf141
 v138:=Tryz.zeroValue141
 t139:=Tryz.underlying142
 a139:=Tryz.isAgg142
 z139:=Tryz.sizeOf142
 v139:=Tryz.zeroValue142
 t146:=Tryz.underlying144
 a146:=Tryz.isAgg144
 z146:=Tryz.sizeOf144
 v146:=Tryz.zeroValue144
 g1:=by kernel_rfl
 g3:=by kernel_rfl
 g4:=by kernel_rfl
 i0:=by kernel_rfl
 i3:=by kernel_rfl
 i4:=by kernel_rfl
 i5:=by kernel_rfl
 i9:=by kernel_rfl
 i21:=by kernel_rfl
 i31:=by kernel_rfl
 i46:=by kernel_rfl
 i51:=by kernel_rfl
 i105:=by kernel_rfl
 i138:=by kernel_rfl
 i139:=by kernel_rfl
 i146:=by kernel_rfl
 m1:=by kernel_rfl
 s1_3:=λw h=>Go.Proofs.cell_of_shapedOpen_int (zero:=#[.int .i64 0]) (t:=3) h (of_decide_eq_true (by kernel_rfl)) (by kernel_rfl) rfl (by kernel_rfl) (by kernel_rfl) Tryz.underlying3
 m3:=by kernel_rfl
 m4:=by kernel_rfl}
end Go.Proofs
end
section
namespace Go.Proofs.YtohjohhcjcljoaaGreatDoor.Print
open RowKit Ak BR BS
set_option linter.unusedVariables false
set_option linter.unusedSimpArgs false
noncomputable def nameOf (g:Nat):String:=((Tryz.prog.globals[g]?).map (·.name)).getD ""
noncomputable def PQ:String:=nameOf 5
noncomputable def PR:String:=nameOf 1
noncomputable def PS:String:=nameOf 2
theorem Uv:Tryz.prog.globalNamed PQ=some 5:=by kernel_rfl
theorem Uw:Tryz.prog.globalNamed PR=some 1:=by kernel_rfl
theorem Ux:Tryz.prog.globalNamed PS=some 2:=by kernel_rfl
structure C9 (w:World):Prop where
 pow:Lib.TabIs Tryz.prog w PQ .u64 Lib.pow10Tab
 syn:∃ tp p,w.var? Tryz.prog PR=some #[.iface tp p]
 rng:∃ tp p,w.var? Tryz.prog PS=some #[.iface tp p]
 mlen:∃ m,w.cell? ⟨0,0,none⟩=some (.int .i64 m)
theorem Jq {w w':World} {n:String} {g:Nat} {cs:Array Value} (hg:Tryz.prog.globalNamed n=some g) (h:w.var? Tryz.prog n=some cs) (hb:Below w.heap.size w w'):w'.var? Tryz.prog n=some cs:=by
 exact Go.Joins.var_stays hg h hb (Nat.le_refl _)
theorem cell_below {w w':World} {a:Addr} {v:Value} (h:w.cell? a=some v) (hb:Below w.heap.size w w'):w'.cell? a=some v:=by
 have hlt:a.block<w.heap.size:=by
  by_cases hl:a.block<w.heap.size
  ·exact hl
  ·exfalso;have:w.heap[a.block]? =none:=Array.getElem?_eq_none (by omega);simp [World.cell?,this] at h
 rw [hb.cell hlt];exact h
theorem C9.below {w w':World} (h:C9 w) (hb:Below w.heap.size w w'):C9 w':=
 ⟨Jq Uv h.pow hb,by obtain ⟨tp,p,hv⟩:=h.syn;exact ⟨tp,p,Jq Uw hv hb⟩,by obtain ⟨tp,p,hv⟩:=h.rng;exact ⟨tp,p,Jq Ux hv hb⟩
 ,by obtain ⟨m,hm⟩:=h.mlen;exact ⟨m,cell_below hm hb⟩
 ⟩
theorem C9.drewN {w:World} {n:Nat} (h:C9 w):C9 (w.drewN n):=h.below (by apply DD;exact Below.refl _ _)
theorem C9.drew {w:World} (h:C9 w):C9 w.drew:=h.below (by apply Bi;exact Below.refl _ _)
theorem C9.alloc {w:World} {o:Obj} (h:C9 w):C9 (w.alloc o):=h.below (by apply BX;exact Below.refl _ _)
def Gw (n:Int):ByteArray:=⟨(Lib.itoa n).toArray⟩
def strconv_Itoa.f (a0:Int):Option ByteArray:=if -9223372036854775808<=a0 then (if a0<=9223372036854775807 then some (Gw a0) else none) else none
theorem strconv_Itoa.calls (a0:Int) (r:ByteArray) (w:World) (hG:AA (C9 w)) (h:strconv_Itoa.f a0=some r):
 Calls Tryz.prog 106 #[.int .i64 a0] w λe w'=>e= .returned (.string r)/\Below w.heap.size w w':=by
 unfold strconv_Itoa.f at h;by_cases h0: -9223372036854775808<=a0
 ·rw [if_pos h0] at h;by_cases h1:a0<=9223372036854775807
  ·rw [if_pos h1] at h;obtain rfl:=Option.some.inj h;refine (Any.strconv_Itoa Tryz.Q8 a0 h0 h1 w (Eq.mp (congrArg (λz=>Lib.TabIs Tryz.prog w z .u64 Lib.pow10Tab) (by kernel_rfl)) hG.out.pow)).mono ?_;rintro e w' ⟨rfl,k,os,rfl⟩;exact ⟨rfl,Lib.below_grow _ _ (Nat.le_refl _) _ _⟩
  ·rw [if_neg h1] at h;exact absurd h (by simp)
 ·rw [if_neg h0] at h;exact absurd h (by simp)
def Gp.f (a0:Int):Option ByteArray:=strconv_Itoa.f a0
theorem Gp.calls (a0:Int) (r:ByteArray) (w:World) (hG:AA (C9 w)) (h:Gp.f a0=some r):
 Calls Tryz.prog 97 #[.int .i64 a0] w λe w'=>e= .returned (.string r)/\Below w.heap.size w w':=by
 have H:=AA.mk h;clear h;go_enter Tryz.func97,Tryz.ntmps97;go_wp2_with (go_at_call 106;refine (strconv_Itoa.calls a0 r _ hG H.out).mono ?_;rintro e w' ⟨rfl,hb⟩);go_ret;exact ⟨rfl,hb⟩
def FW (s:ByteArray):Int×Bool:=if s.size>20 then (0,false) else match Lib.atoiAll s.data.toList with
 | .ok v=>if (Gw v).toList=s.toList then (v,true) else (0,false)
 |_=>(0,false)
def Gx.f (a0:ByteArray):Option (Int×Bool):=some (FW a0)
theorem PT (s:ByteArray) (hs:s.size<=20) (v:Int) (h:Lib.atoiAll s.data.toList= .ok v) (w:World):
 Calls Tryz.prog 96 #[.string s] w λe w'=>e= .returned (.tuple #[.int .i64 v, .nilIface])/\Below w.heap.size w w':=by
 refine (Any.strconv_Atoi_ok Tryz.Kw s (by omega) v h w).mono ?_;rintro e w' ⟨rfl,hw|⟨t,hw⟩⟩
 ·subst hw;exact ⟨rfl,Below.refl _ _⟩
 ·subst hw;exact ⟨rfl,Lib.bytesWorld_below _ _ _⟩
theorem PU (s:ByteArray) (hs:s.size<=20) (h:∀ v,Lib.atoiAll s.data.toList≠ .ok v) (w:World) (hG:C9 w):
 Calls Tryz.prog 96 #[.string s] w λe w'=>∃ n t p,e= .returned (.tuple #[.int .i64 n, .iface t p])/\Below w.heap.size w w':=by
 cases hv:Lib.atoiAll s.data.toList with
 |ok v=>exact absurd hv (h v)
 |range=>
  obtain ⟨tp,p,hvar⟩:=hG.rng;refine (Any.strconv_Atoi_range_var Tryz.Kw s (by omega) hv tp p w (Eq.mp (congrArg (λz=>w.var? Tryz.prog z=some #[.iface tp p]) (by kernel_rfl)) hvar)).mono ?_;rintro e w' ⟨N,rfl,_,_,hb⟩;exact ⟨_,_,_,rfl,hb⟩
 |_=>
  obtain ⟨tp,p,hvar⟩:=hG.syn;refine (Any.strconv_Atoi_syntax_var Tryz.Kw s (by omega) hv tp p w (Eq.mp (congrArg (λz=>w.var? Tryz.prog z=some #[.iface tp p]) (by kernel_rfl)) hvar)).mono ?_;rintro e w' ⟨N,rfl,_,_,hb⟩;exact ⟨_,_,_,rfl,hb⟩
theorem Qt (v:Int) (h: -9223372036854775808<=v/\v<=9223372036854775807):Gp.f v=some (Gw v):=by
 unfold Gp.f strconv_Itoa.f;rw [if_pos h.1,if_pos h.2]
theorem Ob {l:List UInt8} {v:Int} (h:Lib.atoiAll l= .ok v): -9223372036854775808<=v/\v<=9223372036854775807:=by
 unfold Lib.atoiAll at h;cases l with
 |nil=>cases h
 |cons c r=>
  simp only at h;split at h
  ·cases h
  ·cases h
  ·rename_i u hu;have:=Lib.parseMag_lt hu;split at h
   ·cases h
   ·split at h
    ·cases h
    ·rename_i h1 h2;injection h with h
     rw [<-h];split<;>omega
theorem Gx.calls (a0:ByteArray) (r1:Int) (r2:Bool) (w:World) (hG:AA (C9 w)) (h:Gx.f a0=some (r1,r2)):
 Calls Tryz.prog 75 #[.string a0] w λe w'=>e= .returned (.tuple #[.int .i64 r1, .bool r2])/\Below w.heap.size w w':=by
 have h':FW a0=(r1,r2):=Option.some.inj h;clear h;unfold FW at h';by_cases hs:a0.size>20
 ·rw [if_pos hs] at h';obtain ⟨rfl,rfl⟩:=Prod.mk.inj h';clear h';have hs1:decide (20<(a0.size:Int))=true:=decide_eq_true (by omega);clear hs;go_enter Tryz.func75,Tryz.ntmps75;go_wp2;go_ret2;exact ⟨rfl,Below.refl _ _⟩
 ·rw [if_neg hs] at h';have hs1:decide (20<(a0.size:Int))=false:=decide_eq_false (by omega);have hs2:=AA.mk (show a0.size<=20 by omega);clear hs;cases hv:Lib.atoiAll a0.data.toList with
  |ok v=>
   rw [hv] at h';simp only at h';have hv':=AA.mk hv;have hp':=AA.mk (Qt v (Ob hv));clear hv;by_cases hb:(Gw v).toList=a0.toList
   ·rw [if_pos hb] at h';obtain ⟨rfl,rfl⟩:=Prod.mk.inj h';clear h';have hb1:((Gw v).toList != a0.toList)=false:=by rw [hb];simp
    have hb2:((Gw v).toList==a0.toList)=true:=by rw [hb];simp
    clear hb;go_enter Tryz.func75,Tryz.ntmps75;go_wp2_with (first|(go_at_call 96;refine (PT a0 hs2.out v hv'.out _).mono ?_;rintro e w1 ⟨rfl,hb1'⟩;have HB1:=AA.mk hb1';clear hb1')|(go_at_call 97;refine (Gp.calls v (Gw v) _ (AA.mk (hG.out.below HB1.out)) hp'.out).mono ?_;rintro e w2 ⟨rfl,hb2'⟩;have HB2:=AA.mk hb2';clear hb2'));go_ret2;exact ⟨rfl,HB1.out.trans (HB2.out.mono HB1.out.size)⟩
   ·rw [if_neg hb] at h';obtain ⟨rfl,rfl⟩:=Prod.mk.inj h';clear h';have hb1:((Gw v).toList != a0.toList)=true:=by simpa using hb
    have hb2:((Gw v).toList==a0.toList)=false:=by simpa using hb
    clear hb;go_enter Tryz.func75,Tryz.ntmps75;go_wp2_with (first|(go_at_call 96;refine (PT a0 hs2.out v hv'.out _).mono ?_;rintro e w1 ⟨rfl,hb1'⟩;have HB1:=AA.mk hb1';clear hb1')|(go_at_call 97;refine (Gp.calls v (Gw v) _ (AA.mk (hG.out.below HB1.out)) hp'.out).mono ?_;rintro e w2 ⟨rfl,hb2'⟩;have HB2:=AA.mk hb2';clear hb2'));go_ret2;exact ⟨rfl,HB1.out.trans (HB2.out.mono HB1.out.size)⟩
  |range=>
   rw [hv] at h';obtain ⟨rfl,rfl⟩:=Prod.mk.inj h';clear h';have hv':=AA.mk (show ∀ v,Lib.atoiAll a0.data.toList≠ .ok v by rw [hv];intro v e;cases e);clear hv;go_enter Tryz.func75,Tryz.ntmps75;go_wp2_with (go_at_call 96;refine (PU a0 hs2.out hv'.out _ hG.out).mono ?_;rintro e w1 ⟨n1,t1,p1,rfl,hb1'⟩;have HB1:=AA.mk hb1';clear hb1');go_ret2;exact ⟨rfl,HB1.out⟩
  |_=>
   rw [hv] at h';obtain ⟨rfl,rfl⟩:=Prod.mk.inj h';clear h';have hv':=AA.mk (show ∀ v,Lib.atoiAll a0.data.toList≠ .ok v by rw [hv];intro v e;cases e);clear hv;go_enter Tryz.func75,Tryz.ntmps75;go_wp2_with (go_at_call 96;refine (PU a0 hs2.out hv'.out _ hG.out).mono ?_;rintro e w1 ⟨n1,t1,p1,rfl,hb1'⟩;have HB1:=AA.mk hb1';clear hb1');go_ret2;exact ⟨rfl,HB1.out⟩
end Go.Proofs.YtohjohhcjcljoaaGreatDoor.Print
end
section
namespace Go.Proofs.YtohjohhcjcljoaaGreatDoor.Print
open RowKit Ak BR BS
set_option linter.unusedVariables false
set_option linter.unusedSimpArgs false
structure GU (W0 w:World) (g n:Nat) (f:Nat->Int):Prop where
 cell:∀ j,j<n->w.cell? ⟨g,j,none⟩=some (.int .u8 (f j))
 frz:∀ j,j<n->w.frozen? ⟨g,j,none⟩=false
 below:Below W0.heap.size W0 w
 base:W0.heap.size<=g
 lt:g<w.heap.size
theorem GU.congr {W0 w:World} {g n:Nat} {f f':Nat->Int} (h:GU W0 w g n f) (e:∀ j,j<n->f j=f' j):GU W0 w g n f':=
 ⟨λj hj=>by rw [h.cell j hj,e j hj],h.frz,h.below,h.base,h.lt⟩
theorem GU.set {W0 w:World} {g n:Nat} {f:Nat->Int} (h:GU W0 w g n f) {k:Nat} (hk:k<n) (x:Int):GU W0 (w.setCell ⟨g,k,none⟩ (.int .u8 x)) g n (λj=>if j=k then x else f j):=by
 refine ⟨λj hj=>?_,λj hj=>?_,h.below.setCell h.base _,h.base,by simpa using h.lt⟩
 ·by_cases e:j=k
  ·subst e;rw [if_pos rfl];exact World.cell?_setCell_same _ _ _ (h.cell j hj)
  ·rw [if_neg e];exact (World.cell?_setCell_other _ _ _ _ (by intro e2;injection e2 with _ e3;exact e e3.symm)).trans (h.cell j hj)
 ·rw [World.frozen?_setCell];exact h.frz j hj
theorem NI (w:World) (e:TypeId) (s:ByteArray):GU w (Lib.bytesWorld w e s) w.heap.size s.size (λj=>(bytesOf s).getD j 0):=by
 refine ⟨λj hj=>?_,λj hj=>?_,Lib.bytesWorld_below w e s,Nat.le_refl _,by rw [Lib.bytesWorld_size];omega⟩
 ·rw [Lib.bytesWorld_cell w e s j hj];have hj':j<s.data.size:=hj;simp [bytesOf,List.getD,Array.getElem?_eq_getElem hj']
 ·have hb:(Lib.bytesCells w e s).size>=s.size:=by simp [Lib.bytesCells]
  simp only [World.frozen?,Lib.bytesWorld_at_new];simp;omega
theorem QC {W0 w:World} {g n:Nat} {f:Nat->Int} (h:GU W0 w g n f) (hn:n<=9223372036854775807):Ea w .u8 (some ⟨g,0,none⟩) n ((List.range n).map f):=by
 refine ⟨by simp,hn,λ_=>⟨_,rfl,λj hj=>?_⟩⟩;rw [add_plain,h.cell j (by simpa using hj)];have hj':j<n:=by simpa using hj
 simp [hj']
def IP (c:Int):Int:=if 65<=c/\c<=90 then c+32 else c
def Hq (s:ByteArray):ByteArray:=strOfNums ((bytesOf s).map IP)
theorem Oc (s:ByteArray):(List.range s.size).map (λj=>IP ((bytesOf s).getD j 0))=(bytesOf s).map IP:=by
 apply List.ext_getElem?;intro i;by_cases h:i<s.size
 ·have h':i<(bytesOf s).length:=by rw [bytesOf_length];exact h
  simp [h,h',List.getD]
 ·simp [h,bytesOf_length]
theorem NJ {W0 w:World} {g k:Nat} {s:ByteArray} (h:GU W0 w g s.size (λj=>if j<k then IP ((bytesOf s).getD j 0) else (bytesOf s).getD j 0)) {c:Int} (hk:k<s.size) (hc:c=(bytesOf s).getD k 0) (h0:65<=c) (h1:c<=90) {x:Int} (hx:x=c+32):
 GU W0 (w.setCell ⟨g,k,none⟩ (.int .u8 x)) g s.size (λj=>if j<k+1 then IP ((bytesOf s).getD j 0) else (bytesOf s).getD j 0):=by
 refine (h.set hk x).congr λj hj=>?_
 by_cases e:j=k
 ·subst e;simp only [if_true,if_pos (Nat.lt_succ_self _), <-hc];unfold IP;rw [if_pos ⟨h0,h1⟩,hx]
 ·simp only [if_neg e];by_cases l:j<k
  ·rw [if_pos l,if_pos (by omega)]
  ·rw [if_neg l,if_neg (by omega)]
theorem JO {W0 w:World} {g k:Nat} {s:ByteArray} (h:GU W0 w g s.size (λj=>if j<k then IP ((bytesOf s).getD j 0) else (bytesOf s).getD j 0)) {c:Int} (hk:k<s.size) (hc:c=(bytesOf s).getD k 0) (hn:¬(65<=c/\c<=90)):
 GU W0 w g s.size (λj=>if j<k+1 then IP ((bytesOf s).getD j 0) else (bytesOf s).getD j 0):=by
 refine h.congr λj hj=>?_
 by_cases e:j=k
 ·subst e;simp only [if_neg (Nat.lt_irrefl _),if_pos (Nat.lt_succ_self _), <-hc];unfold IP;rw [if_neg hn]
 ·by_cases l:j<k
  ·rw [if_pos l,if_pos (by omega)]
  ·rw [if_neg l,if_neg (by omega)]
theorem NK {W0 w:World} {g k cap:Nat} {s:ByteArray} (hs:s.size<=9223372036854775806) (h:GU W0 w g s.size (λj=>if j<k then IP ((bytesOf s).getD j 0) else (bytesOf s).getD j 0)) (hk:s.size<=k):
 (convert 108 9 (.slice (some ⟨g,0,none⟩) s.size cap)).run Tryz.prog w= .ok (.string (Hq s)) w:=by
 have hr:=QC (f:=λj=>IP ((bytesOf s).getD j 0)) (h.congr λj hj=>by rw [if_pos (by omega)]) (by omega);rw [Oc] at hr;exact Ka Tryz.underlying108 Tryz.underlying5 Tryz.underlying9 hr
def El.f (a0:ByteArray):Option ByteArray:=if a0.size<=9223372036854775806 then some (Hq a0) else none
set_option maxHeartbeats 4000000 in
set_option maxRecDepth 100000 in
theorem El.calls (a0:ByteArray) (r:ByteArray) (w:World) (h:El.f a0=some r):
 Calls Tryz.prog 72 #[.string a0] w λe w'=>e= .returned (.string r)/\Below w.heap.size w w':=by
 unfold El.f at h;by_cases hs:a0.size<=9223372036854775806
 ·rw [if_pos hs] at h;obtain rfl:=Option.some.inj h;clear h;obtain ⟨wB,g,cap,hconv,HR⟩:∃ wB g cap,(convert 9 108 (.string a0)).run Tryz.prog w= .ok (.slice (some ⟨g,0,none⟩) a0.size cap) wB/\AA (GU w wB g a0.size (λj=>(bytesOf a0).getD j 0)):=
   ⟨_,_,_,Lib.run_convert_string_bytes w _ _ _ a0 Tryz.underlying9 Tryz.underlying108 Tryz.underlying5,⟨NI w _ a0⟩⟩
  go_enter Tryz.func72,Tryz.ntmps72;go_wp2;go_loopw [9] (λv9 wr=>∃ k:Nat,k<=a0.size/\v9= .int .i64 k/\AA (GU w wr g a0.size (λj=>if j<k then IP ((bytesOf a0).getD j 0) else (bytesOf a0).getD j 0))) (λv9 _=>a0.size - (intOf v9).toNat);case atStart=>exact ⟨0,Nat.zero_le _,rfl,⟨HR.out.congr λj _=>by simp⟩⟩
  case round=>
   obtain ⟨k,hk,rfl,HK⟩:=hrel;by_cases hlt:k<a0.size
   ·obtain ⟨c,hc⟩:∃ c:Int,c=(bytesOf a0).getD k 0:=⟨_,rfl⟩;have hcell:wr.cell? ⟨g,k,none⟩=some (.int .u8 c):=by rw [HK.out.cell k hlt,if_neg (Nat.lt_irrefl _),hc]
    have hfr:=HK.out.frz k hlt;have HC:=AA.mk hc;clear hc;go_wp2
    ·go_roundw;case rel=>exact ⟨k+1,by omega,by go_num,⟨NJ HK.out hlt HC.out (by assumption) (by assumption) (by omega)⟩⟩
     case measure=>simp [intOf];omega
    ·go_roundw;case rel=>exact ⟨k+1,by omega,by go_num,⟨JO HK.out hlt HC.out (by omega)⟩⟩
     case measure=>simp [intOf];omega
    ·go_roundw;case rel=>exact ⟨k+1,by omega,by go_num,⟨JO HK.out hlt HC.out (by omega)⟩⟩
     case measure=>simp [intOf];omega
   ·have hback:=NK (cap:=cap) hs HK.out (by omega);go_wp2;go_ret;exact ⟨rfl,HK.out.below⟩
 ·rw [if_neg hs] at h;exact absurd h (by simp)
def Ku (s sep:ByteArray):List ByteArray:=Lib.splitB sep 0 (Lib.countB s sep) s
def strings_Split.f (a0 a1:ByteArray):Option (List ByteArray):=if a0.size<4294967281/\1<=a1.size then some (Ku a0 a1) else none
theorem strings_Split.calls (a0 a1:ByteArray) (r:List ByteArray) (w:World) (hG:AA (C9 w)) (h:strings_Split.f a0 a1=some r):
 Calls Tryz.prog 74 #[.string a0, .string a1] w λe w'=>∃ v0_:Value,e= .returned (v0_)/\Kd.R Kd.string 9 w' w.heap.size (λ_=>True) v0_ r/\Below w.heap.size w w':=by
 unfold strings_Split.f at h;by_cases hc:a0.size<4294967281/\1<=a1.size
 ·rw [if_pos hc] at h;obtain rfl:=Option.some.inj h;obtain ⟨m,hm⟩:=hG.out.mlen;have L:=Tryz.NS;refine (Any.strings_Split {L with} L.i9 a0 a1 m w hc.1 hm hc.2).mono ?_;rintro e w' ⟨rfl,rfl⟩;have hlen:(Ku a0 a1).length=Lib.countB a0 a1+1:=Lib.splitB_all a1 hc.2 0 _ a0 rfl;have hle:=Lib.countB_le a1 hc.2 a0.size a0 (Nat.le_refl _);refine ⟨_,rfl,Kd.RH (enc:=Value.string) ?_ (λ_ _=>trivial),(Below.refl _ _).alloc (Nat.le_refl _) _⟩;rw [hlen];refine ⟨by simp [encs,hlen], .inr ⟨w.heap.size,_,((Ku a0 a1).map Value.string).toArray,rfl,Nat.le_refl _,?_,Nat.le_refl _,by unfold maxLen;omega,?_,?_⟩⟩
  ·exact (show ∀ (w:World) (o:Obj),(w.alloc o).heap[w.heap.size]? =some o from λw o=>Array.getElem?_push_size) w _
  ·simp [hlen]
  ·rw [<-hlen,Nat.mul_one];exact List.take_of_length_le (by simp)
 ·rw [if_neg hc] at h;exact absurd h (by simp)
end Go.Proofs.YtohjohhcjcljoaaGreatDoor.Print
end
section
namespace Go.Proofs.YtohjohhcjcljoaaGreatDoor.Print
open RowKit Ak BR BS
set_option linter.unusedVariables false
set_option linter.unusedSimpArgs false
def Dj.f (a0:ByteArray):Option ByteArray:=if a0.size<=9223372036854775806 then some (Hq a0) else none
set_option maxHeartbeats 4000000 in
set_option maxRecDepth 100000 in
theorem Dj.calls (a0:ByteArray) (r:ByteArray) (w:World) (h:Dj.f a0=some r):
 Calls Tryz.prog 84 #[.string a0] w λe w'=>e= .returned (.string r)/\Below w.heap.size w w':=by
 unfold Dj.f at h;by_cases hs:a0.size<=9223372036854775806
 ·rw [if_pos hs] at h;obtain rfl:=Option.some.inj h;clear h;obtain ⟨wB,g,cap,hconv,HR⟩:∃ wB g cap,(convert 9 108 (.string a0)).run Tryz.prog w= .ok (.slice (some ⟨g,0,none⟩) a0.size cap) wB/\AA (GU w wB g a0.size (λj=>(bytesOf a0).getD j 0)):=
   ⟨_,_,_,Lib.run_convert_string_bytes w _ _ _ a0 Tryz.underlying9 Tryz.underlying108 Tryz.underlying5,⟨NI w _ a0⟩⟩
  go_enter Tryz.func84,Tryz.ntmps84;go_wp2;go_loopw [4] (λv4 wr=>∃ k:Nat,k<=a0.size/\v4= .int .i64 k/\AA (GU w wr g a0.size (λj=>if j<k then IP ((bytesOf a0).getD j 0) else (bytesOf a0).getD j 0))) (λv4 _=>a0.size - (intOf v4).toNat);case atStart=>exact ⟨0,Nat.zero_le _,rfl,⟨HR.out.congr λj _=>by simp⟩⟩
  case round=>
   obtain ⟨k,hk,rfl,HK⟩:=hrel;by_cases hlt:k<a0.size
   ·obtain ⟨c,hc⟩:∃ c:Int,c=(bytesOf a0).getD k 0:=⟨_,rfl⟩;have hcell:wr.cell? ⟨g,k,none⟩=some (.int .u8 c):=by rw [HK.out.cell k hlt,if_neg (Nat.lt_irrefl _),hc]
    have hfr:=HK.out.frz k hlt;have HC:=AA.mk hc;clear hc;by_cases h0:65<=c
    ·by_cases h1:c<=90
     ·go_wp2;go_roundw;case rel=>exact ⟨k+1,by omega,by go_num,⟨NJ HK.out hlt HC.out (by assumption) (by assumption) (by omega)⟩⟩
      case measure=>simp [intOf];omega
     ·go_wp2;go_roundw;case rel=>exact ⟨k+1,by omega,by go_num,⟨JO HK.out hlt HC.out (by omega)⟩⟩
      case measure=>simp [intOf];omega
    ·go_wp2;go_roundw;case rel=>exact ⟨k+1,by omega,by go_num,⟨JO HK.out hlt HC.out (by omega)⟩⟩
     case measure=>simp [intOf];omega
   ·have hback:=NK (cap:=cap) hs HK.out (by omega);go_wp2;go_ret;exact ⟨rfl,HK.out.below⟩
 ·rw [if_neg hs] at h;exact absurd h (by simp)
end Go.Proofs.YtohjohhcjcljoaaGreatDoor.Print
end
