/- The reference's bytes of a token, and of a value, by hand: each class of bytes walked once. -/
import Derived.Test.YtccmackhhppbdaaGreatDoorGA
import Derived.Test.YtccmackhhppbdaaGreatDoorPC
section
namespace Go.Proofs.YtccmackhhppbdaaGreatDoor.Print
open RowKit Af BI BM
set_option linter.unusedVariables false
set_option linter.unusedSimpArgs false
def Gl (c:Int):Bool:=decide (97<=c/\c<=122)||decide (65<=c/\c<=90)||decide (48<=c/\c<=57)||decide (c=33)||decide (35<=c/\c<=39)||decide (c=42)||decide (c=43)||decide (c=45)||decide (c=46)||decide (94<=c/\c<=96)||decide (c=124)||decide (c=126)
def Gm (c:Int):Bool:=decide (33<=c/\c<=126)&& !(decide (c=34)||decide (c=44)||decide (c=59)||decide (c=92))
def Fa (c:Int):Bool:=decide (33<=c/\c<=126)&& !decide (c=59)
theorem Ic {P:Int->Prop} (h:∀ n:Fin 256,P (n.val:Int)) {c:Int} (h0:0<=c) (h1:c<256):P c:=by
 have:=h ⟨c.toNat,by omega⟩;rwa [show ((⟨c.toNat,by omega⟩:Fin 256).val:Int)=c by simp;omega] at this
theorem Q4 {c:Int} (h0:0<=c) (h1:c<256):Ct.Be.f 3 c=some (Gl c):=Ic (P:=λc=>Ct.Be.f 3 c=some (Gl c)) (by decide+kernel) h0 h1
theorem Q5 {c:Int} (h0:0<=c) (h1:c<256):Ct.Dm.f c=some (Gm c):=Ic (P:=λc=>Ct.Dm.f c=some (Gm c)) (by decide+kernel) h0 h1
theorem O8 {c:Int} (h0:0<=c) (h1:c<256):Ct.D5.f c=some (Fa c):=Ic (P:=λc=>Ct.D5.f c=some (Fa c)) (by decide+kernel) h0 h1
theorem Jp (s:ByteArray) (i:Int):0<=bt s i/\bt s i<256:=by
 unfold bt;split
 ·have:=(s[i.toNat]'(by assumption)).toNat_lt;omega
 ·omega
theorem L6 {s:ByteArray} {k:Nat} (h:k<s.size):(bytesOf s).take (k+1)=(bytesOf s).take k++[bt s k]:=by
 have hl:k<(bytesOf s).length:=by rw [bytesOf_length];exact h
 rw [List.take_add_one,List.getElem?_eq_getElem hl];congr 1;rw [<-Io];unfold rd;rw [Int.toNat_natCast,List.getD_eq_getElem?_getD,List.getElem?_eq_getElem hl];rfl
theorem Jq {s:ByteArray} {k:Nat} {g:Int->Bool} (h:k<s.size) (ha:((bytesOf s).take k).all g=true) (hc:g (bt s k)=true):((bytesOf s).take (k+1)).all g=true:=by
 rw [L6 h,List.all_append,ha,List.all_cons,hc];rfl
theorem LP {s:ByteArray} {k:Nat} {g:Int->Bool} (h:k<s.size) (hc:g (bt s k)=false):(bytesOf s).all g=false:=by
 have e:=L6 h;rw [<-List.take_append_drop (k+1) (bytesOf s),List.all_append,e,List.all_append,List.all_cons,hc];simp
theorem Jr {s:ByteArray} {k:Nat} {g:Int->Bool} (h:s.size<=k) (ha:((bytesOf s).take k).all g=true):(bytesOf s).all g=true:=by
 rwa [List.take_of_length_le (by rw [bytesOf_length];exact h)] at ha
set_option maxHeartbeats 4000000 in
set_option maxRecDepth 100000 in
theorem Ms (a0:ByteArray) (w:World) (hs:a0.size<=9223372036854775806):
 Calls Tryz.prog 54 #[.string a0, .func (.func 73) #[] #[]] w λe w'=>e= .returned (.bool ((bytesOf a0).all Fa))/\BA w w':=by
 go_enter Tryz.func54,Tryz.ntmps54;go_wp2;go_loopw [8] (λv8 wr=>∃ k:Nat,k<=a0.size/\v8= .int .i64 k/\AA (((bytesOf a0).take k).all Fa=true)/\BA w wr) (λv8 _=>a0.size - (intOf v8).toNat);case atStart=>exact ⟨0,Nat.zero_le _,rfl,⟨rfl⟩,by repeat (first|exact BA.refl _|apply BA.step)⟩
 case round=>
  obtain ⟨k,hk,rfl,HA,⟨m1,rfl⟩⟩:=hrel;by_cases hlt:k<a0.size
  ·have hb:=Jp a0 k;have p1:=eq_true (show 0<=(k:Int) by omega);have q1:=eq_true (show (k:Int)<(a0.size:Int) by omega);have ec:bt a0 (k:Int)=((a0[k]'hlt).toNat:Int):=by simp [bt,hlt]
   have HF:=AA.mk (O8 hb.1 hb.2);clear hb;cases hg:Fa (bt a0 k) with
   |true=>
    rw [hg,ec] at HF;have HY:=AA.mk (Jq hlt HA.out hg);clear hg;go_wp2_with (go_at_call 73;refine (Ct.D5.calls (((a0[k]'hlt).toNat:Int)) true _ HF.out).mono ?_;rintro e w2 ⟨rfl,⟨nd,rfl⟩⟩);go_roundw;case rel=>exact ⟨k+1,by omega,by go_num,HY,by repeat (first|exact BA.refl _|apply BA.step)⟩
    case measure=>simp [intOf];omega
   |false=>
    rw [hg,ec] at HF;have HY:=AA.mk (LP hlt hg);clear hg;go_wp2_with (go_at_call 73;refine (Ct.D5.calls (((a0[k]'hlt).toNat:Int)) false _ HF.out).mono ?_;rintro e w2 ⟨rfl,⟨nd,rfl⟩⟩);go_ret;exact ⟨by rw [HY.out];rfl,by repeat (first|exact BA.refl _|apply BA.step)⟩
  ·have HY:=AA.mk (Jr (by omega) HA.out);have hl2:decide ((k:Int)<(a0.size:Int))=false:=decide_eq_false (by omega);have hl3:decide (k<a0.size)=false:=decide_eq_false (by omega);go_wp2;go_ret;exact ⟨by rw [HY.out];rfl,by repeat (first|exact BA.refl _|apply BA.step)⟩
def Dr.f (a0:ByteArray):Option Bool:=if a0.size<=9223372036854775806 then some ((bytesOf a0).all Fa) else none
theorem Dr.calls (a0:ByteArray) (r:Bool) (w:World) (h:Dr.f a0=some r):
 Calls Tryz.prog 53 #[.string a0] w λe w'=>e= .returned (.bool r)/\BA w w':=by
 unfold Dr.f at h;by_cases hs:a0.size<=9223372036854775806
 ·rw [if_pos hs] at h;obtain rfl:=Option.some.inj h;clear h;have HS:=AA.mk hs;clear hs;go_enter Tryz.func53,Tryz.ntmps53;go_wp2_with (go_at_call 54;refine (Ms a0 _ HS.out).mono ?_;rintro e w2 ⟨rfl,⟨nd,rfl⟩⟩);go_ret;exact ⟨rfl,by repeat (first|exact BA.refl _|apply BA.step)⟩
 ·rw [if_neg hs] at h;exact absurd h (by simp)
set_option maxHeartbeats 4000000 in
set_option maxRecDepth 100000 in
theorem O9 (a0:ByteArray) (w:World) (hs:a0.size<=9223372036854775806):
 Calls Tryz.prog 54 #[.string a0, .func (.func 57) #[] #[]] w λe w'=>e= .returned (.bool ((bytesOf a0).all Gm))/\BA w w':=by
 go_enter Tryz.func54,Tryz.ntmps54;go_wp2;go_loopw [8] (λv8 wr=>∃ k:Nat,k<=a0.size/\v8= .int .i64 k/\AA (((bytesOf a0).take k).all Gm=true)/\BA w wr) (λv8 _=>a0.size - (intOf v8).toNat);case atStart=>exact ⟨0,Nat.zero_le _,rfl,⟨rfl⟩,by repeat (first|exact BA.refl _|apply BA.step)⟩
 case round=>
  obtain ⟨k,hk,rfl,HA,⟨m1,rfl⟩⟩:=hrel;by_cases hlt:k<a0.size
  ·have hb:=Jp a0 k;have p1:=eq_true (show 0<=(k:Int) by omega);have q1:=eq_true (show (k:Int)<(a0.size:Int) by omega);have ec:bt a0 (k:Int)=((a0[k]'hlt).toNat:Int):=by simp [bt,hlt]
   have HF:=AA.mk (Q5 hb.1 hb.2);clear hb;cases hg:Gm (bt a0 k) with
   |true=>
    rw [hg,ec] at HF;have HY:=AA.mk (Jq hlt HA.out hg);clear hg;go_wp2_with (go_at_call 57;refine (Ct.Dm.calls (((a0[k]'hlt).toNat:Int)) true _ HF.out).mono ?_;rintro e w2 ⟨rfl,⟨nd,rfl⟩⟩);go_roundw;case rel=>exact ⟨k+1,by omega,by go_num,HY,by repeat (first|exact BA.refl _|apply BA.step)⟩
    case measure=>simp [intOf];omega
   |false=>
    rw [hg,ec] at HF;have HY:=AA.mk (LP hlt hg);clear hg;go_wp2_with (go_at_call 57;refine (Ct.Dm.calls (((a0[k]'hlt).toNat:Int)) false _ HF.out).mono ?_;rintro e w2 ⟨rfl,⟨nd,rfl⟩⟩);go_ret;exact ⟨by rw [HY.out];rfl,by repeat (first|exact BA.refl _|apply BA.step)⟩
  ·have HY:=AA.mk (Jr (by omega) HA.out);have hl2:decide ((k:Int)<(a0.size:Int))=false:=decide_eq_false (by omega);have hl3:decide (k<a0.size)=false:=decide_eq_false (by omega);go_wp2;go_ret;exact ⟨by rw [HY.out];rfl,by repeat (first|exact BA.refl _|apply BA.step)⟩
def Cz.f (a0:ByteArray):Option Bool:=if a0.size<=9223372036854775806 then some ((bytesOf a0).all Gm) else none
theorem Cz.calls (a0:ByteArray) (r:Bool) (w:World) (h:Cz.f a0=some r):
 Calls Tryz.prog 36 #[.string a0] w λe w'=>e= .returned (.bool r)/\BA w w':=by
 unfold Cz.f at h;by_cases hs:a0.size<=9223372036854775806
 ·rw [if_pos hs] at h;obtain rfl:=Option.some.inj h;clear h;have HS:=AA.mk hs;clear hs;go_enter Tryz.func36,Tryz.ntmps36;go_wp2_with (go_at_call 54;refine (O9 a0 _ HS.out).mono ?_;rintro e w2 ⟨rfl,⟨nd,rfl⟩⟩);go_ret;exact ⟨rfl,by repeat (first|exact BA.refl _|apply BA.step)⟩
 ·rw [if_neg hs] at h;exact absurd h (by simp)
set_option maxHeartbeats 4000000 in
set_option maxRecDepth 100000 in
theorem PD (a0:ByteArray) (w:World) (hs:a0.size<=9223372036854775806):
 Calls Tryz.prog 54 #[.string a0, .func (.func 55) #[] #[]] w λe w'=>e= .returned (.bool ((bytesOf a0).all Gl))/\BA w w':=by
 go_enter Tryz.func54,Tryz.ntmps54;go_wp2;go_loopw [8] (λv8 wr=>∃ k:Nat,k<=a0.size/\v8= .int .i64 k/\AA (((bytesOf a0).take k).all Gl=true)/\BA w wr) (λv8 _=>a0.size - (intOf v8).toNat);case atStart=>exact ⟨0,Nat.zero_le _,rfl,⟨rfl⟩,by repeat (first|exact BA.refl _|apply BA.step)⟩
 case round=>
  obtain ⟨k,hk,rfl,HA,⟨m1,rfl⟩⟩:=hrel;by_cases hlt:k<a0.size
  ·have hb:=Jp a0 k;have p1:=eq_true (show 0<=(k:Int) by omega);have q1:=eq_true (show (k:Int)<(a0.size:Int) by omega);have ec:bt a0 (k:Int)=((a0[k]'hlt).toNat:Int):=by simp [bt,hlt]
   have HF:=AA.mk (Q4 hb.1 hb.2);clear hb;cases hg:Gl (bt a0 k) with
   |true=>
    rw [hg,ec] at HF;have HY:=AA.mk (Jq hlt HA.out hg);clear hg;go_wp2_with (go_at_call 55;refine (Ct.Be.calls 3 (((a0[k]'hlt).toNat:Int)) true _ HF.out).mono ?_;rintro e w2 ⟨rfl,⟨nd,rfl⟩⟩);go_roundw;case rel=>exact ⟨k+1,by omega,by go_num,HY,by repeat (first|exact BA.refl _|apply BA.step)⟩
    case measure=>simp [intOf];omega
   |false=>
    rw [hg,ec] at HF;have HY:=AA.mk (LP hlt hg);clear hg;go_wp2_with (go_at_call 55;refine (Ct.Be.calls 3 (((a0[k]'hlt).toNat:Int)) false _ HF.out).mono ?_;rintro e w2 ⟨rfl,⟨nd,rfl⟩⟩);go_ret;exact ⟨by rw [HY.out];rfl,by repeat (first|exact BA.refl _|apply BA.step)⟩
  ·have HY:=AA.mk (Jr (by omega) HA.out);have hl2:decide ((k:Int)<(a0.size:Int))=false:=decide_eq_false (by omega);have hl3:decide (k<a0.size)=false:=decide_eq_false (by omega);go_wp2;go_ret;exact ⟨by rw [HY.out];rfl,by repeat (first|exact BA.refl _|apply BA.step)⟩
def DR.f (a0:ByteArray):Option Bool:=if a0.size<=9223372036854775806 then some (!decide (a0.toList=([]:List UInt8))&&(bytesOf a0).all Gl) else none
theorem DR.calls (a0:ByteArray) (r:Bool) (w:World) (h:DR.f a0=some r):
 Calls Tryz.prog 35 #[.string a0] w λe w'=>e= .returned (.bool r)/\BA w w':=by
 unfold DR.f at h;by_cases hs:a0.size<=9223372036854775806
 ·rw [if_pos hs] at h;obtain rfl:=Option.some.inj h;clear h;have HS:=AA.mk hs;clear hs;by_cases hz:a0.toList=([]:List UInt8)
  ·have h1:(a0.toList != ([]:List UInt8))=false:=by rw [hz];rfl
   go_enter Tryz.func35,Tryz.ntmps35;go_wp2;go_ret;exact ⟨by rw [decide_eq_true hz];rfl,by repeat (first|exact BA.refl _|apply BA.step)⟩
  ·have h1:(a0.toList != ([]:List UInt8))=true:=by simpa using hz
   have h2:a0.toList.isEmpty=false:=by simpa using hz
   go_enter Tryz.func35,Tryz.ntmps35;go_wp2_with (go_at_call 54;refine (PD a0 _ HS.out).mono ?_;rintro e w2 ⟨rfl,⟨nd,rfl⟩⟩);go_ret;exact ⟨by rw [decide_eq_false hz];simp [h2],by repeat (first|exact BA.refl _|apply BA.step)⟩
 ·rw [if_neg hs] at h;exact absurd h (by simp)
def Js (m x:Int):Bool:=decide (0<=x)&&decide (x<=m)
theorem Jt {m x:Int} (h:0<=x/\x<=m):Js m x=true:=by unfold Js;rw [decide_eq_true h.1,decide_eq_true h.2];rfl
theorem QT {m x:Int} (h:¬(0<=x/\x<=m)):Js m x=false:=by
 unfold Js;by_cases a:0<=x
 ·rw [decide_eq_false (p:=x<=m) (λb=>h ⟨a,b⟩)];simp
 ·rw [decide_eq_false a];rfl
theorem GZ {m x a b c:Int} (hx:x=a\/x=b\/x=c) (h:¬(0<=x/\x<=m)):(Js m a&&(Js m b&&Js m c))=false:=by
 have:=QT h;rcases hx with rfl|rfl|rfl<;>rw [this]<;>simp
def DL.f (m a b c:Int):Option Bool:=some (Js m a&&(Js m b&&Js m c))
set_option maxHeartbeats 4000000 in
set_option maxRecDepth 100000 in
theorem DL.calls (m a b c:Int) (r:Bool) (w:World) (h:DL.f m a b c=some r):
 Calls Tryz.prog 37 #[.int .i64 m, .agg #[.int .i64 a, .int .i64 b, .int .i64 c]] w λe w'=>e= .returned (.bool r)/\Below w.heap.size w w':=by
 obtain rfl:=Option.some.inj h;clear h;have hu:=Tryz.underlying71;have hi0:∀ W:World,(Instr.index 71 (.agg #[.int .i64 a, .int .i64 b, .int .i64 c]) (.int .i64 0)).run Tryz.prog W= .ok (.int .i64 a) W:=λW=>by rfl
 have hi1:∀ W:World,(Instr.index 71 (.agg #[.int .i64 a, .int .i64 b, .int .i64 c]) (.int .i64 1)).run Tryz.prog W= .ok (.int .i64 b) W:=λW=>by rfl
 have hi2:∀ W:World,(Instr.index 71 (.agg #[.int .i64 a, .int .i64 b, .int .i64 c]) (.int .i64 2)).run Tryz.prog W= .ok (.int .i64 c) W:=λW=>by rfl
 go_enter Tryz.func37,Tryz.ntmps37;go_wp2;go_loopw [8] (λv8 wr=>∃ k:Nat,v8= .int .i64 k/\AA (k<=3)/\AA ((0<k->0<=a/\a<=m)/\(1<k->0<=b/\b<=m)/\(2<k->0<=c/\c<=m))/\wr=w.alloc (.cells #[.int .i64 a, .int .i64 b, .int .i64 c] 71)) (λv8 _=>3 - (intOf v8).toNat);case atStart=>exact ⟨0,rfl,⟨by omega⟩,⟨by omega⟩,rfl⟩
 case round=>
  obtain ⟨k,rfl,HK,HA,rfl⟩:=hrel;have hk:=HK.out
  match k,hk,HK,HA with
  |0,_,HK,HA=>
   by_cases h0:a<0
   ·have d0:decide (a<0)=true:=decide_eq_true h0;have HY:=AA.mk (GZ (m:=m) (x:=a) (a:=a) (b:=b) (c:=c) (by exact .inl rfl) (by omega));clear h0;go_wp2;go_ret;exact ⟨by rw [HY.out];rfl,Bi (Below.refl _ _) _⟩
   ·by_cases h1:m<a
    ·have d0:decide (a<0)=false:=decide_eq_false h0;have d1:decide (m<a)=true:=decide_eq_true h1;have HY:=AA.mk (GZ (m:=m) (x:=a) (a:=a) (b:=b) (c:=c) (by exact .inl rfl) (by omega));clear h0 h1;go_wp2;go_ret;exact ⟨by rw [HY.out];rfl,Bi (Below.refl _ _) _⟩
    ·have d0:decide (a<0)=false:=decide_eq_false h0;have d1:decide (m<a)=false:=decide_eq_false h1;have HY:=AA.mk (show 0<=a/\a<=m by omega);clear h0 h1;go_wp2;go_roundw;case rel=>exact ⟨1,rfl,⟨by omega⟩,⟨⟨λ_=>HY.out,by omega,by omega⟩⟩,by first|rfl|trivial⟩
     case measure=>simp [intOf]
  |1,_,HK,HA=>
   by_cases h0:b<0
   ·have d0:decide (b<0)=true:=decide_eq_true h0;have HY:=AA.mk (GZ (m:=m) (x:=b) (a:=a) (b:=b) (c:=c) (by exact .inr (.inl rfl)) (by omega));clear h0;go_wp2;go_ret;exact ⟨by rw [HY.out];rfl,Bi (Below.refl _ _) _⟩
   ·by_cases h1:m<b
    ·have d0:decide (b<0)=false:=decide_eq_false h0;have d1:decide (m<b)=true:=decide_eq_true h1;have HY:=AA.mk (GZ (m:=m) (x:=b) (a:=a) (b:=b) (c:=c) (by exact .inr (.inl rfl)) (by omega));clear h0 h1;go_wp2;go_ret;exact ⟨by rw [HY.out];rfl,Bi (Below.refl _ _) _⟩
    ·have d0:decide (b<0)=false:=decide_eq_false h0;have d1:decide (m<b)=false:=decide_eq_false h1;have HY:=AA.mk (show 0<=b/\b<=m by omega);clear h0 h1;go_wp2;go_roundw;case rel=>exact ⟨2,rfl,⟨by omega⟩,⟨⟨λ_=>HA.out.1 (by omega),λ_=>HY.out,by omega⟩⟩,by first|rfl|trivial⟩
     case measure=>simp [intOf]
  |2,_,HK,HA=>
   by_cases h0:c<0
   ·have d0:decide (c<0)=true:=decide_eq_true h0;have HY:=AA.mk (GZ (m:=m) (x:=c) (a:=a) (b:=b) (c:=c) (by exact .inr (.inr rfl)) (by omega));clear h0;go_wp2;go_ret;exact ⟨by rw [HY.out];rfl,Bi (Below.refl _ _) _⟩
   ·by_cases h1:m<c
    ·have d0:decide (c<0)=false:=decide_eq_false h0;have d1:decide (m<c)=true:=decide_eq_true h1;have HY:=AA.mk (GZ (m:=m) (x:=c) (a:=a) (b:=b) (c:=c) (by exact .inr (.inr rfl)) (by omega));clear h0 h1;go_wp2;go_ret;exact ⟨by rw [HY.out];rfl,Bi (Below.refl _ _) _⟩
    ·have d0:decide (c<0)=false:=decide_eq_false h0;have d1:decide (m<c)=false:=decide_eq_false h1;have HY:=AA.mk (show 0<=c/\c<=m by omega);clear h0 h1;go_wp2;go_roundw;case rel=>exact ⟨3,rfl,⟨by omega⟩,⟨⟨λ_=>HA.out.1 (by omega),λ_=>HA.out.2.1 (by omega),λ_=>HY.out⟩⟩,by first|rfl|trivial⟩
     case measure=>simp [intOf]
  |3,_,HK,HA=>
   have HY:=AA.mk (show (Js m a&&(Js m b&&Js m c))=true by rw [Jt (HA.out.1 (by omega)),Jt (HA.out.2.1 (by omega)),Jt (HA.out.2.2 (by omega))];rfl);go_wp2;go_ret;exact ⟨by rw [HY.out];rfl,Bi (Below.refl _ _) _⟩
end Go.Proofs.YtccmackhhppbdaaGreatDoor.Print
end
section
namespace Go.Proofs.YtccmackhhppbdaaGreatDoor.Print
open RowKit Af BI BM
set_option linter.unusedVariables false
set_option linter.unusedSimpArgs false
def C9.f (a:Int):Option Bool:=some (Gl a)
set_option maxHeartbeats 4000000 in
theorem C9.calls (a:Int) (r:Bool) (w:World) (h:C9.f a=some r):Calls Tryz.prog 66 #[.int .u8 a] w λe w'=>e= .returned (.bool r)/\BA w w':=by
 obtain rfl:=Option.some.inj h;have hc:(65<=a/\a<=90)\/(97<=a/\a<=122)\/(48<=a/\a<=57)\/(a=33)\/(35<=a/\a<=39)\/(a=42)\/(a=43)\/(a=45)\/(a=46)\/(94<=a/\a<=96)\/(a=124)\/(a=126)\/(a<33)\/(a=34)\/(40<=a/\a<=41)\/(a=44)\/(a=47)\/(58<=a/\a<=64)\/(91<=a/\a<=93)\/(a=123)\/(a=125)\/(126<a):=by omega
 rcases hc with hc|hc|hc|hc|hc|hc|hc|hc|hc|hc|hc|hc|hc|hc|hc|hc|hc|hc|hc|hc|hc|hc
 all_goals
  first|have hv:Gl a=true:=(by unfold Gl;simp;omega)|have hv:Gl a=false:=(by unfold Gl;simp;omega)
  have HV:=AA.mk hv;clear hv;first|have t1:decide (65<=a)=true:=decide_eq_true (by omega)|have t1:decide (65<=a)=false:=decide_eq_false (by omega)
  first|have t2:decide (a<=90)=true:=decide_eq_true (by omega)|have t2:decide (a<=90)=false:=decide_eq_false (by omega)
  first|have t3:decide (97<=a)=true:=decide_eq_true (by omega)|have t3:decide (97<=a)=false:=decide_eq_false (by omega)
  first|have t4:decide (a<=122)=true:=decide_eq_true (by omega)|have t4:decide (a<=122)=false:=decide_eq_false (by omega)
  first|have t5:decide (48<=a)=true:=decide_eq_true (by omega)|have t5:decide (48<=a)=false:=decide_eq_false (by omega)
  first|have t6:decide (a<=57)=true:=decide_eq_true (by omega)|have t6:decide (a<=57)=false:=decide_eq_false (by omega)
  first|have t7:decide (35<=a)=true:=decide_eq_true (by omega)|have t7:decide (35<=a)=false:=decide_eq_false (by omega)
  first|have t8:decide (a<=39)=true:=decide_eq_true (by omega)|have t8:decide (a<=39)=false:=decide_eq_false (by omega)
  first|have t9:decide (94<=a)=true:=decide_eq_true (by omega)|have t9:decide (94<=a)=false:=decide_eq_false (by omega)
  first|have t10:decide (a<=96)=true:=decide_eq_true (by omega)|have t10:decide (a<=96)=false:=decide_eq_false (by omega)
  (first|(have t11:(a==33)=true:=beq_iff_eq.mpr (by omega);have s11:(a != 33)=false:=bne_eq_false_iff_eq.mpr (by omega))|(have t11:(a==33)=false:=beq_eq_false_iff_ne.mpr (by omega);have s11:(a != 33)=true:=bne_iff_ne.mpr (by omega)));(first|(have t12:(a==42)=true:=beq_iff_eq.mpr (by omega);have s12:(a != 42)=false:=bne_eq_false_iff_eq.mpr (by omega))|(have t12:(a==42)=false:=beq_eq_false_iff_ne.mpr (by omega);have s12:(a != 42)=true:=bne_iff_ne.mpr (by omega)));(first|(have t13:(a==43)=true:=beq_iff_eq.mpr (by omega);have s13:(a != 43)=false:=bne_eq_false_iff_eq.mpr (by omega))|(have t13:(a==43)=false:=beq_eq_false_iff_ne.mpr (by omega);have s13:(a != 43)=true:=bne_iff_ne.mpr (by omega)));(first|(have t14:(a==45)=true:=beq_iff_eq.mpr (by omega);have s14:(a != 45)=false:=bne_eq_false_iff_eq.mpr (by omega))|(have t14:(a==45)=false:=beq_eq_false_iff_ne.mpr (by omega);have s14:(a != 45)=true:=bne_iff_ne.mpr (by omega)));(first|(have t15:(a==46)=true:=beq_iff_eq.mpr (by omega);have s15:(a != 46)=false:=bne_eq_false_iff_eq.mpr (by omega))|(have t15:(a==46)=false:=beq_eq_false_iff_ne.mpr (by omega);have s15:(a != 46)=true:=bne_iff_ne.mpr (by omega)));(first|(have t16:(a==124)=true:=beq_iff_eq.mpr (by omega);have s16:(a != 124)=false:=bne_eq_false_iff_eq.mpr (by omega))|(have t16:(a==124)=false:=beq_eq_false_iff_ne.mpr (by omega);have s16:(a != 124)=true:=bne_iff_ne.mpr (by omega)));(first|(have t17:(a==126)=true:=beq_iff_eq.mpr (by omega);have s17:(a != 126)=false:=bne_eq_false_iff_eq.mpr (by omega))|(have t17:(a==126)=false:=beq_eq_false_iff_ne.mpr (by omega);have s17:(a != 126)=true:=bne_iff_ne.mpr (by omega)));clear hc;go_enter Tryz.func66,Tryz.ntmps66;go_wp2;go_ret;exact ⟨by rw [HV.out];rfl,by repeat (first|exact BA.refl _|apply BA.step)⟩
def Cs.f (a:Int):Option Bool:=some (Gm a)
set_option maxHeartbeats 4000000 in
theorem Cs.calls (a:Int) (r:Bool) (w:World) (h:Cs.f a=some r):Calls Tryz.prog 67 #[.int .u8 a] w λe w'=>e= .returned (.bool r)/\BA w w':=by
 obtain rfl:=Option.some.inj h;have hc:(a=33)\/(35<=a/\a<=43)\/(45<=a/\a<=58)\/(60<=a/\a<=91)\/(93<=a/\a<=126)\/(a<33)\/(a=34)\/(a=44)\/(a=59)\/(a=92)\/(126<a):=by omega
 rcases hc with hc|hc|hc|hc|hc|hc|hc|hc|hc|hc|hc
 all_goals
  first|have hv:Gm a=true:=(by unfold Gm;simp;omega)|have hv:Gm a=false:=(by unfold Gm;simp;omega)
  have HV:=AA.mk hv;clear hv;(first|(have t1:(a==33)=true:=beq_iff_eq.mpr (by omega);have s1:(a != 33)=false:=bne_eq_false_iff_eq.mpr (by omega))|(have t1:(a==33)=false:=beq_eq_false_iff_ne.mpr (by omega);have s1:(a != 33)=true:=bne_iff_ne.mpr (by omega)));first|have t2:decide (35<=a)=true:=decide_eq_true (by omega)|have t2:decide (35<=a)=false:=decide_eq_false (by omega)
  first|have t3:decide (a<=43)=true:=decide_eq_true (by omega)|have t3:decide (a<=43)=false:=decide_eq_false (by omega)
  first|have t4:decide (45<=a)=true:=decide_eq_true (by omega)|have t4:decide (45<=a)=false:=decide_eq_false (by omega)
  first|have t5:decide (a<=58)=true:=decide_eq_true (by omega)|have t5:decide (a<=58)=false:=decide_eq_false (by omega)
  first|have t6:decide (60<=a)=true:=decide_eq_true (by omega)|have t6:decide (60<=a)=false:=decide_eq_false (by omega)
  first|have t7:decide (a<=91)=true:=decide_eq_true (by omega)|have t7:decide (a<=91)=false:=decide_eq_false (by omega)
  first|have t8:decide (93<=a)=true:=decide_eq_true (by omega)|have t8:decide (93<=a)=false:=decide_eq_false (by omega)
  first|have t9:decide (a<=126)=true:=decide_eq_true (by omega)|have t9:decide (a<=126)=false:=decide_eq_false (by omega)
  clear hc;go_enter Tryz.func67,Tryz.ntmps67;go_wp2;go_ret;exact ⟨by rw [HV.out];rfl,by repeat (first|exact BA.refl _|apply BA.step)⟩
end Go.Proofs.YtccmackhhppbdaaGreatDoor.Print
end
