/- How many there are of a domain, and whether too many: the program's count along rows that rise is the document's. -/
import Derived.Test.YtikggnalmidlhaaGreatDoorGnread
import Derived.Test.YtikggnalmidlhaaGreatDoorPrint34
import Derived.Test.YtikggnalmidlhaaGreatDoorPrint40
section
namespace Go.Proofs.YtikggnalmidlhaaGreatDoor.Y
open RowKit Print AR Aa Ad
set_option linter.unusedVariables false
set_option linter.unusedSimpArgs false
def kC (x:SC):GD:=⟨x.f0,x.f1,x.f2⟩
def TN (x:SC):Prop:=x.f0.size<=9223372036854775807/\x.f1.size<=9223372036854775807/\x.f2.size<=9223372036854775807/\x.f3.size<=9223372036854775807
theorem Pq {m:List SC} {j:Nat} (h:j<m.length):AB m (j:Int)=m[j]:=by
 unfold AB;rw [Int.toNat_natCast,List.getD_eq_getElem?_getD,List.getElem?_eq_getElem h];rfl
theorem GY {j:Nat} (h:j<=1000000):wrap64 ((j:Int)+1)=((j+1:Nat):Int):=by unfold wrap64;omega
theorem Qs {x y:SC} (hx:TN x) (hy:TN y):Ev (λk=>CO.f k x.f0 x.f1 x.f2 y.f0 y.f1 y.f2) (GG (kC x) (kC y)):=
 BG (Mk hx.1 hx.2.1 hx.2.2.1 hy.1 hy.2.1 hy.2.2.1) (J6 _ _ _ _ _ _).symm
theorem U0 (x:SC) (a:GD):(x.f0.toList==a.f0.toList&&(x.f1.toList==a.f1.toList&&(x.f2.toList==a.f2.toList)))=true↔kC x=a:=by
 obtain ⟨a0,a1,a2⟩:=a;simp only [Bool.and_eq_true,beq_iff_eq,toList_inj,kC,Ic.mk.injEq]
theorem TP (x:SC) (a:GD):(!(x.f0.toList==a.f0.toList)||(!(x.f1.toList==a.f1.toList)||(!(x.f2.toList==a.f2.toList))))=true↔kC x≠a:=by
 refine Iff.trans ?_ (not_congr (U0 x a));cases x.f0.toList==a.f0.toList<;>cases x.f1.toList==a.f1.toList<;>cases x.f2.toList==a.f2.toList<;>decide
theorem SX (m:List SC) (a:GD) (hb:m.length<=10000):∀ n j (acc:List SC),m.length - j=n->j<=m.length->acc.length<=j->
 Ev (λk=>BJ.l0 k m acc (j:Int) a.f0 a.f1 a.f2) (acc++(m.drop j).filter λx=>decide (kC x≠a)):=by
 intro n;induction n with
 |zero=>
  intro j acc hn hj ha;obtain rfl:j=m.length:=by omega
  rw [List.drop_length];refine BB ?_;simp only [BJ.l0];exact Ah (by omega) (BG (Am _) (by simp))
 |succ n ih=>
  intro j acc hn hj ha;have hlt:j<m.length:=by omega
  rw [List.drop_eq_getElem_cons hlt];refine BB ?_;simp only [BJ.l0,Bc.f,Option.bind_some];rw [Pq hlt,GY (by omega)];refine AU (by omega) (AU (by omega) ?_);by_cases h:kC m[j]=a
  ·rw [List.filter_cons_of_neg (by simpa using h)];exact Ah (λh1=>(TP _ _).1 h1 h) (ih (j+1) acc (by omega) (by omega) (by omega))
  ·rw [List.filter_cons_of_pos (by simpa using h)];refine AU ((TP _ _).2 h) (AU (by omega) ?_);exact BG (ih (j+1) (acc++[m[j]]) (by omega) (by omega) (by simp;omega)) (by simp)
theorem Qt {m:List SC} (a:GD) (h:Di Cq kC m) (hb:m.length<=1000):Ev (λk=>BJ.f k m a.f0 a.f1 a.f2) (Lx Cq kC a m):=by
 refine BG (SX m a (by omega) _ 0 [] rfl (Nat.zero_le _) (Nat.le_refl _)) ?_;rw [List.nil_append,List.drop_zero];refine K8 (Em h _) (K7 h) λx=>?_
 rw [Gr,List.mem_filter];simp
theorem UN (m:List SC) (c:SC) (hb:m.length<=10000):∀ n j (acc:List SC),m.length - j=n->j<=m.length->acc.length<=j+1->
 Ev (λk=>AY.l0 k m acc true (j:Int) c.f0 c.f1 c.f2 c.f3 c.f4 c.f5 c.f6 c.f7 c.f8 c.f9 c.f10) (acc++m.drop j):=by
 intro n;induction n with
 |zero=>
  intro j acc hn hj ha;obtain rfl:j=m.length:=by omega
  rw [List.drop_length];refine BB ?_;simp only [AY.l0];exact Ah (by omega) (AU trivial (BG (Am _) (by simp)))
 |succ n ih=>
  intro j acc hn hj ha;have hlt:j<m.length:=by omega
  rw [List.drop_eq_getElem_cons hlt];refine BB ?_;simp only [AY.l0];rw [Pq hlt,GY (by omega)];refine AU (by omega) (AU trivial (AU (by omega) (AU (by omega) ?_)));exact BG (ih (j+1) (acc++[m[j]]) (by omega) (by omega) (by simp;omega)) (by simp)
theorem UO (m:List SC) (c:SC) (hb:m.length<=10000) (hc:TN c) (hm:∀ x∈m,TN x) (hne:∀ x∈m,kC x≠kC c) (hr:Di Cq kC m):∀ n j (acc:List SC),m.length - j=n->j<=m.length->acc.length<=j->
 Ev (λk=>AY.l0 k m acc false (j:Int) c.f0 c.f1 c.f2 c.f3 c.f4 c.f5 c.f6 c.f7 c.f8 c.f9 c.f10) (acc++GR Cq kC (kC c) c (m.drop j)):=by
 intro n;induction n with
 |zero=>
  intro j acc hn hj ha;obtain rfl:j=m.length:=by omega
  rw [List.drop_length];refine BB ?_;simp only [AY.l0];exact Ah (by omega) (Ah (by decide) (AU (by omega) (BG (Am _) (by simp [GR,Dn,En]))))
 |succ n ih=>
  intro j acc hn hj ha;have hlt:j<m.length:=by omega
  have hd:Di Cq kC (m.drop j):=List.Pairwise.sublist (List.drop_sublist _ _) hr;rw [List.drop_eq_getElem_cons hlt] at hd⊢
  obtain ⟨hx,_⟩:=List.pairwise_cons.1 hd;refine BB ?_;simp only [AY.l0,Bc.f,Option.bind_some];rw [Pq hlt,GY (by omega)];refine AU (by omega) (Ah (by decide) (AU (by omega) ?_));refine BL (Qs (x:=c) (y:=m[j]) hc (hm _ (List.getElem_mem hlt))) ?_;by_cases h:GG (kC c) (kC m[j])<0
  ·refine AU h (AU (by omega) (AU (by simp;omega) ?_));have hall:∀ y∈m[j]::m.drop (j+1),Cq.lt (kC c) (kC y):=λy hy=>by
    rcases List.mem_cons.1 hy with rfl|hy
    ·exact h
    ·exact Cq.tr h (hx y hy)
   refine BG (UN m c hb _ (j+1) (acc++[c]++[m[j]]) rfl (by omega) (by simp;omega)) ?_;unfold GR;rw [KA hall,KC hall];simp
  ·refine Ah h (AU (by omega) ?_);have h2:Cq.lt (kC m[j]) (kC c):=by
    rcases Cq.tot (kC m[j]) (kC c) with h3|h3|h3
    ·exact h3
    ·exact absurd h3 (hne m[j] (List.getElem_mem hlt))
    ·exact absurd h3 h
   refine BG (ih (j+1) (acc++[m[j]]) (by omega) (by omega) (by simp;omega)) ?_;unfold GR;rw [IP h2,Fs (λh3=>h h3)];simp
theorem SY {m:List SC} (c:SC) (h:Di Cq kC m) (hb:m.length<=1000) (hc:TN c) (hm:∀ x∈m,TN x):Ev (λk=>AY.f k m c.f0 c.f1 c.f2 c.f3 c.f4 c.f5 c.f6 c.f7 c.f8 c.f9 c.f10) (GR Cq kC (kC c) c m):=by
 unfold AY.f;simp only [Bc.f,Option.bind_some];refine BL (Qt (kC c) h hb) ?_;have hl:=Ox (kC c) h;have hr:=K7 (k:=kC c) h;refine BG (UO (Lx Cq kC (kC c) m) c (by omega) hc (λx hx=>hm x (Gr.1 hx).1) (λx hx=>(Gr.1 hx).2) hr _ 0 [] rfl (Nat.zero_le _) (Nat.le_refl _)) ?_;rw [List.nil_append,List.drop_zero];refine K8 (FO hr rfl) (FO h rfl) λx=>?_
 rw [J9,J9,Gr];constructor
 ·rintro (h1|⟨⟨h1,_⟩,h2⟩)
  ·exact .inl h1
  ·exact .inr ⟨h1,h2⟩
 ·rintro (h1|⟨h1,h2⟩)
  ·exact .inl h1
  ·exact .inr ⟨⟨h1,h2⟩,h2⟩
end Go.Proofs.YtikggnalmidlhaaGreatDoor.Y
end
section
namespace Go.Proofs.YtikggnalmidlhaaGreatDoor.Print
open RowKit AR Aa Ad Range Shelf
set_option linter.unusedVariables false
set_option linter.unusedSimpArgs false
attribute [local go_sem] Oper.semAt_some
def TT (a c:ByteArray):Bool:=decide (c.size<=a.size)&&((a.extract 0 c.size).toList==c.toList)
theorem Sr (a c:ByteArray):strings_HasPrefix.f a c=some (TT a c):=by
 unfold strings_HasPrefix.f stringslite_HasPrefix.f TT;by_cases h:c.size<=a.size
 ·rw [if_pos (show (a.size:Int)>=(c.size:Int) by omega),if_pos (by omega),if_pos (by omega),Int.toNat_natCast,decide_eq_true h];rfl
 ·rw [if_neg (show ¬(a.size:Int)>=(c.size:Int) by omega),decide_eq_false h];rfl
def GU (s:ByteArray):Bool:=s.toList==[]||(s.toList[0]? ==some 35&& !TT s Fb)
def encS (s:ByteArray):Array Value:=#[.string s]
def EE (l:List ByteArray):List ByteArray:=l.filter λs=> !GU s
theorem L8 {s:ByteArray} (h:0<s.size):s.toList[0]? =some s[0]:=by
 rw [ByteArray.toList_eq,Array.getElem?_toList];exact Array.getElem?_eq_getElem h
theorem NF {s:ByteArray} (h:0<s.size) (g:(s.toList==([]:List UInt8))=false) (e:(s[0].toNat:Int)=35):GU s= !TT s Fb:=by
 unfold GU;rw [g,L8 h];have:s[0]=35:=UInt8.toNat_inj.1 (by show s[0].toNat=35;omega);rw [this];rfl
theorem NG {s:ByteArray} (h:0<s.size) (g:(s.toList==([]:List UInt8))=false) (e:¬(s[0].toNat:Int)=35):GU s=false:=by
 unfold GU;rw [g,L8 h];have:(some s[0]==some (35:UInt8))=false:=by
  rw [beq_eq_false_iff_ne];intro e2;rw [Option.some.inj e2] at e;exact e rfl
 rw [this];rfl
theorem KZ {l:List ByteArray} {i:Nat} {s:ByteArray} (h:l[i]? =some s) (hb:GU s=true):EE (l.take (i+1))=EE (l.take i):=by
 rw [List.take_add_one,h];unfold EE;rw [List.filter_append];simp [hb]
theorem IU {l:List ByteArray} {i:Nat} {s:ByteArray} (h:l[i]? =some s) (hb:GU s=false):EE (l.take (i+1))=EE (l.take i)++[s]:=by
 rw [List.take_add_one,h];unfold EE;rw [List.filter_append];simp [hb]
theorem JM {l:List ByteArray} {i:Nat} {s:ByteArray} (h:l[i]? =some s) (hb:GU s=false):(EE l)[(EE (l.take i)).length]? =some s:=by
 have e:l=l.take (i+1)++l.drop (i+1):=(List.take_append_drop _ _).symm;have e2:EE l=EE (l.take i)++([s]++EE (l.drop (i+1))):=by
  conv=>lhs;rw [e]
  unfold EE;rw [List.filter_append];have:=IU h hb;unfold EE at this;rw [this,List.append_assoc]
 rw [e2,List.getElem?_append_right (Nat.le_refl _),Nat.sub_self];rfl
set_option maxHeartbeats 4000000 in
set_option maxRecDepth 100000 in
theorem KF (A0:Option Addr) (c0:Nat) (l:List ByteArray) (b n₀:Nat) (w0 w:World) (n:Nat) (hr:Kd.string.C w0 A0 l.length l) (hcap:l.length<=c0) (hn:l.length<=1000000000) (hn0:n₀=w0.heap.size) (hb0:Below n₀ w0 w) (hc:w.heap[b]? =some (.cells #[.slice A0 l.length c0] 45 (0,0))):
 NM Tryz.prog n 52 #[.pointer (some ⟨b,0,none⟩)] ((EE l).map encS) b n₀ w:=by
 intro lp J Jx W hW hJ hJx hY h0;have hlen:((EE l).map encS).length=(EE l).length:=List.length_map ..;have hbw:b<w.heap.size:=(Array.getElem?_eq_some_iff.1 hc).1;have hcW:W.heap[b]? =some (.cells #[.slice A0 l.length c0] 45 (0,0)):=(hW.block b hbw).trans hc;have HB:Below n₀ w0 W:=hb0.trans (hW.mono (by rw [hn0];exact hb0.size));have hcb:W.cell? ⟨b,0,none⟩=some (.slice A0 l.length c0):=(AL hcW 0).trans rfl;have u2:=Tryz.underlying45;have u3:=Tryz.underlying9;refine callsIn_of_wp Tryz.func52 rfl trivial ?_ rfl;simp only [Tryz.ntmps52,List.size_toArray,List.length_cons,List.length_nil,Nat.reduceAdd,Nat.reduceSub,Array.replicate_succ,Array.replicate_zero,List.push_toArray,List.append_toArray,List.nil_append,List.cons_append]
 gi_wp2
 gi_loopw [8] (λv8 wr=>∃ i:Nat,v8= .int .i64 i/\i<=l.length/\J (EE (l.take i)).length wr/\Below n₀ w0 wr) (λv8 _=>l.length - (intOf v8).toNat)
 case atStart=>exact ⟨0,rfl,Nat.zero_le _,h0,HB⟩
 case round=>
  obtain ⟨i,rfl,hi,hJs,hB⟩:=hrel;by_cases hlt:i<l.length
  ·obtain ⟨ad,rfl,hx⟩:=Kd.DF (Kd.DW hr (by rw [<-hn0];exact hB)) (i:Int) (by omega) (by omega);have hrd:Cf ByteArray.empty l (i:Int)=l[i]:=by unfold Cf;rw [Int.toNat_natCast,List.getD_eq_getElem?_getD,List.getElem?_eq_getElem hlt];rfl
   rw [hrd,Int.toNat_natCast] at hx;have d1:decide ((i:Int)<(l.length:Int))=true:=decide_eq_true (by omega);have d2:decide (i<l.length)=true:=decide_eq_true hlt;have p1:=eq_true (show 0<=(i:Int) by omega);have p2:=eq_true (show (i:Int)<(l.length:Int) by omega);have hli:l[i]? =some l[i]:=List.getElem?_eq_getElem hlt;generalize l[i]=s at hx hli;by_cases he:s.toList=[]
   ·have g1:(s.toList==([]:List UInt8))=true:=beq_iff_eq.2 he;have g3:s.toList.isEmpty=true:=by rw [he];rfl
    have hno:GU s=true:=by unfold GU;rw [g1];rfl
    have HP:AA (∀ W,Calls Tryz.prog 53 #[.string s, .string Fb] W λe w'=>e= .returned (.bool (TT s Fb))/\Ap W w'):=⟨λW=>strings_HasPrefix.calls s Fb _ W (Sr _ _)⟩;clear he
    gi_wp2_with ((with_reducible apply And.intro);(focus first|exact trivial|exact λf h=>(by cases h)))
    all_goals try (refine absurd (show some undef=some (Value.bool _) by assumption) ?_;intro h_;cases h_;done)
    all_goals go_roundw
    case' rel=>exact ⟨i+1,by first|rfl|simp,by omega,by rw [KZ hli hno];exact hJs,hB⟩
    all_goals
     have e9:(intOf (.int .i64 ((i:Int)+1))).toNat=i+1:=by show ((i:Int)+1).toNat=i+1;omega
     have e10:(intOf (.int .i64 (i:Int))).toNat=i:=by show (i:Int).toNat=i;omega
     rw [e9,e10];omega
   ·have g1:(s.toList==([]:List UInt8))=false:=beq_eq_false_iff_ne.2 he;have g3:s.toList.isEmpty=false:=List.isEmpty_eq_false_iff.2 he;have hsz:0<s.size:=by
     rcases Nat.eq_zero_or_pos s.size with h|h
     ·exact absurd (by rw [ByteArray.toList_eq];exact List.eq_nil_of_length_eq_zero (by rw [Array.length_toList];exact h)) he
     ·exact h
    have p3:=eq_true hsz;have p4:=eq_true (show (0:Int)<(s.size:Int) by omega);by_cases hq:(s[0].toNat:Int)=35
    ·have HP:AA (∀ W,Calls Tryz.prog 53 #[.string s, .string Fb] W λe w'=>e= .returned (.bool (TT s Fb))/\Ap W w'):=⟨λW=>strings_HasPrefix.calls s Fb _ W (Sr _ _)⟩;have hno:=NF hsz g1 hq;generalize TT s Fb=p at HP hno;have hq2:((s[0].toNat:Int)==35)=true:=beq_iff_eq.2 hq
     gi_upto_region 4 with (first|refine ⟨trivial,λh=>(by simp [Fence.wide] at h),?_⟩;gi_at_call 53;refine (callsIn_wide.2 (HP.out _)).mono ?_;rintro e w' ⟨rfl,nd,rfl⟩)
     cases p
     case' true=>replace hno:GU s=false:=hno
     case' false=>replace hno:GU s=true:=hno
     all_goals
      obtain ⟨W1,hW1⟩:∃ W1,W1=wr.drewN nd:=⟨_,rfl⟩;rw [<-hW1];have hJ1:J (EE (l.take i)).length W1:=hJ _ wr W1 none hJs (by rw [hW1];exact ⟨rfl,rfl,rfl,Nat.le_refl _,λ_ _ _=>rfl⟩) (λr e=>by cases e);have hB1:Below n₀ w0 W1:=by rw [hW1];exact Bw hB nd
      clear hW1 hJs hB hx HP
     ·gi_wp2_with ((with_reducible apply And.intro);(focus first|exact trivial|exact λf h=>(by cases h)))
      go_roundw;case rel=>exact ⟨i+1,by simp;try go_num,by omega,by rw [KZ hli hno];exact hJ1,hB1⟩
      case measure=>
       show l.length - ((i:Int)+1).toNat<l.length - (i:Int).toNat;omega
     ·skip;obtain ⟨fn,tmps,assign,body,hy,hR⟩:=hY (EE (l.take i)).length #[.string s] W1 (by rw [List.getElem?_map,JM hli hno];rfl) hJ1
      gi_wp2
      refine ⟨λh=>by simp [Fence.wide] at h,hR.mono ?_⟩;rintro e W3 (⟨rfl,hJ3,hk3,hb3⟩|⟨rfl,hJx3⟩)
      ·gi_wp2
       go_roundw;case rel=>exact ⟨i+1,by go_num,by omega,by rw [IU hli hno,List.length_append];exact hJ3,hB1.trans hk3⟩
       case measure=>simp [intOf];omega
      ·gi_wp2
       refine bodyPost_ret (results_none rfl _ _ _) rfl ?_;exact ⟨⟨_,rfl⟩, .inr ⟨_,by rw [hlen];exact (List.getElem?_eq_some_iff.1 (JM hli hno)).1,hJx3⟩⟩
    ·have hno:=NG hsz g1 hq;have hq2:((s[0].toNat:Int)==35)=false:=beq_eq_false_iff_ne.2 hq
     gi_upto_region 4 with ((with_reducible apply And.intro);(focus exact trivial))
     obtain ⟨fn,tmps,assign,body,hy,hR⟩:=hY (EE (l.take i)).length #[.string s] wr (by rw [List.getElem?_map,JM hli hno];rfl) hJs
     gi_wp2
     refine ⟨λh=>by simp [Fence.wide] at h,hR.mono ?_⟩;rintro e W3 (⟨rfl,hJ3,hk3,hb3⟩|⟨rfl,hJx3⟩)
     ·gi_wp2
      go_roundw;case rel=>exact ⟨i+1,by go_num,by omega,by rw [IU hli hno,List.length_append];exact hJ3,hB.trans hk3⟩
      case measure=>simp [intOf];omega
     ·gi_wp2
      refine bodyPost_ret (results_none rfl _ _ _) rfl ?_;exact ⟨⟨_,rfl⟩, .inr ⟨_,by rw [hlen];exact (List.getElem?_eq_some_iff.1 (JM hli hno)).1,hJx3⟩⟩
  ·obtain rfl:i=l.length:=by omega
   have e1:decide ((l.length:Int)<(l.length:Int))=false:=decide_eq_false (by omega);have e1b:decide (l.length<l.length)=false:=decide_eq_false hlt;rw [List.take_length] at hJs
   gi_wp2
   go_end0;exact ⟨⟨_,rfl⟩, .inl (hlen▸hJs)⟩
set_option maxRecDepth 100000 in
theorem KG (A0:Option Addr) (n c0:Nat) (w:World):Calls Tryz.prog 28 #[.slice A0 n c0] w λe w'=>e= .returned (.func (.func 52) #[] #[.pointer (some ⟨w.heap.size,0,none⟩)])/\w'=w.alloc (.cells #[.slice A0 n c0] 45):=by
 have u1:=Tryz.underlying45;go_enter Tryz.func28,Tryz.ntmps28;go_wp2;go_ret;exact ⟨rfl,rfl⟩
section
variable {F:Fence} {n:Nat} {P:Program} {ops:Array Oper} {rest:List Oper} {o:Oper} {a:Act} {w:World} {Q:Exit->Act->World->Prop}
theorem L9 {ty:TypeId} {x:Operand} (_:o.op= .load ty x) (h:wpListIn F n P ops Q (o::rest) a w):wpListIn F n P ops Q (o::rest) a w:=h
theorem GH {ty:TypeId} {x y:Operand} (_:o.op= .store ty x y) (h:wpListIn F n P ops Q (o::rest) a w):wpListIn F n P ops Q (o::rest) a w:=h
theorem NH (ty:TypeId) (x:Operand) (hgd:o.guard=none) (ho:o.op= .load ty x) (g:Nat) (hx:a.eval x= .pointer (some ⟨g,0,none⟩)) (t:TypeId) (cs:Array Value) (fr:Nat×Nat) (d:TypeDesc) (hg:w.heap[g]? =some (.cells cs t fr))
 (hu:P.underlying ty=some d) (hd:(match d with| .struct _| .array _ _=>true|_=>false)=true) (hi:(P.info? ty).map (·.size)=some cs.size)
 (h:wpListIn F n P ops Q rest (a.put o.dst (.agg cs)) w):wpListIn F n P ops Q (o::rest) a w:=by
 refine wpListIn_plain hgd λK hK=>?_
 unfold Oper.wpIn;refine ⟨by simp [Oper.about,ho],?_⟩;rw [Oper.semAt_plain F _ _ (by rw [ho];intro c hc';cases hc')];unfold execOp;simp only [ho,hx,Instr.loadAt,Instr.sureAddr,Sem.run_bind,Sem.run_pure,Result.andThen_ok,run_loadVar_row w g t ty cs fr d hg hu hd hi];exact hK _ _ h
theorem Iu (ty:TypeId) (x y:Operand) (hgd:o.guard=none) (ho:o.op= .store ty x y) (g:Nat) (cells:Array Value) (hx:a.eval x= .pointer (some ⟨g,0,none⟩)) (hy:a.eval y= .agg cells)
 (t:TypeId) (old:Array Value) (hg:w.heap[g]? =some (.cells old t (0,0))) (hi:(P.info? ty).map (·.size)=some cells.size) (hold:old.size=cells.size) (h1:cells.all (·.oneCell')=true)
 (h:wpListIn F n P ops Q rest (a.put o.dst undef) (w.setRow g cells)):wpListIn F n P ops Q (o::rest) a w:=by
 refine wpListIn_plain hgd λK hK=>?_
 unfold Oper.wpIn;refine ⟨by simp [Oper.about,ho],?_⟩;rw [Oper.semAt_plain F _ _ (by rw [ho];intro c hc';cases hc')];unfold execOp;simp only [ho,hx,hy,Instr.storeAt,Instr.sureAddr,Sem.run_bind,Sem.run_pure,Result.andThen_ok,run_storeVar_row w g t ty old cells hg hi hold h1];exact hK _ _ h
end
end Go.Proofs.YtikggnalmidlhaaGreatDoor.Print
end
section
namespace Go.Proofs.YtikggnalmidlhaaGreatDoor.Print
open RowKit AR Aa Ad
attribute [local go_sem] BM BN Bo Bp BC BD BO BP
set_option linter.unusedVariables false
set_option linter.unusedSimpArgs false
def Bn.l0:Nat->List (CU)->List (CU)->Int->Option ((List (CU))×Int)
 |0,_,_,_=>none
 |k+1,x0,x4,x5=>if x5<(x0.length:Int) then (if 0<=x5 then ((AQ.f k ((AB x0 x5).f0) ((AB x0 x5).f1) ((AB x0 x5).f2) ((AB x0 x5).f3) ((AB x0 x5).f4) ((AB x0 x5).f5) ((AB x0 x5).f6) ((AB x0 x5).f7) ((AB x0 x5).f8) ((AB x0 x5).f9) ((AB x0 x5).f10)).bind λt353=>(if t353=true then ((AY.f k x4 ((AB x0 x5).f0) ((AB x0 x5).f1) ((AB x0 x5).f2) ((AB x0 x5).f3) ((AB x0 x5).f4) ((AB x0 x5).f5) ((AB x0 x5).f6) ((AB x0 x5).f7) ((AB x0 x5).f8) ((AB x0 x5).f9) ((AB x0 x5).f10)).bind λt355=>(Bn.l0 k x0 t355 (wrap64 (x5+1)))) else (some (([]:List (CU)),150)))) else (none)) else (if (x4.length:Int)<(x0.length:Int) then (some (([]:List (CU)),151)) else ((Bg.f k x4).bind λt358=>(if t358=true then (some (([]:List (CU)),152)) else (some (x4,0)))))
def Bn.f (k:Nat) (l0:List (CU)):Option ((List (CU))×Int):=Bn.l0 k l0 ([]:List (CU)) 0
set_option maxHeartbeats 8000000 in
set_option maxRecDepth 100000 in
theorem Bn.calls (k:Nat) (A0:Option Addr) (c0:Nat) (l0:List (CU)) (r1:List (CU)) (r2:Int) (w:World) (hr0:Kd.C Fu w A0 l0.length l0) (hc0:l0.length<=c0) (h:Bn.f k l0=some (r1,r2)):
 Calls Tryz.prog 34 #[.slice A0 l0.length c0] w λe w'=>∃ v0_:Value,e= .returned (.tuple #[v0_, .int .i64 r2])/\Kd.R Fu 53 w' w.heap.size (λ_=>True) v0_ r1/\Below w.heap.size w w':=by
 have hu53:=Tryz.underlying53;have HR0:=AA.mk hr0;have HC0:=AA.mk hc0;clear hr0 hc0;have HB:=AA.mk (Below.refl w.heap.size w);have H:(Bn.l0 k l0 ([]:List (CU)) 0)=some (r1,r2):=h;clear h;have H':=AA.mk H;clear H;go_enter Tryz.func34,Tryz.ntmps34;go_wp2;go_loopg [4,5] k (λkq v4 v5 w'=>∃ (x4_1:List (CU)) (x5_1:Int),v5= .int .i64 x5_1/\AA (Bn.l0 kq l0 x4_1 x5_1=some (r1,r2))/\AA (kq<=k)/\AA (Kd.R Fu 53 w' w.heap.size (λ_=>True) v4 x4_1)/\AA (Below w.heap.size w w'));case atStart=>exact ⟨(([]:List (CU))),(0),xq,H',⟨Nat.le_refl _⟩,⟨by first|exact Kd.Eu _ _ _ _ _|exact Kd.F6 _ _ _ _ _|exact Kd.F7 _ _ _ _ _|exact Kd.F3 _ _ _ _ _|exact Kd.F5 _ _ _ _ _⟩,⟨xb⟩⟩
 case round=>
  clear H';obtain ⟨x4_1,x5_1,rfl,HA,HK1,HO_4,HB⟩:=hrel;cases gk with
  |zero=>exact absurd HA.out (by simp [Bn.l0])
  |succ k1=>
   have H:=HA.out;clear HA;simp only [Bn.l0] at H;by_cases c2:x5_1<(l0.length:Int)
   ·rw [if_pos c2] at H;have c2b0:decide (x5_1<(l0.length:Int))=true:=decide_eq_true c2;clear c2;by_cases c3:0<=x5_1
    ·rw [if_pos c3] at H;have c3b0:decide (0<=x5_1)=true:=decide_eq_true c3;clear c3;replace H:=Option.bind_eq_some_iff.mp H;obtain ⟨t353,A40,H⟩:=H;replace H:(if t353=true then ((AY.f k1 x4_1 ((AB l0 x5_1).f0) ((AB l0 x5_1).f1) ((AB l0 x5_1).f2) ((AB l0 x5_1).f3) ((AB l0 x5_1).f4) ((AB l0 x5_1).f5) ((AB l0 x5_1).f6) ((AB l0 x5_1).f7) ((AB l0 x5_1).f8) ((AB l0 x5_1).f9) ((AB l0 x5_1).f10)).bind λt355=>(Bn.l0 k1 l0 t355 (wrap64 (x5_1+1)))) else (some (([]:List (CU)),150)))=some (r1,r2):=H;have A4:=AA.mk A40;clear A40;by_cases c5:t353=true
     ·subst c5;rw [if_pos rfl] at H;replace H:=Option.bind_eq_some_iff.mp H;obtain ⟨t355,A60,H⟩:=H;try dsimp only at H
      have A6:=AA.mk A60;clear A60;have H':=AA.mk H;clear H;have p352:0<=(x5_1:Int):=xa;have q352:x5_1<(l0.length:Int):=xa;obtain ⟨ad352,e352,hx352_0,hx352_1,hx352_2,hx352_3,hx352_4,hx352_5,hx352_6,hx352_7,hx352_8,hx352_9,hx352_10⟩:=Ce HR0.out x5_1 p352 q352;cases e352;replace hx352_0:=AJ HB.out hx352_0;replace hx352_1:=AJ HB.out hx352_1;replace hx352_2:=AJ HB.out hx352_2;replace hx352_3:=AJ HB.out hx352_3;replace hx352_4:=AJ HB.out hx352_4;replace hx352_5:=AJ HB.out hx352_5;replace hx352_6:=AJ HB.out hx352_6;replace hx352_7:=AJ HB.out hx352_7;replace hx352_8:=AJ HB.out hx352_8;replace hx352_9:=AJ HB.out hx352_9;replace hx352_10:=AJ HB.out hx352_10;replace p352:=eq_true p352;replace q352:=eq_true q352;go_wp2_with (first|((with_reducible refine AO (f:=62) rfl ?_);refine Ak (some 16) rfl rfl Tryz.func62 (by kernel_rfl) rfl #[.agg #[.string ((AB l0 x5_1).f0), .string ((AB l0 x5_1).f1), .string ((AB l0 x5_1).f2), .string ((AB l0 x5_1).f3), .int .i64 ((AB l0 x5_1).f4), .int .i64 ((AB l0 x5_1).f5), .int .i64 ((AB l0 x5_1).f6), .bool ((AB l0 x5_1).f7), .bool ((AB l0 x5_1).f8), .bool ((AB l0 x5_1).f9), .int .i64 ((AB l0 x5_1).f10)]] rfl xg ?_;(with_reducible refine (AQ.calls k1 ((AB l0 x5_1).f0) ((AB l0 x5_1).f1) ((AB l0 x5_1).f2) ((AB l0 x5_1).f3) ((AB l0 x5_1).f4) ((AB l0 x5_1).f5) ((AB l0 x5_1).f6) ((AB l0 x5_1).f7) ((AB l0 x5_1).f8) ((AB l0 x5_1).f9) ((AB l0 x5_1).f10) true _ A4.out).mono ?_);rintro e w7 ⟨rfl,hb⟩;refine ⟨_,rfl,?_⟩;replace HO_4:=AA.mk (Kd.BX (xR HO_4) hb);replace HB:=AA.mk (AP xb hb);(try clear hb);have p354:0<=(x5_1:Int):=xa;have q354:x5_1<(l0.length:Int):=xa;obtain ⟨ad354,e354,hx354_0,hx354_1,hx354_2,hx354_3,hx354_4,hx354_5,hx354_6,hx354_7,hx354_8,hx354_9,hx354_10⟩:=Ce HR0.out x5_1 p354 q354;obtain rfl:ad352=ad354:=(by injection e354);replace hx354_0:=AJ HB.out hx354_0;replace hx354_1:=AJ HB.out hx354_1;replace hx354_2:=AJ HB.out hx354_2;replace hx354_3:=AJ HB.out hx354_3;replace hx354_4:=AJ HB.out hx354_4;replace hx354_5:=AJ HB.out hx354_5;replace hx354_6:=AJ HB.out hx354_6;replace hx354_7:=AJ HB.out hx354_7;replace hx354_8:=AJ HB.out hx354_8;replace hx354_9:=AJ HB.out hx354_9;replace hx354_10:=AJ HB.out hx354_10;replace p354:=eq_true p354;replace q354:=eq_true q354;obtain ⟨Ao8,co8,eo8⟩:=Kd.CE HO_4.out;subst eo8)|((with_reducible refine AO (f:=63) rfl ?_);refine Ak (some 23) rfl rfl Tryz.func63 (by kernel_rfl) rfl #[.slice Ao8 x4_1.length co8, .agg #[.string ((AB l0 x5_1).f0), .string ((AB l0 x5_1).f1), .string ((AB l0 x5_1).f2), .string ((AB l0 x5_1).f3), .int .i64 ((AB l0 x5_1).f4), .int .i64 ((AB l0 x5_1).f5), .int .i64 ((AB l0 x5_1).f6), .bool ((AB l0 x5_1).f7), .bool ((AB l0 x5_1).f8), .bool ((AB l0 x5_1).f9), .int .i64 ((AB l0 x5_1).f10)]] rfl xg ?_;(with_reducible refine (AY.calls k1 _ _ x4_1 ((AB l0 x5_1).f0) ((AB l0 x5_1).f1) ((AB l0 x5_1).f2) ((AB l0 x5_1).f3) ((AB l0 x5_1).f4) ((AB l0 x5_1).f5) ((AB l0 x5_1).f6) ((AB l0 x5_1).f7) ((AB l0 x5_1).f8) ((AB l0 x5_1).f9) ((AB l0 x5_1).f10) t355 _ ?side1 ?side2 A6.out).mono ?_);(case side1=>repeat (first|exact (Kd.BH HO_4.out).2.2|(with_reducible refine Kd.CZ ?_ _)|(with_reducible refine Kd.Cb ?_ _)|(with_reducible refine Kd.Cs ?_)));(case side2=>exact (Kd.BH HO_4.out).2.1);rintro e w9 ⟨v356,rfl,ho0,hb⟩;refine ⟨_,rfl,?_⟩;have HO357:=AA.mk (Kd.Cm (Kd.QV ho0 (Kd.MZ (xR HO_4))) (BF xb));replace HO_4:=AA.mk (Kd.Ma (xR HO_4) (Kd.D6 ho0) hb);replace HB:=AA.mk (AP xb hb);(try clear hb);(try clear ho0)));go_roundg k1;case measure=>have:=HK1.out;omega
      case rel=>exact ⟨(t355),(wrap64 (x5_1+1)),xq,H',⟨by have:=HK1.out;omega⟩,⟨by (with_reducible repeat (first|apply Kd.Bd|apply Kd.Be|apply Kd.Bl));exact Kd.CQ HO357.out (λ_ hk=>trivial)⟩,⟨xb⟩⟩
     ·replace c5:=Bool.eq_false_iff.mpr c5;subst c5;have H1:(some (([]:List (CU)),150))=some (r1,r2):=by rw [if_neg (show ¬(false=true) by decide)] at H;exact H
      clear H;have H:=H1;clear H1;simp only [Option.some.injEq,Prod.mk.injEq] at H;obtain ⟨rfl,rfl⟩:=H;have p352:0<=(x5_1:Int):=xa;have q352:x5_1<(l0.length:Int):=xa;obtain ⟨ad352,e352,hx352_0,hx352_1,hx352_2,hx352_3,hx352_4,hx352_5,hx352_6,hx352_7,hx352_8,hx352_9,hx352_10⟩:=Ce HR0.out x5_1 p352 q352;cases e352;replace hx352_0:=AJ HB.out hx352_0;replace hx352_1:=AJ HB.out hx352_1;replace hx352_2:=AJ HB.out hx352_2;replace hx352_3:=AJ HB.out hx352_3;replace hx352_4:=AJ HB.out hx352_4;replace hx352_5:=AJ HB.out hx352_5;replace hx352_6:=AJ HB.out hx352_6;replace hx352_7:=AJ HB.out hx352_7;replace hx352_8:=AJ HB.out hx352_8;replace hx352_9:=AJ HB.out hx352_9;replace hx352_10:=AJ HB.out hx352_10;replace p352:=eq_true p352;replace q352:=eq_true q352;go_wp2_with (first|((with_reducible refine AO (f:=62) rfl ?_);refine Ak (some 16) rfl rfl Tryz.func62 (by kernel_rfl) rfl #[.agg #[.string ((AB l0 x5_1).f0), .string ((AB l0 x5_1).f1), .string ((AB l0 x5_1).f2), .string ((AB l0 x5_1).f3), .int .i64 ((AB l0 x5_1).f4), .int .i64 ((AB l0 x5_1).f5), .int .i64 ((AB l0 x5_1).f6), .bool ((AB l0 x5_1).f7), .bool ((AB l0 x5_1).f8), .bool ((AB l0 x5_1).f9), .int .i64 ((AB l0 x5_1).f10)]] rfl xg ?_;(with_reducible refine (AQ.calls k1 ((AB l0 x5_1).f0) ((AB l0 x5_1).f1) ((AB l0 x5_1).f2) ((AB l0 x5_1).f3) ((AB l0 x5_1).f4) ((AB l0 x5_1).f5) ((AB l0 x5_1).f6) ((AB l0 x5_1).f7) ((AB l0 x5_1).f8) ((AB l0 x5_1).f9) ((AB l0 x5_1).f10) false _ A4.out).mono ?_);rintro e w10 ⟨rfl,hb⟩;refine ⟨_,rfl,?_⟩;replace HO_4:=AA.mk (Kd.BX (xR HO_4) hb);replace HB:=AA.mk (AP xb hb);(try clear hb)));go_ret2;exact ⟨_,xe,by first|exact Kd.Eu _ _ _ _ _|exact Kd.F6 _ _ _ _ _|exact Kd.F7 _ _ _ _ _|exact Kd.F3 _ _ _ _ _|exact Kd.F5 _ _ _ _ _,xb⟩
    ·rw [if_neg c3] at H;exact absurd H (by simp)
   ·rw [if_neg c2] at H;have c2b0:decide (x5_1<(l0.length:Int))=false:=decide_eq_false c2;clear c2;by_cases c11:(x4_1.length:Int)<(l0.length:Int)
    ·rw [if_pos c11] at H;have c11b0:decide ((x4_1.length:Int)<(l0.length:Int))=true:=decide_eq_true c11;have c11b1:decide (x4_1.length<l0.length)=true:=decide_eq_true (Int.ofNat_lt.mp c11);clear c11;simp only [Option.some.injEq,Prod.mk.injEq] at H;obtain ⟨rfl,rfl⟩:=H;obtain ⟨Ao12,co12,eo12⟩:=Kd.CE HO_4.out;subst eo12;go_wp2;go_ret2;exact ⟨_,xe,by first|exact Kd.Eu _ _ _ _ _|exact Kd.F6 _ _ _ _ _|exact Kd.F7 _ _ _ _ _|exact Kd.F3 _ _ _ _ _|exact Kd.F5 _ _ _ _ _,xb⟩
    ·rw [if_neg c11] at H;have c11b0:decide ((x4_1.length:Int)<(l0.length:Int))=false:=decide_eq_false c11;have c11b1:decide (x4_1.length<l0.length)=false:=decide_eq_false (λh=>c11 (Int.ofNat_lt.mpr h));clear c11;replace H:=Option.bind_eq_some_iff.mp H;obtain ⟨t358,A130,H⟩:=H;replace H:(if t358=true then (some (([]:List (CU)),152)) else (some (x4_1,0)))=some (r1,r2):=H;have A13:=AA.mk A130;clear A130;by_cases c14:t358=true
     ·subst c14;rw [if_pos rfl] at H;simp only [Option.some.injEq,Prod.mk.injEq] at H;obtain ⟨rfl,rfl⟩:=H;obtain ⟨Ao15,co15,eo15⟩:=Kd.CE HO_4.out;subst eo15;go_wp2_with (first|((with_reducible refine AO (f:=64) rfl ?_);refine Ak (some 30) rfl rfl Tryz.func64 (by kernel_rfl) rfl #[.slice Ao15 x4_1.length co15] rfl xg ?_;(with_reducible refine (Bg.calls k1 _ _ x4_1 true _ ?side1 ?side2 A13.out).mono ?_);(case side1=>repeat (first|exact (Kd.BH HO_4.out).2.2|(with_reducible refine Kd.CZ ?_ _)|(with_reducible refine Kd.Cb ?_ _)|(with_reducible refine Kd.Cs ?_)));(case side2=>exact (Kd.BH HO_4.out).2.1);rintro e w' ⟨rfl,⟨nd,rfl⟩⟩;refine ⟨_,rfl,?_⟩));go_ret2;exact ⟨_,xe,by first|exact Kd.Eu _ _ _ _ _|exact Kd.F6 _ _ _ _ _|exact Kd.F7 _ _ _ _ _|exact Kd.F3 _ _ _ _ _|exact Kd.F5 _ _ _ _ _,xb⟩
     ·replace c14:=Bool.eq_false_iff.mpr c14;subst c14;have H1:(some (x4_1,0))=some (r1,r2):=by rw [if_neg (show ¬(false=true) by decide)] at H;exact H
      clear H;have H:=H1;clear H1;simp only [Option.some.injEq,Prod.mk.injEq] at H;obtain ⟨rfl,rfl⟩:=H;obtain ⟨Ao16,co16,eo16⟩:=Kd.CE HO_4.out;subst eo16;go_wp2_with (first|((with_reducible refine AO (f:=64) rfl ?_);refine Ak (some 30) rfl rfl Tryz.func64 (by kernel_rfl) rfl #[.slice Ao16 x4_1.length co16] rfl xg ?_;(with_reducible refine (Bg.calls k1 _ _ x4_1 false _ ?side1 ?side2 A13.out).mono ?_);(case side1=>repeat (first|exact (Kd.BH HO_4.out).2.2|(with_reducible refine Kd.CZ ?_ _)|(with_reducible refine Kd.Cb ?_ _)|(with_reducible refine Kd.Cs ?_)));(case side2=>exact (Kd.BH HO_4.out).2.1);rintro e w' ⟨rfl,⟨nd,rfl⟩⟩;refine ⟨_,rfl,?_⟩));go_ret2;exact ⟨_,xe,by (with_reducible repeat (first|apply Kd.Bd|apply Kd.Be|apply Kd.Bl));exact HO_4.out,xb⟩
end Go.Proofs.YtikggnalmidlhaaGreatDoor.Print
end
section
namespace Go.Proofs.YtikggnalmidlhaaGreatDoor.Y
open RowKit Print AR Aa Ad
set_option linter.unusedVariables false
set_option linter.unusedSimpArgs false
def Jy (d:ByteArray) (m:List SC):Nat:=(m.filter λx=>decide (x.f0=d)).length
def JA (m:List SC):Bool:=m.any (λx=>decide (12<Jy x.f0 m))||decide (60<m.length)
theorem Gp (d:ByteArray) (x:SC) (m:List SC):Jy d (x::m)=(if x.f0=d then 1 else 0)+Jy d m:=by
 unfold Jy;by_cases h:x.f0=d
 ·rw [List.filter_cons_of_pos (by simpa using h),if_pos h,List.length_cons];omega
 ·rw [List.filter_cons_of_neg (by simpa using h),if_neg h];omega
theorem Ql (m:List SC) (d:ByteArray) (hb:m.length<=10000):∀ n j (c:Nat),m.length - j=n->j<=m.length->c<=j->
 Ev (λk=>BU.l0 k m d (c:Int) (j:Int)) ((c+Jy d (m.drop j):Nat):Int):=by
 intro n;induction n with
 |zero=>
  intro j c hn hj hc;obtain rfl:j=m.length:=by omega
  rw [List.drop_length];refine BB ?_;simp only [BU.l0];exact Ah (by omega) (Am _)
 |succ n ih=>
  intro j c hn hj hc;have hlt:j<m.length:=by omega
  rw [List.drop_eq_getElem_cons hlt,Gp];refine BB ?_;simp only [BU.l0];rw [Pq hlt,GY (by omega),GY (by omega)];refine AU (by omega) (AU (by omega) ?_);by_cases h:m[j].f0=d
  ·rw [if_pos h];exact AU (toList_inj.2 h) (BG (ih (j+1) (c+1) (by omega) (by omega) (by omega)) (by omega))
  ·rw [if_neg h];exact Ah (λe=>h (toList_inj.1 e)) (BG (ih (j+1) c (by omega) (by omega) (by omega)) (by omega))
theorem PX {m:List SC} (d:ByteArray) (hb:m.length<=1000):Ev (λk=>BU.f k m d) (Jy d m:Int):=
 BG (Ql m d (by omega) _ 0 0 rfl (Nat.zero_le _) (Nat.le_refl _)) (by simp)
theorem SG (m:List SC) (hb:m.length<=1000):∀ n j,m.length - j=n->j<=m.length->
 Ev (λk=>Bg.l0 k m (j:Int)) ((m.drop j).any (λx=>decide (12<Jy x.f0 m))||decide (60<m.length)):=by
 intro n;induction n with
 |zero=>
  intro j hn hj;obtain rfl:j=m.length:=by omega
  rw [List.drop_length];refine BB ?_;simp only [Bg.l0];refine Ah (by omega) (BG (Am _) ?_);rw [List.any_nil,Bool.false_or];exact decide_eq_decide.2 (by omega)
 |succ n ih=>
  intro j hn hj;have hlt:j<m.length:=by omega
  rw [List.drop_eq_getElem_cons hlt,List.any_cons];refine BB ?_;simp only [Bg.l0];rw [Pq hlt,GY (by omega)];refine AU (by omega) (AU (by omega) (BL (PX _ hb) ?_));by_cases h:12<Jy m[j].f0 m
  ·exact AU (by omega) (BG (Am _) (by rw [decide_eq_true h];rfl))
  ·exact Ah (by omega) (BG (ih (j+1) (by omega) (by omega)) (by rw [decide_eq_false h,Bool.false_or]))
theorem Qm {m:List SC} (hb:m.length<=1000):Ev (λk=>Bg.f k m) (JA m):=
 SG m hb _ 0 rfl (Nat.zero_le _)
theorem Om:∀ (m:List SC) (o:Nat) (d:ByteArray),Di Cq kC m->(∀ x∈m,Fv d x.f0<=0)->o<=12->
 (Ey (m.map (·.f0)) (o:Int) d=true↔∃ x∈m,12<Jy x.f0 m+if x.f0=d then o else 0)
 |[],o,d,_,_,_=>by simp [Ey]
 |x::m,o,d,hr,hd,ho=>by
  obtain ⟨h1,h2⟩:=List.pairwise_cons.1 hr;have hx:∀ y∈m,Fv x.f0 y.f0<=0:=λy hy=>by
   have h3:GG (kC x) (kC y)<0:=h1 y hy;unfold GG at h3;rw [J6] at h3;unfold Ns KV at h3;by_cases h4:Fv x.f0 y.f0=0
   ·omega
   ·have h5:¬Fv (kC x).f0 (kC y).f0=0:=h4;rw [if_neg h5] at h3;have h6:Fv x.f0 y.f0<0:=h3;omega
  have hdx:=hd x List.mem_cons_self;obtain ⟨o',ho',hgo⟩:∃ o':Nat,o'=(if x.f0=d then o else 0)+1/\Ey ((x::m).map (·.f0)) (o:Int) d=(decide (12<o')||Ey (m.map (·.f0)) (o':Int) x.f0):=by
   refine ⟨_,rfl,?_⟩;rw [List.map_cons];show (if 12<(if x.f0=d then (o:Int) else 0)+1 then true else Ey _ ((if x.f0=d then (o:Int) else 0)+1) x.f0)=_;have hc:(if x.f0=d then (o:Int) else 0)+1=(((if x.f0=d then o else 0)+1:Nat):Int):=by split<;>omega
   rw [hc];generalize (if x.f0=d then o else 0)+1=q;by_cases h3:12<q
   ·rw [if_pos (by omega),decide_eq_true h3,Bool.true_or]
   ·rw [if_neg (by omega),decide_eq_false h3,Bool.false_or]
  rw [hgo,Bool.or_eq_true,decide_eq_true_iff];by_cases hbig:12<o'
  ·refine ⟨λ_=>⟨x,List.mem_cons_self,?_⟩,λ_=> .inl hbig⟩;rw [Gp,if_pos rfl];omega
  ·rw [Om m o' x.f0 h2 hx (by omega)];constructor
   ·rintro (h|⟨y,hy,h⟩)
    ·exact absurd h hbig
    ·by_cases e:y.f0=x.f0
     ·refine ⟨x,List.mem_cons_self,?_⟩;rw [Gp,if_pos rfl];rw [if_pos e,e] at h;omega
     ·refine ⟨y,List.mem_cons_of_mem _ hy,?_⟩;rw [if_neg e] at h;rw [Gp];omega
   ·rintro ⟨y,hy,h⟩;rw [Gp] at h;by_cases e:x.f0=y.f0
    ·rw [if_pos e] at h;rw [<-e] at h;refine .inr ?_;by_cases hm:∃ z∈m,z.f0=x.f0
     ·obtain ⟨z,hz,hz2⟩:=hm;refine ⟨z,hz,?_⟩;rw [if_pos hz2,hz2];omega
     ·have h0:Jy x.f0 m=0:=by
       unfold Jy;rw [List.length_eq_zero_iff,List.filter_eq_nil_iff];intro z hz hz2;exact hm ⟨z,hz,of_decide_eq_true hz2⟩
      omega
    ·rw [if_neg e] at h;have hy2:y∈m:=(List.mem_cons.1 hy).resolve_left λe2=>e (by rw [e2])
     have hyd:¬y.f0=d:=λe2=>by
      have h3:=hx y hy2;rw [e2] at h3;have h4:=GA.anti x.f0 d;exact e ((GA.same _ _).1 (by rw [e2];omega))
     rw [if_neg hyd] at h;exact .inr ⟨y,hy2,by omega⟩
def FC (c:SC):SK:=⟨kC c,c⟩
theorem UH {m:List SC} (h:Di Cq kC m) (hb:m.length<=1000):Ee.f (m.map FC)=some (JA m):=by
 unfold Ee.f;rw [if_pos (by rw [List.length_map];omega),List.length_map,List.map_map];congr 1;unfold JA;congr 1;have hg:=Om m 0 ⟨#[]⟩ h (λx _=>?_) (by omega)
 ·rw [Bool.eq_iff_iff,List.any_eq_true];refine hg.trans (exists_congr λx=>and_congr_right λ_=>?_);rw [decide_eq_true_iff];split<;>omega
 ·rw [Ip];rw [show bytesOf ⟨#[]⟩=[] from rfl];cases bytesOf x.f0 with
  |nil=>exact Int.le_refl 0
  |cons a l=>exact (by decide:(-1:Int)<=0)
end Go.Proofs.YtikggnalmidlhaaGreatDoor.Y
end
