/- Several parts of the claim's proof in one text, said short by a program of this session. No condition. -/
import Derived.Test.YtikggnalmidlhaaGreatDoorM33
import Derived.Test.YtikggnalmidlhaaGreatDoorM34
section
namespace Go.Proofs.YtikggnalmidlhaaGreatDoor.Y
set_option linter.unusedVariables false
set_option linter.unusedSimpArgs false
open RowKit Print AR Aa Ad
theorem WB {α:Type} {f:Nat->Option α} {r:α} (h:∀ k,f k=some r):Ev f r:=⟨0,λ_ _=>h _⟩
theorem XR (a c:ByteArray):stringslite_HasPrefix.f a c=some (TT a c):=by
 have h:=Sr a c;unfold strings_HasPrefix.f at h;obtain ⟨x,h1,h2⟩:=Option.bind_eq_some_iff.1 h;rw [h1,h2]
def Vg (s p:ByteArray):ByteArray:=if TT s p=true then s.extract p.size s.size else s
theorem Wx (s p:ByteArray):strings_CutPrefix.f s p=some (Vg s p,TT s p):=by
 unfold strings_CutPrefix.f stringslite_CutPrefix.f Vg;rw [XR];cases h:TT s p with
 |false=>rfl
 |true=>
  have:=Vl h;rw [Option.bind_some,if_pos rfl,if_pos (by omega),if_pos (by omega),if_pos rfl,Int.toNat_natCast];rfl
theorem Vr (s p:ByteArray):(Vg s p).size<=s.size:=by
 unfold Vg;split
 ·rw [ByteArray.size_extract];omega
 ·exact Nat.le_refl _
def WM (only:Bool) (now:Int) (f0 f1 f2 f3 f4 f5 f6:ByteArray):SC×Int:=
 if Hz f1=true\/Hz f3=true\/TT f0 O4≠P6 f1\/(EK (Vg f0 O4)).2=false\/(EI f4).2=false then (Ug,192)
 else if Ir (EK (Vg f0 O4)).1 f2 f5 f6 now now (EI f4).1 (!P6 f1) 0=true then (⟨(EK (Vg f0 O4)).1,f2,f5,f6,now,now,(EI f4).1, !P6 f1,P6 f3,only,0⟩,0) else (Ug,192)
def XT (only:Bool) (now:Int):List ByteArray->SC×Int
 |[f0,f1,f2,f3,f4,f5,f6]=>WM only now f0 f1 f2 f3 f4 f5 f6
 |_=>(Ug,191)
theorem WC {only:Bool} {now:Int} {f:List ByteArray} (h:f.length≠7):XT only now f=(Ug,191):=by
 unfold XT;split
 ·exact absurd rfl h
 ·rfl
def V8 (now:Int) (s:ByteArray):SC×Int:=XT (TT s Fb) now (Vn (Vg s Fb))
theorem V6 (s:ByteArray):(EK s).1.size<=64:=by
 rcases h:EK s with ⟨t,b⟩
 cases b with
 |true=>
  obtain ⟨rfl,h1,_⟩:=PV h;rw [Ms];exact h1
 |false=>
  unfold EK at h;split at h
  ·simp at h
  ·simp only [Prod.mk.injEq] at h;rw [<-h.1];decide
theorem We {only:Bool} {now:Int} {f0 f1 f2 f3 f4 f5 f6:ByteArray} (h2:f2.size<=3000) (h5:f5.size<=3000) (h6:f6.size<=3000):Ev (λk=>LD k only now f0 f1 f2 f3 f4 f5 f6) (WM only now f0 f1 f2 f3 f4 f5 f6):=by
 unfold LD WM;rw [Wx];refine BL (Am _) ?_;dsimp only
 refine BL (Qk _) ?_;unfold EL.f;refine BL (Am _) ?_;by_cases hb:Hz f1=true\/Hz f3=true\/TT f0 O4≠P6 f1\/(EK (Vg f0 O4)).2=false\/(EI f4).2=false
 ·exact AU hb (BG (Am _) (if_pos hb).symm)
 ·rw [show (if Hz f1=true\/Hz f3=true\/TT f0 O4≠P6 f1\/(EK (Vg f0 O4)).2=false\/(EI f4).2=false then (Ug,(192:Int)) else if Ir (EK (Vg f0 O4)).1 f2 f5 f6 now now (EI f4).1 (!P6 f1) 0=true then ((⟨(EK (Vg f0 O4)).1,f2,f5,f6,now,now,(EI f4).1, !P6 f1,P6 f3,only,0⟩:SC),(0:Int)) else (Ug,192))=_ from if_neg hb];have:=V6 (Vg f0 O4);refine Ah hb (BL (RA (by omega) h2 h5 h6) ?_);by_cases hr:Ir (EK (Vg f0 O4)).1 f2 f5 f6 now now (EI f4).1 (!P6 f1) 0=true
  ·exact AU hr (BG (Am _) (if_pos hr).symm)
  ·exact Ah hr (BG (Am _) (if_neg hr).symm)
theorem Wh {f0 f1:ByteArray} (h:TT f0 O4=P6 f1):(if P6 f1=true then f0.extract 1 f0.size else f0)=Vg f0 O4:=by
 unfold Vg;rw [h];rfl
theorem Wi {only:Bool} {now:Int} {f0 f1 f2 f3 f4 f5 f6:ByteArray} (h0:f0.size<=3000) (h2:f2.size<=3000) (h4:f4.size<=3000) (h5:f5.size<=3000) (h6:f6.size<=3000):Ev (λk=>Vy k only now f0 f1 f2 f3 f4 f5 f6) (WM only now f0 f1 f2 f3 f4 f5 f6):=by
 unfold Vy WM;by_cases hb:Hz f1=true\/Hz f3=true\/TT f0 O4≠P6 f1
 ·exact AU hb (BG (Am _) (if_pos (hb.elim .inl λh=> .inr (h.elim .inl λh=> .inr (.inl h)))).symm)
 ·refine Ah hb ?_;have hd:TT f0 O4=P6 f1:=Classical.byContradiction λo=>hb (.inr (.inr o))
  have hF:VP f1= !P6 f1:=(Vs λo=>hb (.inl o)).2;rw [Wh hd,hF];have hz:=Vr f0 O4;refine BL (Li (by omega)) (BL (Mq (by omega)) ?_);by_cases hq:(EK (Vg f0 O4)).2=false\/(EI f4).2=false
  ·rw [if_pos (.inr (.inr (.inr hq)))];exact AU hq (Am _)
  ·rw [if_neg (λh=>h.elim (λh=>hb (.inl h)) λh=>h.elim (λh=>hb (.inr (.inl h))) λh=>h.elim (λh=>hb (.inr (.inr h))) hq)];have:=V6 (Vg f0 O4);refine Ah hq (BL (Lv (by omega) h2 h5 h6) ?_);by_cases hr:Ir (EK (Vg f0 O4)).1 f2 f5 f6 now now (EI f4).1 (!P6 f1) 0=true
   ·exact AU hr (BG (Am _) (if_pos hr).symm)
   ·exact Ah hr (BG (Am _) (if_neg hr).symm)
theorem Wy {s:ByteArray} (now:Int) (hs:s.size<=3000):Ev (λk=>Db.f k s now) (V8 now s):=by
 unfold Db.f V8;rw [Wx];have hz:=Vr s Fb;refine BL (Am _) ?_;dsimp only
 rw [XP (by omega)];refine BL (Am _) ?_;have hsz:∀ x∈Vn (Vg s Fb),x.size<=3000:=λx hx=>by have:=V5 hx;omega
 by_cases h7:(Vn (Vg s Fb)).length=7
 ·obtain ⟨f0,f1,f2,f3,f4,f5,f6,e⟩:=seven h7;rw [e] at hsz⊢
  exact We (hsz _ (by simp)) (hsz _ (by simp)) (hsz _ (by simp))
 ·rw [WC h7];exact BG (WB λk=>NL h7) rfl
theorem Wz {s:ByteArray} (now:Int) (hs:s.size<=3000):Ev (λk=>WV k s now) (V8 now s):=by
 unfold WV V8;have hz:=Vr s Fb;have e0:(if TT s Fb=true then s.extract 10 s.size else s)=Vg s Fb:=rfl;rw [e0];refine BL (Ww (by omega)) ?_;have hsz:∀ x∈Vn (Vg s Fb),x.size<=3000:=λx hx=>by have:=V5 hx;omega
 by_cases h7:(Vn (Vg s Fb)).length=7
 ·obtain ⟨f0,f1,f2,f3,f4,f5,f6,e⟩:=seven h7;rw [e] at hsz⊢
  exact Wi (hsz _ (by simp)) (hsz _ (by simp)) (hsz _ (by simp)) (hsz _ (by simp)) (hsz _ (by simp))
 ·rw [WC h7];exact BG (WB λk=>Vz h7) rfl
def Vq (now:Int):List ByteArray->List SC×Int
 |[]=>([],0)
 |s::l=>if (V8 now s).2=0 then ((V8 now s).1::(Vq now l).1,(Vq now l).2) else ([],(V8 now s).2)
theorem XA (now:Int):∀ (l:List ByteArray),(∀ x∈l,x.size<=3000)->Ev (λk=>KI k now l) (Vq now l)
 |[],_=>by unfold KI Vq;exact Am _
 |s::l,h=>by
  unfold KI Vq;refine BL (Wy now (h s (.head _))) ?_;by_cases hz:(V8 now s).2=0
  ·rw [if_pos hz];exact AU hz (BL (XA now l λx hx=>h x (.tail _ hx)) (Am _))
  ·rw [if_neg hz];exact Ah hz (Am _)
def WE (r:List SC×Int):List SC×Int:=(if r.2=0 then r.1 else [],r.2)
def WW (now:Int):List ByteArray->List SC×Int
 |[]=>([],190)
 |h::l=>if h=G7 then WE (Vq now (EE l)) else ([],190)
def Vu (now:Int) (l:List ByteArray):List SC×Int:=if now<0\/253402300799<now then ([],1) else WW now l
def V7 (s:ByteArray) (now:Int):List SC×Int:=Vu now (Vi s)
theorem Wj:GU G7=true:=by decide+kernel
theorem Wl (l:List ByteArray):EE (G7::l)=EE l:=by
 unfold EE;rw [List.filter_cons_of_neg (by rw [Wj];decide)]
theorem XB {l:List ByteArray} {x:ByteArray} (h:x∈EE l):x∈l:=(List.mem_filter.1 h).1
theorem XC {s:ByteArray} {now:Int} (hs:s.size<=1000000000) (hl:∀ x∈Vi s,x.size<=3000):Ev (λk=>CV.f k s now) (V7 s now):=by
 unfold CV.f V7 Vu;rw [Wu hs];refine BL (Am _) ?_;by_cases hn:now<0\/253402300799<now
 ·rw [if_pos hn];exact AU hn (Am _)
 ·rw [if_neg hn];refine Ah hn ?_;cases e:Vi s with
  |nil=>exact Am _
  |cons h l=>
   rw [e] at hl;rw [show WW now (h::l)=if h=G7 then WE (Vq now (EE l)) else ([],190) from rfl];change Ev (λk=>if h.toList=G7.toList then Sw k now (h::l) else some ([],190)) _;by_cases hh:h.toList=G7.toList
   ·have hh':h=G7:=toList_inj.1 hh;rw [if_pos hh'];subst hh';refine AU rfl ?_;unfold Sw;rw [Wl];exact BL (XA now _ λx hx=>hl x (.tail _ (XB hx))) (Am _)
   ·rw [if_neg (λq=>hh (by rw [q]))];exact Ah hh (Am _)
theorem XD {s:ByteArray} (now:Int) (hs:s.size<=3000):Ev (λk=>Ve.f k s now) ((V8 now s).1.f0,(V8 now s).1.f1,(V8 now s).1.f2,(V8 now s).1.f3,(V8 now s).1.f4,(V8 now s).1.f5,(V8 now s).1.f6,(V8 now s).1.f7,(V8 now s).1.f8,(V8 now s).1.f9,(V8 now s).1.f10,(V8 now s).2):=by
 unfold Ve.f;exact BL (Wz now hs) (Am _)
theorem XE {s:ByteArray} (h:0<s.size):bt s 0=(s[0].toNat:Int):=by
 unfold bt;rw [dif_pos (by simpa using h)];rfl
theorem WS {x:ByteArray} {l:List ByteArray} (h:GU x=true):EE (x::l)=EE l:=by
 unfold EE;rw [List.filter_cons_of_neg (by rw [h];decide)]
theorem WT {x:ByteArray} {l:List ByteArray} (h:GU x=false):EE (x::l)=x::EE l:=by
 unfold EE;rw [List.filter_cons_of_pos (by rw [h];decide)]
def XF (acc:List SC) (r:List SC×Int):List SC×Int:=if r.2=0 then (acc++r.1,0) else ([],r.2)
theorem XK (l:List ByteArray) (now:Int) (hl:l.length<=1000000) (hm:∀ x∈l,x.size<=3000):∀ d j (acc:List SC),j+d=l.length->acc.length<=j->
 Ev (λk=>Yf.l0 k now l acc (j:Int)) (XF acc (Vq now (EE (l.drop j)))):=by
 intro d;induction d with
 |zero=>
  intro j acc hj ha;rw [List.drop_eq_nil_of_le (by omega)];apply BB;unfold Yf.l0;exact Ah (by omega) (BG (Am _) (by show (acc,(0:Int))=(acc++[],0);rw [List.append_nil]))
 |succ d ih=>
  intro j acc hj ha;have hlt:j<l.length:=by omega
  have hx:=hm _ (List.getElem_mem hlt);have hrd:Cf ByteArray.empty l (j:Int)=l[j]:=Gx (List.drop_eq_getElem_cons hlt);have hw:wrap64 ((j:Int)+1)=((j+1:Nat):Int):=by rw [KD (by omega) (by omega)];omega
  have hj3:Ev (λk=>Yf.j3 k now l acc (j:Int) (GU l[j])) (XF acc (Vq now (EE (l.drop j)))):=by
   apply BB;unfold Yf.j3;rw [List.drop_eq_getElem_cons hlt,hrd,hw];by_cases hn:GU l[j]=true
   ·rw [WS hn];exact AU hn (ih (j+1) acc (by omega) (by omega))
   ·have hnf:GU l[j]=false:=by simpa using hn
    rw [WT hnf];refine Ah hn (AU (by omega) (AU (by omega) (BL (XD now hx) ?_)));dsimp only
    unfold Vq;by_cases hz:(V8 now l[j]).2=0
    ·rw [if_pos hz];refine AU hz (AU (by omega) (BG (ih (j+1) _ (by omega) (by simp;omega)) ?_));unfold XF;simp only [List.append_assoc,List.singleton_append]
    ·rw [if_neg hz];refine Ah hz (BG (Am _) ?_);unfold XF;rw [if_neg hz]
  apply BB;unfold Yf.l0;rw [hrd];refine AU (by omega) (AU (by omega) ?_);by_cases h0:(l[j]).toList=([]:List UInt8)
  ·have hn:GU l[j]=true:=by unfold GU;rw [h0];rfl
   rw [hn] at hj3;exact AU h0 hj3
  ·have g:((l[j]).toList==([]:List UInt8))=false:=beq_eq_false_iff_ne.2 h0;have hp:0<(l[j]).size:=by
    rcases Nat.eq_zero_or_pos (l[j]).size with e|e
    ·exact absurd (by rw [toList_data];exact List.eq_nil_of_length_eq_zero (by rw [Array.length_toList];exact e)) h0
    ·exact e
   refine Ah h0 (AU (by omega) ?_);rw [XE hp];by_cases h35:((l[j])[0].toNat:Int)=35
   ·refine AU h35 ?_;rw [Wm];refine BL (Am _) ?_;rw [NF hp g h35] at hj3;exact hj3
   ·rw [NG hp g h35] at hj3;exact Ah h35 hj3
theorem XG {s:ByteArray} {now:Int} (hs:s.size<=1000000) (hl:∀ x∈Vi s,x.size<=3000):Ev (λk=>Yf.f k s now) (V7 s now):=by
 have bad:∀ b:Bool,b=true->(now<0\/253402300799<now)->Ev (λk=>Yf.j0 k s now b) (V7 s now):=by
  rintro b rfl hn;apply BB;unfold Yf.j0 V7 Vu;rw [if_pos hn];exact AU rfl (Am _)
 unfold Yf.f;by_cases h1:now<0
 ·exact AU h1 (bad _ rfl (.inl h1))
 ·refine Ah h1 ?_;by_cases h2:now>253402300799
  ·exact bad _ (decide_eq_true h2) (.inr h2)
  ·rw [decide_eq_false h2];apply BB;unfold Yf.j0 V7 Vu;rw [if_neg (show ¬(now<0\/253402300799<now) by omega)];have hlen:=V4 s;refine Ah (by decide) (BL (WJ (by omega)) ?_);have no:∀ (l:List ByteArray) (b:Bool),b=true->Ev (λk=>Yf.j1 k now l b) (([]:List SC),(190:Int)):=by
    rintro l b rfl;apply BB;unfold Yf.j1;exact AU rfl (Am _)
   cases e:Vi s with
   |nil=>exact AU rfl (no _ _ rfl)
   |cons h l=>
    rw [e] at hl hlen;have hr0:Cf ByteArray.empty (h::l) 0=h:=rfl;refine Ah (by simp only [List.length_cons];omega) (AU (by simp only [List.length_cons];omega) ?_);rw [hr0,show ([35,32,78,101,116,115,99,97,112,101,32,72,84,84,80,32,67,111,111,107,105,101,32,70,105,108,101]:List UInt8)=G7.toList from JX.symm];rw [show WW now (h::l)=if h=G7 then WE (Vq now (EE l)) else ([],190) from rfl];by_cases hh:h=G7
    ·rw [if_pos hh];have e2:(h.toList != G7.toList)=false:=by rw [hh];simp
     rw [e2];apply BB;unfold Yf.j1;have:=XK (h::l) now (by omega) hl l.length 1 [] (by simp only [List.length_cons];omega) (Nat.zero_le _);refine Ah (by decide) (BG this ?_);unfold XF WE;rw [List.drop_succ_cons,List.drop_zero];split
     ·rename_i hz;rw [hz];rfl
     ·rfl
    ·rw [if_neg hh];exact no _ _ (bne_iff_ne.2 λq=>hh (toList_inj.1 q))
end Go.Proofs.YtikggnalmidlhaaGreatDoor.Y
end
section
namespace Go.Proofs.YtikggnalmidlhaaGreatDoor.Print
open RowKit AR Aa Ad
attribute [local go_sem] BM BN Bo Bp BC BD BO BP
set_option linter.unusedVariables false
set_option linter.unusedSimpArgs false
def Yb.j0:Nat->List (CU)->List (CU)->Bool->List (Cj)->List (Cj)->Option (Bool)
 |0,_,_,_,_,_=>none
 |k+1,x0,x1,x28,x457000,x462000=>if x28=true then ((Bi.f k).bind λt462=>(some t462)) else ((XV.f k 1 0 x0).bind λbt463=>((XV.f k 1 0 x1).bind λbt467=>((Bi.f k).bind λt471=>(if t471=true then ((BQ.f k x457000).bind λt472=>((BQ.f k x462000).bind λt473=>((Bf.f k bt463.1 bt467.1).bind λt474=>(some ((t472.toList==t473.toList)==t474))))) else (some false)))))
def Yb.f (k:Nat) (l0:List (CU)) (l1:List (CU)):Option (Bool):=(Cu.f k l0).bind λbt452=>((Cu.f k l1).bind λbt457=>(if bt452.2=true then (Yb.j0 k l0 l1 (!bt457.2) bt452.1 bt457.1) else (Yb.j0 k l0 l1 true bt452.1 bt457.1)))
def Yb.T7:Bool×List (List Nat×List Nat):=(true,[([],[]),([0,0],[0]),([1],[1]),([2,1,1],[1,2]),([1],[1]),([4,3,1],[1,4]),([3,5,1],[1,3,5]),([1],[1]),([1],[1]),([7,8,5,1],[1,7,8]),([6,9,1],[1,6,9]),([1,10],[1,10]),([11,9,0,1,2,3,4,5,6,7,8,9,10,11],[11])])
def Yb.B7:List Nat:=[0,1,3,7,3,31,63,3,3,447,1023,2047,4095]
theorem Yb.Tj:E8 .any (opsOf Tryz.f8 7)=Yb.T7:=by kernel_rfl
theorem Yb.QJ:FE Yb.T7.2 Yb.B7=true:=by kernel_rfl
set_option maxHeartbeats 8000000 in
set_option maxRecDepth 100000 in
theorem Yb.calls (k:Nat) (A0:Option Addr) (c0:Nat) (l0:List (CU)) (A1:Option Addr) (c1:Nat) (l1:List (CU)) (r:Bool) (w:World) (hr0:Kd.C Fu w A0 l0.length l0) (hc0:l0.length<=c0) (hr1:Kd.C Fu w A1 l1.length l1) (hc1:l1.length<=c1) (hG:AA (Ck w)) (hT_:AA (r=true)) (h:Yb.f k l0 l1=some r):
 Calls Tryz.prog 8 #[.slice A0 l0.length c0, .slice A1 l1.length c1] w λe w'=>e= .returned (.bool r)/\Below w.heap.size w w':=by
 have hu29:=Tryz.underlying29;have HR0:=AA.mk hr0;have HC0:=AA.mk hc0;clear hr0 hc0;have HR1:=AA.mk hr1;have HC1:=AA.mk hc1;clear hr1 hc1;have HB:=AA.mk (Below.refl w.heap.size w);have H:((Cu.f k l0).bind λbt452=>((Cu.f k l1).bind λbt457=>(if bt452.2=true then (Yb.j0 k l0 l1 (!bt457.2) bt452.1 bt457.1) else (Yb.j0 k l0 l1 true bt452.1 bt457.1))))=some r:=h;clear h;replace H:=Option.bind_eq_some_iff.mp H;obtain ⟨⟨t452,t455⟩,A30,H⟩:=H;try dsimp only at H
 have A3:=AA.mk A30;clear A30;replace H:=Option.bind_eq_some_iff.mp H;obtain ⟨⟨t457,t460⟩,A40,H⟩:=H;try dsimp only at H
 have A4:=AA.mk A40;clear A40;have HC5:=AA.mk H;clear H;go_enter Tryz.func8,Tryz.ntmps8;go_upto_region 3 with (first|((with_reducible refine AO (f:=9) rfl ?_);refine Ak (some 15) rfl rfl Tryz.func9 (by kernel_rfl) rfl #[.slice A0 l0.length c0] rfl xg ?_;(with_reducible refine (Cu.calls k _ _ l0 t452 t455 _ ?side1 ?side2 xl A3.out).mono ?_);(case side1=>repeat (first|exact HR0.out|(with_reducible refine Kd.CZ ?_ _)|(with_reducible refine Kd.Cb ?_ _)|(with_reducible refine Kd.Cs ?_)));(case side2=>exact HC0.out);rintro e w6 ⟨v453,rfl,ho0,hb⟩;refine ⟨_,rfl,?_⟩;have HO454:=AA.mk (Kd.Cm ho0 (BF xb));replace HB:=AA.mk (AP xb hb);(try clear hb);(try clear ho0))|(refine Dk (N:=5) (cs:=#[.slice none 0 0]) (t:=29) (λgb456 hg w7 hbox hb=>?_);replace HO454:=AA.mk (Kd.BX (xR HO454) hb);have BK456:=AA.mk (hbox);have GW456:AA (w.heap.size<=gb456):=Dp hg xb;have GE456:AA (w.heap.size<=gb456):=Dp hg xb;replace HB:=AA.mk (AP xb hb);clear hb hbox hg;obtain ⟨Ao8,co8,eo8⟩:=Kd.CE HO454.out;subst eo8;have hcz9_0:w7.cell? ⟨gb456,0,none⟩=some (.slice none 0 0):=(AL BK456.out 0).trans rfl;have hfz9_0:=AX BK456.out 0)|((with_reducible refine AO (f:=9) rfl ?_);refine Ak (some 20) rfl rfl Tryz.func9 (by kernel_rfl) rfl #[.slice A1 l1.length c1] rfl xg ?_;(with_reducible refine (Cu.calls k _ _ l1 t457 t460 _ ?side1 ?side2 xl A4.out).mono ?_);(case side1=>exact Kd.DW HR1.out xb);(case side2=>exact HC1.out);rintro e w10 ⟨v458,rfl,ho0,hb⟩;refine ⟨_,rfl,?_⟩;have HO459:=AA.mk (Kd.Cm (Kd.QV ho0 (Kd.MZ (by (with_reducible repeat (first|apply Kd.Bd|apply Kd.Be|apply Kd.Bl));exact (Kd.CQ (Kd.CY (p:=⟨gb456,0,none⟩) (Kd.CS HO454.out BK456.out (by decide)) (λ_ hk=>hk.2) (.slice Ao8 t452.length co8)) (λ_ h_=>h_.1))))) (BF xb));replace HO454:=AA.mk (Kd.Ma (by (with_reducible repeat (first|apply Kd.Bd|apply Kd.Be|apply Kd.Bl));exact (Kd.CQ (Kd.CY (p:=⟨gb456,0,none⟩) (Kd.CS HO454.out BK456.out (by decide)) (λ_ hk=>hk.2) (.slice Ao8 t452.length co8)) (λ_ h_=>h_.1))) (Kd.D6 ho0) hb);replace BK456:=AA.mk (DV (g:=gb456) (o:= .cells #[.slice Ao8 t452.length co8] 29 (0,0)) xk hb);replace HB:=AA.mk (AP xb hb);(try clear hb);(try clear ho0))|(refine Dk (N:=7) (cs:=#[.slice none 0 0]) (t:=29) (λgb461 hg w11 hbox hb=>?_);replace HO454:=AA.mk (Kd.BX (xR HO454) hb);replace HO459:=AA.mk (Kd.BX (xR HO459) hb);have BK461:=AA.mk (hbox);have GW461:AA (w.heap.size<=gb461):=Dp hg xb;have GE461:AA (w.heap.size<=gb461):=Dp hg xb;replace HB:=AA.mk (AP xb hb);have NB456_461:=G9 hg (Cz BK456);have NB461_456:=HZ hg (Cz BK456);replace BK456:=Bt BK456 hb;clear hb hbox hg;obtain ⟨Ao12,co12,eo12⟩:=Kd.CE HO459.out;subst eo12;have hnb13:=NB461_456.out;have hnc13:=NB456_461.out;have hcz14_0:w11.cell? ⟨gb461,0,none⟩=some (.slice none 0 0):=(AL BK461.out 0).trans rfl;have hfz14_0:=AX BK461.out 0))
 (try simp only [Act.put,List.setIfInBounds_toArray,List.set_cons_zero,List.set_cons_succ]);go_cut [28] (λv28 wc=>∃ (kq:Nat) (x28_4:Bool),v28= .bool x28_4/\AA (Yb.j0 kq l0 l1 x28_4 t452 t457=some r)/\AA (kq<=k)/\AA (Kd.R Ex 98 wc w.heap.size (λk_=>some k_≠((.slice Ao12 t457.length co12):Value).ownBlock) (.slice Ao8 t452.length co8) t452)/\AA (Kd.R Ex 98 wc w.heap.size (λk_=>some k_≠((.slice Ao8 t452.length co8):Value).ownBlock) (.slice Ao12 t457.length co12) t457)/\AA (wc.heap[gb456]? =some (.cells #[(.slice Ao8 t452.length co8)] 29 (0,0)))/\AA (wc.heap[gb461]? =some (.cells #[(.slice Ao12 t457.length co12)] 29 (0,0)))/\AA (Below w.heap.size w wc));case first=>
  have H:=HC5.out;clear HC5;by_cases c15:t455=true
  ·subst c15;have H1:(Yb.j0 k l0 l1 (!t460) t452 t457)=some r:=by rw [if_pos rfl] at H;exact H
   clear H;have H:=H1;clear H1;have H':=AA.mk H;clear H;go_wp2;go_meet;case rel=>exact ⟨_,(!t460),xq,H',⟨by first|omega|exact Nat.le_refl _⟩,⟨by (with_reducible repeat (first|apply Kd.Bd|apply Kd.Be|apply Kd.Bl));exact Kd.CQ (Kd.CY (p:=⟨gb461,0,none⟩) (Kd.CS HO454.out BK461.out (by decide)) (λ_ hk=>hk.2) (.slice Ao12 t457.length co12)) (λ_ hk=>hk.1.2)⟩,⟨by (with_reducible repeat (first|apply Kd.Bd|apply Kd.Be|apply Kd.Bl));exact Kd.CQ (Kd.CY (p:=⟨gb461,0,none⟩) (Kd.CS HO459.out BK461.out (by decide)) (λ_ hk=>hk.2) (.slice Ao12 t457.length co12)) (λ_ hk=>hk.1.2)⟩,⟨xk⟩,⟨xk⟩,⟨xb⟩⟩
  ·replace c15:=Bool.eq_false_iff.mpr c15;subst c15;have H1:(Yb.j0 k l0 l1 true t452 t457)=some r:=by rw [if_neg (show ¬(false=true) by decide)] at H;exact H
   clear H;have H:=H1;clear H1;have H':=AA.mk H;clear H;go_wp2;go_meet;case rel=>exact ⟨_,(true),xq,H',⟨by first|omega|exact Nat.le_refl _⟩,⟨by (with_reducible repeat (first|apply Kd.Bd|apply Kd.Be|apply Kd.Bl));exact Kd.CQ (Kd.CY (p:=⟨gb461,0,none⟩) (Kd.CS HO454.out BK461.out (by decide)) (λ_ hk=>hk.2) (.slice Ao12 t457.length co12)) (λ_ hk=>hk.1.2)⟩,⟨by (with_reducible repeat (first|apply Kd.Bd|apply Kd.Be|apply Kd.Bl));exact Kd.CQ (Kd.CY (p:=⟨gb461,0,none⟩) (Kd.CS HO459.out BK461.out (by decide)) (λ_ hk=>hk.2) (.slice Ao12 t457.length co12)) (λ_ hk=>hk.1.2)⟩,⟨xk⟩,⟨xk⟩,⟨xb⟩⟩
 case rest=>
  clear HC5;try clear c1
  try clear p2
  try clear p3
  try clear p6
  try clear c8
  try clear c9
  try clear c13
  try clear c15
  try clear hcz14_0
  try clear hcz9_0
  try clear hfz14_0
  try clear hfz9_0
  obtain ⟨kq,x28_4,rfl,HA,HJ4,HO_457000,HO_462000,BK456,BK461,HB⟩:=hcut;cases kq with
  |zero=>exact absurd HA.out (by simp [Yb.j0])
  |succ kj4=>
   have H:=HA.out;clear HA;simp only [Yb.j0] at H;by_cases c16:x28_4=true
   ·subst c16;have H1:((Bi.f kj4).bind λt462=>(some t462))=some r:=by rw [if_pos rfl] at H;exact H
    clear H;have H:=H1;clear H1;replace H:=Option.bind_eq_some_iff.mp H;obtain ⟨t462,A170,H⟩:=H;replace H:(some t462)=some r:=H;have A17:=AA.mk A170;clear A170;obtain rfl:=Option.some.inj H;go_wp2_with (first|((with_reducible refine AO (f:=10) rfl ?_);refine Ak (some 29) rfl rfl Tryz.func10 (by kernel_rfl) rfl #[] rfl xg ?_;(with_reducible refine (Bi.calls kj4 t462 _ xl ⟨by first|rfl|assumption|exact hT_.out⟩ A17.out).mono ?_);rintro e w18 ⟨rfl,hb⟩;refine ⟨_,rfl,?_⟩;replace HO_457000:=AA.mk (Kd.BX (xR HO_457000) hb);replace HO_462000:=AA.mk (Kd.BX (xR HO_462000) hb);replace BK456:=Bt BK456 hb;replace BK461:=Bt BK461 hb;replace HB:=AA.mk (AP xb hb);(try clear hb)));go_ret;exact ⟨xe,xb⟩
   ·replace c16:=Bool.eq_false_iff.mpr c16;subst c16;have H1:((XV.f kj4 1 0 l0).bind λbt463=>((XV.f kj4 1 0 l1).bind λbt467=>((Bi.f kj4).bind λt471=>(if t471=true then ((BQ.f kj4 t452).bind λt472=>((BQ.f kj4 t457).bind λt473=>((Bf.f kj4 bt463.1 bt467.1).bind λt474=>(some ((t472.toList==t473.toList)==t474))))) else (some false)))))=some r:=by rw [if_neg (show ¬(false=true) by decide)] at H;exact H
    clear H;have H:=H1;clear H1;replace H:=Option.bind_eq_some_iff.mp H;obtain ⟨⟨t463,t464⟩,A190,H⟩:=H;replace H:((XV.f kj4 1 0 l1).bind λbt467=>((Bi.f kj4).bind λt471=>(if t471=true then ((BQ.f kj4 t452).bind λt472=>((BQ.f kj4 t457).bind λt473=>((Bf.f kj4 t463 bt467.1).bind λt474=>(some ((t472.toList==t473.toList)==t474))))) else (some false))))=some r:=H;have A19:=AA.mk A190;clear A190;replace H:=Option.bind_eq_some_iff.mp H;obtain ⟨⟨t467,t468⟩,A200,H⟩:=H;try dsimp only at H
    have A20:=AA.mk A200;clear A200;replace H:=Option.bind_eq_some_iff.mp H;obtain ⟨t471,A210,H⟩:=H;try dsimp only at H
    have A21:=AA.mk A210;clear A210;by_cases c22:t471=true
    ·subst c22;rw [if_pos rfl] at H;replace H:=Option.bind_eq_some_iff.mp H;obtain ⟨t472,A230,H⟩:=H;try dsimp only at H
     have A23:=AA.mk A230;clear A230;replace H:=Option.bind_eq_some_iff.mp H;obtain ⟨t473,A240,H⟩:=H;try dsimp only at H
     have A24:=AA.mk A240;clear A240;replace H:=Option.bind_eq_some_iff.mp H;obtain ⟨t474,A250,H⟩:=H;try dsimp only at H
     have A25:=AA.mk A250;clear A250;obtain rfl:=Option.some.inj H;try go_wp2_with (first|((with_reducible refine AO (f:=16) rfl ?_);refine Ak (some 32) rfl rfl Tryz.func16 (by kernel_rfl) rfl #[.int .i64 1, .int .i64 0, .slice A0 l0.length c0] rfl xg ?_;(with_reducible refine (XV.calls kj4 1 0 _ _ l0 t463 t464 _ ?side1 ?side2 A19.out).mono ?_);(case side1=>repeat (first|exact (Kd.DW HR0.out HB.out)|(with_reducible refine Kd.CZ ?_ _)|(with_reducible refine Kd.Cb ?_ _)|(with_reducible refine Kd.Cs ?_)));(case side2=>exact HC0.out);rintro e w26 ⟨v465,rfl,ho0,hb⟩;refine ⟨_,rfl,?_⟩;replace HO_457000:=AA.mk (Kd.BX (xR HO_457000) hb);replace HO_462000:=AA.mk (Kd.BX (xR HO_462000) hb);have HO466:=AA.mk (Kd.Cm ho0 (BF xb));replace BK456:=Bt BK456 hb;replace BK461:=Bt BK461 hb;replace HB:=AA.mk (AP xb hb);(try clear hb);(try clear ho0))|((with_reducible refine AO (f:=16) rfl ?_);refine Ak (some 37) rfl rfl Tryz.func16 (by kernel_rfl) rfl #[.int .i64 1, .int .i64 0, .slice A1 l1.length c1] rfl xg ?_;(with_reducible refine (XV.calls kj4 1 0 _ _ l1 t467 t468 _ ?side1 ?side2 A20.out).mono ?_);(case side1=>repeat (first|exact (Kd.DW HR1.out HB.out)|(with_reducible refine Kd.CZ ?_ _)|(with_reducible refine Kd.Cb ?_ _)|(with_reducible refine Kd.Cs ?_)));(case side2=>exact HC1.out);rintro e w27 ⟨v469,rfl,ho0,hb⟩;refine ⟨_,rfl,?_⟩;replace HO_457000:=AA.mk (Kd.BX (xR HO_457000) hb);replace HO_462000:=AA.mk (Kd.BX (xR HO_462000) hb);have HO470:=AA.mk (Kd.Cm (Kd.QV ho0 (Kd.MZ (xR HO466))) (BF xb));replace HO466:=AA.mk (Kd.Ma (xR HO466) (Kd.D6 ho0) hb);replace BK456:=Bt BK456 hb;replace BK461:=Bt BK461 hb;replace HB:=AA.mk (AP xb hb);(try clear hb);(try clear ho0)))
     replace HO_457000:=AA.mk (Kd.Bl HO_457000.out);replace HO_462000:=AA.mk (Kd.Bl HO_462000.out);replace HO466:=AA.mk (Kd.Bl HO466.out);replace HO470:=AA.mk (Kd.Bl HO470.out);replace BK456:=AA.mk (CX BK456.out);replace BK461:=AA.mk (CX BK461.out);replace HB:=AA.mk (CK HB.out);refine Eg (n:=13) (S:=λw'=>w'.cell? ⟨gb456,0,none⟩=some (.slice Ao8 t452.length co8)/\w'.cell? ⟨gb461,0,none⟩=some (.slice Ao12 t457.length co12)) (ds:=[]) (bm 13 0) (by kernel_rfl) rfl rfl ⟨(AL BK456.out 0).trans rfl,(AL BK461.out 0).trans rfl⟩ (λhHeld=>?_);refine EH Yb.Tj Yb.QJ (λHT_ HW_=>?_);generalize w27.drew=w28 at HO_457000 HO_462000 HO466 HO470 BK456 BK461 HB hHeld⊢
     refine D8 (i:=0) (N:=some 40) (bm 13 1) rfl rfl (C9 HT_.out (by kernel_rfl)) (by decide) (λK hK=>?_);refine Dy Tryz.func10 (by kernel_rfl) rfl #[] (by rfl) rfl rfl xg ?_;with_reducible refine (Bi.calls kj4 true _ xl ⟨by first|rfl|assumption|exact hT_.out⟩ A21.out).mono ?_
     rintro e w29 ⟨rfl,hb⟩;refine ⟨_,rfl,?_⟩;replace HO_457000:=AA.mk (Kd.BX (xR HO_457000) hb);replace HO_462000:=AA.mk (Kd.BX (xR HO_462000) hb);replace HO466:=AA.mk (Kd.BX (xR HO466) hb);replace HO470:=AA.mk (Kd.BX (xR HO470) hb);replace BK456:=Bt BK456 hb;replace BK461:=Bt BK461 hb;replace HB:=AA.mk (AP xb hb);(try clear hb);refine hK.out _ _ xc (λhHeld=>?_);clear hK K;refine DK (some 40) rfl ?_;refine Ay (i:=1) (N:=some 41) (bm 13 3) rfl rfl (Ar HT_.out (by kernel_rfl)) (Or.inl ⟨by rfl,by intro w';go_simp;with_reducible rfl⟩) ?_;refine Ay (i:=7) (N:=some 47) (bm 13 131) rfl rfl (Ar HT_.out (by kernel_rfl)) (Or.inl ⟨by rfl,by intro w';go_simp;with_reducible rfl⟩) ?_;refine Ay (i:=8) (N:=some 48) (bm 13 387) rfl rfl (Ar HT_.out (by kernel_rfl)) (Or.inl ⟨by rfl,by intro w';go_simp;with_reducible rfl⟩) ?_;refine Cn (i:=2) (N:=some 42) (bm 13 391) rfl rfl (CJ HT_.out HW_.out (by kernel_rfl)) (Or.inl ⟨by rfl,by rintro w' ⟨s0,s1⟩;go_simp;with_reducible rfl⟩) hHeld ?_;refine Cn (i:=4) (N:=some 44) (bm 13 407) rfl rfl (CJ HT_.out HW_.out (by kernel_rfl)) (Or.inl ⟨by rfl,by rintro w' ⟨s0,s1⟩;go_simp;with_reducible rfl⟩) hHeld ?_;refine D8 (i:=3) (N:=some 43) (bm 13 415) rfl rfl (C9 HT_.out (by kernel_rfl)) (by decide) (λK hK=>?_);refine Dy Tryz.func11 (by kernel_rfl) rfl #[.agg #[.slice Ao8 t452.length co8]] (by rfl) rfl rfl xg ?_;with_reducible refine (BQ.calls kj4 _ _ t452 t472 _ ?side1 ?side2 xl A23.out).mono ?_
     (case side1=>repeat (first|exact (Kd.BH HO_457000.out).2.2|(with_reducible refine Kd.CZ ?_ _)|(with_reducible refine Kd.Cb ?_ _)|(with_reducible refine Kd.Cs ?_)))
     (case side2=>exact (Kd.BH HO_457000.out).2.1)
     rintro e w30 ⟨rfl,hb⟩;refine ⟨_,rfl,?_⟩;replace HO_457000:=AA.mk (Kd.BX (xR HO_457000) hb);replace HO_462000:=AA.mk (Kd.BX (xR HO_462000) hb);replace HO466:=AA.mk (Kd.BX (xR HO466) hb);replace HO470:=AA.mk (Kd.BX (xR HO470) hb);replace BK456:=Bt BK456 hb;replace BK461:=Bt BK461 hb;replace HB:=AA.mk (AP xb hb);(try clear hb);refine hK.out _ _ xc (λhHeld=>?_);clear hK K;refine DK (some 43) rfl ?_;refine D8 (i:=5) (N:=some 45) (bm 13 447) rfl rfl (C9 HT_.out (by kernel_rfl)) (by decide) (λK hK=>?_);refine Dy Tryz.func11 (by kernel_rfl) rfl #[.agg #[.slice Ao12 t457.length co12]] (by rfl) rfl rfl xg ?_;with_reducible refine (BQ.calls kj4 _ _ t457 t473 _ ?side1 ?side2 xl A24.out).mono ?_
     (case side1=>repeat (first|exact (Kd.BH HO_462000.out).2.2|(with_reducible refine Kd.CZ ?_ _)|(with_reducible refine Kd.Cb ?_ _)|(with_reducible refine Kd.Cs ?_)))
     (case side2=>exact (Kd.BH HO_462000.out).2.1)
     rintro e w31 ⟨rfl,hb⟩;refine ⟨_,rfl,?_⟩;replace HO_457000:=AA.mk (Kd.BX (xR HO_457000) hb);replace HO_462000:=AA.mk (Kd.BX (xR HO_462000) hb);replace HO466:=AA.mk (Kd.BX (xR HO466) hb);replace HO470:=AA.mk (Kd.BX (xR HO470) hb);replace BK456:=Bt BK456 hb;replace BK461:=Bt BK461 hb;replace HB:=AA.mk (AP xb hb);(try clear hb);obtain ⟨Ao32,co32,eo32⟩:=Kd.CE HO466.out;(first|subst eo32|(injection eo32 with f1_ f2_ f3_;have f4_:=f1_.symm;have f5_:=f3_.symm;clear f1_ f2_ f3_;subst f4_;subst f5_));obtain ⟨Ao33,co33,eo33⟩:=Kd.CE HO470.out;(first|subst eo33|(injection eo33 with f1_ f2_ f3_;have f4_:=f1_.symm;have f5_:=f3_.symm;clear f1_ f2_ f3_;subst f4_;subst f5_));refine hK.out _ _ xc (λhHeld=>?_);clear hK K;refine DK (some 45) rfl ?_;refine Ay (i:=6) (N:=some 46) (bm 13 511) rfl rfl (Ar HT_.out (by kernel_rfl)) (Or.inl ⟨by rfl,by intro w';go_simp;with_reducible rfl⟩) ?_;refine D8 (i:=9) (N:=some 49) (bm 13 1023) rfl rfl (C9 HT_.out (by kernel_rfl)) (by decide) (λK hK=>?_);refine Dy Tryz.func15 (by kernel_rfl) rfl #[.slice Ao32 t463.length co32, .slice Ao33 t467.length co33] (by rfl) rfl rfl xg ?_;with_reducible refine (Bf.calls kj4 _ _ t463 _ _ t467 t474 _ ?side1 ?side2 ?side3 ?side4 A25.out).mono ?_
     (case side1=>repeat (first|exact (Kd.BH HO466.out).2.2|(with_reducible refine Kd.CZ ?_ _)|(with_reducible refine Kd.Cb ?_ _)|(with_reducible refine Kd.Cs ?_)))
     (case side2=>exact (Kd.BH HO466.out).2.1)
     (case side3=>repeat (first|exact (Kd.BH HO470.out).2.2|(with_reducible refine Kd.CZ ?_ _)|(with_reducible refine Kd.Cb ?_ _)|(with_reducible refine Kd.Cs ?_)))
     (case side4=>exact (Kd.BH HO470.out).2.1)
     rintro e w' ⟨rfl,⟨nd,rfl⟩⟩;refine ⟨_,rfl,?_⟩;refine hK.out _ _ xc (λhHeld=>?_);clear hK K;refine DK (some 49) rfl ?_;refine Ay (i:=10) (N:=some 50) (bm 13 2047) rfl rfl (Ar HT_.out (by kernel_rfl)) (Or.inl ⟨by rfl,by intro w';go_simp;with_reducible rfl⟩) ?_;refine Ay (i:=11) (N:=some 51) (bm 13 4095) rfl rfl (Ar HT_.out (by kernel_rfl)) (Or.inl ⟨by rfl,by intro w';go_simp;with_reducible rfl⟩) ?_;refine Ay (i:=12) (N:=some 4) (bm 13 8191) rfl rfl (Ar HT_.out (by kernel_rfl)) (Or.inl ⟨by rfl,by intro w';go_simp;with_reducible rfl⟩) ?_;refine Fe (FD HT_.out (by kernel_rfl)) ?_;try go_wp2
     go_ret;exact ⟨xe,xb⟩
    ·replace c22:=Bool.eq_false_iff.mpr c22;subst c22;have H1:(some false)=some r:=by rw [if_neg (show ¬(false=true) by decide)] at H;exact H
     clear H;have H:=H1;clear H1;obtain rfl:=Option.some.inj H;exact absurd hT_.out (by decide)
def Yb.Pure:Prop:=∀ (l0:List (CU)) (l1:List (CU)),(∀ x∈l0,x.f0.size<=9223372036854775807/\x.f1.size<=9223372036854775807/\x.f2.size<=9223372036854775807/\x.f3.size<=9223372036854775807/\(Lit.int .i64 x.f4).wf=true/\(Lit.int .i64 x.f5).wf=true/\(Lit.int .i64 x.f6).wf=true/\(Lit.int .i64 x.f10).wf=true)->(∀ x∈l1,x.f0.size<=9223372036854775807/\x.f1.size<=9223372036854775807/\x.f2.size<=9223372036854775807/\x.f3.size<=9223372036854775807/\(Lit.int .i64 x.f4).wf=true/\(Lit.int .i64 x.f5).wf=true/\(Lit.int .i64 x.f6).wf=true/\(Lit.int .i64 x.f10).wf=true)->∃ k,Yb.f k l0 l1=some true
theorem Yb.walk (P:Yb.Pure) (A0:Option Addr) (c0:Nat) (l0:List (CU)) (A1:Option Addr) (c1:Nat) (l1:List (CU)) (w:World) (hr0:Kd.C Fu w A0 l0.length l0) (hc0:l0.length<=c0) (hw0:∀ x∈l0,x.f0.size<=9223372036854775807/\x.f1.size<=9223372036854775807/\x.f2.size<=9223372036854775807/\x.f3.size<=9223372036854775807/\(Lit.int .i64 x.f4).wf=true/\(Lit.int .i64 x.f5).wf=true/\(Lit.int .i64 x.f6).wf=true/\(Lit.int .i64 x.f10).wf=true) (hr1:Kd.C Fu w A1 l1.length l1) (hc1:l1.length<=c1) (hw1:∀ x∈l1,x.f0.size<=9223372036854775807/\x.f1.size<=9223372036854775807/\x.f2.size<=9223372036854775807/\x.f3.size<=9223372036854775807/\(Lit.int .i64 x.f4).wf=true/\(Lit.int .i64 x.f5).wf=true/\(Lit.int .i64 x.f6).wf=true/\(Lit.int .i64 x.f10).wf=true) (hG:AA (Ck w)):
 Calls Tryz.prog 8 #[.slice A0 l0.length c0, .slice A1 l1.length c1] w λe w'=>e= .returned (.bool true)/\Below w.heap.size w w':=by
 obtain ⟨k,h⟩:=P l0 l1 hw0 hw1;refine (Yb.calls k _ _ l0 _ _ l1 true w hr0 hc0 hr1 hc1 hG ⟨rfl⟩ h).mono ?_;rintro e w' ⟨rfl,hd⟩;exact ⟨rfl,hd⟩
end Go.Proofs.YtikggnalmidlhaaGreatDoor.Print
end
section
namespace Go.Proofs.YtikggnalmidlhaaGreatDoor.Print
open RowKit AR Aa Ad
attribute [local go_sem] BM BN Bo Bp BC BD BO BP
set_option linter.unusedVariables false
set_option linter.unusedSimpArgs false
def XW.f (k:Nat) (l0:List (CU)) (a1:Int):Option (Bool):=(Cu.f k l0).bind λbt475=>(if bt475.2=true then ((BQ.f k bt475.1).bind λt481=>((CV.f k t481 a1).bind λbt482=>((XV.f k 1 a1 l0).bind λbt486=>((Bi.f k).bind λt490=>(if t490=true then (if ((bt482.2==0)==bt486.2)=true then ((Bf.f k bt482.1 bt486.1).bind λt491=>(some t491)) else (some false)) else (some false)))))) else ((Bi.f k).bind λt480=>(some t480)))
set_option maxHeartbeats 8000000 in
set_option maxRecDepth 100000 in
theorem XW.calls (k:Nat) (A0:Option Addr) (c0:Nat) (l0:List (CU)) (a1:Int) (r:Bool) (w:World) (hr0:Kd.C Fu w A0 l0.length l0) (hc0:l0.length<=c0) (hG:AA (Ck w)) (hT_:AA (r=true)) (h:XW.f k l0 a1=some r):
 Calls Tryz.prog 5 #[.slice A0 l0.length c0, .int .i64 a1] w λe w'=>e= .returned (.bool r)/\Below w.heap.size w w':=by
 have hu29:=Tryz.underlying29;have HR0:=AA.mk hr0;have HC0:=AA.mk hc0;clear hr0 hc0;have HB:=AA.mk (Below.refl w.heap.size w);have H:((Cu.f k l0).bind λbt475=>(if bt475.2=true then ((BQ.f k bt475.1).bind λt481=>((CV.f k t481 a1).bind λbt482=>((XV.f k 1 a1 l0).bind λbt486=>((Bi.f k).bind λt490=>(if t490=true then (if ((bt482.2==0)==bt486.2)=true then ((Bf.f k bt482.1 bt486.1).bind λt491=>(some t491)) else (some false)) else (some false)))))) else ((Bi.f k).bind λt480=>(some t480))))=some r:=h;clear h;replace H:=Option.bind_eq_some_iff.mp H;obtain ⟨⟨t475,t478⟩,A30,H⟩:=H;try dsimp only at H
 have A3:=AA.mk A30;clear A30;by_cases c4:t478=true
 ·subst c4;rw [if_pos rfl] at H;replace H:=Option.bind_eq_some_iff.mp H;obtain ⟨t481,A50,H⟩:=H;try dsimp only at H
  have A5:=AA.mk A50;clear A50;replace H:=Option.bind_eq_some_iff.mp H;obtain ⟨⟨t482,t483⟩,A60,H⟩:=H;try dsimp only at H
  have A6:=AA.mk A60;clear A60;replace H:=Option.bind_eq_some_iff.mp H;obtain ⟨⟨t486,t487⟩,A70,H⟩:=H;try dsimp only at H
  have A7:=AA.mk A70;clear A70;replace H:=Option.bind_eq_some_iff.mp H;obtain ⟨t490,A80,H⟩:=H;try dsimp only at H
  have A8:=AA.mk A80;clear A80;by_cases c9:t490=true
  ·subst c9;rw [if_pos rfl] at H;by_cases c10:((t483==0)==t487)=true
   ·rw [if_pos c10] at H;have c10b0:((t483==0)==t487)=true:=c10;(try (have c10b1:decide ((t483==0)=t487)=true:=by simpa using c10));(try (have c10b2:((t483==0)==t487)=true:=by simpa using c10));clear c10;replace H:=Option.bind_eq_some_iff.mp H;obtain ⟨t491,A110,H⟩:=H;replace H:(some t491)=some r:=H;have A11:=AA.mk A110;clear A110;obtain rfl:=Option.some.inj H;go_enter Tryz.func5,Tryz.ntmps5;go_wp2_with (first|((with_reducible refine AO (f:=9) rfl ?_);refine Ak (some 13) rfl rfl Tryz.func9 (by kernel_rfl) rfl #[.slice A0 l0.length c0] rfl xg ?_;(with_reducible refine (Cu.calls k _ _ l0 t475 true _ ?side1 ?side2 xl A3.out).mono ?_);(case side1=>repeat (first|exact HR0.out|(with_reducible refine Kd.CZ ?_ _)|(with_reducible refine Kd.Cb ?_ _)|(with_reducible refine Kd.Cs ?_)));(case side2=>exact HC0.out);rintro e w12 ⟨v476,rfl,ho0,hb⟩;refine ⟨_,rfl,?_⟩;have HO477:=AA.mk (Kd.Cm ho0 (BF xb));replace HB:=AA.mk (AP xb hb);(try clear hb);(try clear ho0))|(refine Dk (N:=5) (cs:=#[.slice none 0 0]) (t:=29) (λgb479 hg w13 hbox hb=>?_);replace HO477:=AA.mk (Kd.BX (xR HO477) hb);have BK479:=AA.mk (hbox);have GW479:AA (w.heap.size<=gb479):=Dp hg xb;have GE479:AA (w.heap.size<=gb479):=Dp hg xb;replace HB:=AA.mk (AP xb hb);clear hb hbox hg;obtain ⟨Ao14,co14,eo14⟩:=Kd.CE HO477.out;subst eo14;have hcz15_0:w13.cell? ⟨gb479,0,none⟩=some (.slice none 0 0):=(AL BK479.out 0).trans rfl;have hfz15_0:=AX BK479.out 0)|((with_reducible refine AO (f:=11) rfl ?_);refine Ak (some 21) rfl rfl Tryz.func11 (by kernel_rfl) rfl #[.agg #[.slice Ao14 t475.length co14]] rfl xg ?_;(with_reducible refine (BQ.calls k _ _ t475 t481 _ ?side1 ?side2 xl A5.out).mono ?_);(case side1=>refine (Kd.BH (e:=98) (base:=w.heap.size) (ok:=λk_=>True) (n:=t475.length) (c:=co14) ?_).2.2;exact (by (with_reducible repeat (first|apply Kd.Bd|apply Kd.Be|apply Kd.Bl));exact (Kd.CQ (Kd.CY (p:=⟨gb479,0,none⟩) (Kd.CS HO477.out BK479.out (by decide)) (λ_ hk=>hk.2) (.slice Ao14 t475.length co14)) (λ_ h_=>h_.1))));(case side2=>exact (Kd.BH HO477.out).2.1);rintro e w16 ⟨rfl,hb⟩;refine ⟨_,rfl,?_⟩;replace HO477:=AA.mk (Kd.BX (by (with_reducible repeat (first|apply Kd.Bd|apply Kd.Be|apply Kd.Bl));exact (Kd.CQ (Kd.CY (p:=⟨gb479,0,none⟩) (Kd.CS HO477.out BK479.out (by decide)) (λ_ hk=>hk.2) (.slice Ao14 t475.length co14)) (λ_ h_=>h_.1))) hb);replace BK479:=AA.mk (DV (g:=gb479) (o:= .cells #[.slice Ao14 t475.length co14] 29 (0,0)) xk hb);replace HB:=AA.mk (AP xb hb);(try clear hb))|((with_reducible refine AO (f:=13) rfl ?_);refine Ak (some 23) rfl rfl Tryz.func13 (by kernel_rfl) rfl #[.string t481, .int .i64 a1] rfl xg ?_;(with_reducible refine (CV.calls k t481 a1 t482 t483 _ xl A6.out).mono ?_);rintro e w17 ⟨v484,rfl,ho0,hb⟩;refine ⟨_,rfl,?_⟩;replace HO477:=AA.mk (Kd.BX (xR HO477) hb);have HO485:=AA.mk (Kd.Cm ho0 (BF xb));replace BK479:=Bt BK479 hb;replace HB:=AA.mk (AP xb hb);(try clear hb);(try clear ho0))|((with_reducible refine AO (f:=16) rfl ?_);refine Ak (some 29) rfl rfl Tryz.func16 (by kernel_rfl) rfl #[.int .i64 1, .int .i64 a1, .slice A0 l0.length c0] rfl xg ?_;(with_reducible refine (XV.calls k 1 a1 _ _ l0 t486 t487 _ ?side1 ?side2 A7.out).mono ?_);(case side1=>repeat (first|exact (Kd.DW HR0.out HB.out)|(with_reducible refine Kd.CZ ?_ _)|(with_reducible refine Kd.Cb ?_ _)|(with_reducible refine Kd.Cs ?_)));(case side2=>exact HC0.out);rintro e w18 ⟨v488,rfl,ho0,hb⟩;refine ⟨_,rfl,?_⟩;replace HO477:=AA.mk (Kd.BX (xR HO477) hb);have HO489:=AA.mk (Kd.Cm (Kd.QV ho0 (Kd.MZ (xR HO485))) (BF xb));replace HO485:=AA.mk (Kd.Ma (xR HO485) (Kd.D6 ho0) hb);replace BK479:=Bt BK479 hb;replace HB:=AA.mk (AP xb hb);(try clear hb);(try clear ho0))|((with_reducible refine AO (f:=10) rfl ?_);refine Ak (some 32) rfl rfl Tryz.func10 (by kernel_rfl) rfl #[] rfl xg ?_;(with_reducible refine (Bi.calls k true _ xl ⟨by first|rfl|assumption|exact hT_.out⟩ A8.out).mono ?_);rintro e w19 ⟨rfl,hb⟩;refine ⟨_,rfl,?_⟩;replace HO477:=AA.mk (Kd.BX (xR HO477) hb);replace HO485:=AA.mk (Kd.BX (xR HO485) hb);replace HO489:=AA.mk (Kd.BX (xR HO489) hb);replace BK479:=Bt BK479 hb;replace HB:=AA.mk (AP xb hb);(try clear hb);obtain ⟨Ao20,co20,eo20⟩:=Kd.CE HO485.out;subst eo20;obtain ⟨Ao21,co21,eo21⟩:=Kd.CE HO489.out;subst eo21)|(go_at_call 15;(with_reducible refine (Bf.calls k _ _ t482 _ _ t486 t491 _ ?side1 ?side2 ?side3 ?side4 A11.out).mono ?_);(case side1=>repeat (first|exact (Kd.BH HO485.out).2.2|(with_reducible refine Kd.CZ ?_ _)|(with_reducible refine Kd.Cb ?_ _)|(with_reducible refine Kd.Cs ?_)));(case side2=>exact (Kd.BH HO485.out).2.1);(case side3=>repeat (first|exact (Kd.BH HO489.out).2.2|(with_reducible refine Kd.CZ ?_ _)|(with_reducible refine Kd.Cb ?_ _)|(with_reducible refine Kd.Cs ?_)));(case side4=>exact (Kd.BH HO489.out).2.1);rintro e w' ⟨rfl,⟨nd,rfl⟩⟩));go_ret;exact ⟨xe,xb⟩
   ·rw [if_neg c10] at H;have c10b0:((t483==0)==t487)=false:=by simpa using c10
    (try (have c10b1:decide ((t483==0)=t487)=false:=by simpa using c10));(try (have c10b2:((t483==0)==t487)=false:=by simpa using c10));(try (have c10b3:¬((t483==0)=t487):=by simpa using c10));clear c10;obtain rfl:=Option.some.inj H;exact absurd hT_.out (by decide)
  ·replace c9:=Bool.eq_false_iff.mpr c9;subst c9;have H1:(some false)=some r:=by rw [if_neg (show ¬(false=true) by decide)] at H;exact H
   clear H;have H:=H1;clear H1;obtain rfl:=Option.some.inj H;exact absurd hT_.out (by decide)
 ·replace c4:=Bool.eq_false_iff.mpr c4;subst c4;have H1:((Bi.f k).bind λt480=>(some t480))=some r:=by rw [if_neg (show ¬(false=true) by decide)] at H;exact H
  clear H;have H:=H1;clear H1;replace H:=Option.bind_eq_some_iff.mp H;obtain ⟨t480,A220,H⟩:=H;replace H:(some t480)=some r:=H;have A22:=AA.mk A220;clear A220;obtain rfl:=Option.some.inj H;go_enter Tryz.func5,Tryz.ntmps5;go_wp2_with (first|((with_reducible refine AO (f:=9) rfl ?_);refine Ak (some 13) rfl rfl Tryz.func9 (by kernel_rfl) rfl #[.slice A0 l0.length c0] rfl xg ?_;(with_reducible refine (Cu.calls k _ _ l0 t475 false _ ?side1 ?side2 xl A3.out).mono ?_);(case side1=>repeat (first|exact HR0.out|(with_reducible refine Kd.CZ ?_ _)|(with_reducible refine Kd.Cb ?_ _)|(with_reducible refine Kd.Cs ?_)));(case side2=>exact HC0.out);rintro e w23 ⟨v476,rfl,ho0,hb⟩;refine ⟨_,rfl,?_⟩;have HO477:=AA.mk (Kd.Cm ho0 (BF xb));replace HB:=AA.mk (AP xb hb);(try clear hb);(try clear ho0))|(refine Dk (N:=5) (cs:=#[.slice none 0 0]) (t:=29) (λgb479 hg w24 hbox hb=>?_);replace HO477:=AA.mk (Kd.BX (xR HO477) hb);have BK479:=AA.mk (hbox);have GW479:AA (w.heap.size<=gb479):=Dp hg xb;have GE479:AA (w.heap.size<=gb479):=Dp hg xb;replace HB:=AA.mk (AP xb hb);clear hb hbox hg;obtain ⟨Ao25,co25,eo25⟩:=Kd.CE HO477.out;subst eo25;have hcz26_0:w24.cell? ⟨gb479,0,none⟩=some (.slice none 0 0):=(AL BK479.out 0).trans rfl;have hfz26_0:=AX BK479.out 0)|((with_reducible refine AO (f:=10) rfl ?_);refine Ak (some 18) rfl rfl Tryz.func10 (by kernel_rfl) rfl #[] rfl xg ?_;(with_reducible refine (Bi.calls k t480 _ xl ⟨by first|rfl|assumption|exact hT_.out⟩ A22.out).mono ?_);rintro e w27 ⟨rfl,hb⟩;refine ⟨_,rfl,?_⟩;replace HO477:=AA.mk (Kd.BX (by (with_reducible repeat (first|apply Kd.Bd|apply Kd.Be|apply Kd.Bl));exact (Kd.CQ (Kd.CY (p:=⟨gb479,0,none⟩) (Kd.CS HO477.out BK479.out (by decide)) (λ_ hk=>hk.2) (.slice Ao25 t475.length co25)) (λ_ h_=>h_.1))) hb);replace BK479:=AA.mk (DV (g:=gb479) (o:= .cells #[.slice Ao25 t475.length co25] 29 (0,0)) xk hb);replace HB:=AA.mk (AP xb hb);(try clear hb)));go_ret;exact ⟨xe,xb⟩
def XW.Pure:Prop:=∀ (l0:List (CU)) (a1:Int),(∀ x∈l0,x.f0.size<=9223372036854775807/\x.f1.size<=9223372036854775807/\x.f2.size<=9223372036854775807/\x.f3.size<=9223372036854775807/\(Lit.int .i64 x.f4).wf=true/\(Lit.int .i64 x.f5).wf=true/\(Lit.int .i64 x.f6).wf=true/\(Lit.int .i64 x.f10).wf=true)->(Lit.int .i64 a1).wf=true->∃ k,XW.f k l0 a1=some true
theorem XW.walk (P:XW.Pure) (A0:Option Addr) (c0:Nat) (l0:List (CU)) (a1:Int) (w:World) (hr0:Kd.C Fu w A0 l0.length l0) (hc0:l0.length<=c0) (hw0:∀ x∈l0,x.f0.size<=9223372036854775807/\x.f1.size<=9223372036854775807/\x.f2.size<=9223372036854775807/\x.f3.size<=9223372036854775807/\(Lit.int .i64 x.f4).wf=true/\(Lit.int .i64 x.f5).wf=true/\(Lit.int .i64 x.f6).wf=true/\(Lit.int .i64 x.f10).wf=true) (w1:(Lit.int .i64 a1).wf=true) (hG:AA (Ck w)):
 Calls Tryz.prog 5 #[.slice A0 l0.length c0, .int .i64 a1] w λe w'=>e= .returned (.bool true)/\Below w.heap.size w w':=by
 obtain ⟨k,h⟩:=P l0 a1 hw0 w1;refine (XW.calls k _ _ l0 a1 true w hr0 hc0 hG ⟨rfl⟩ h).mono ?_;rintro e w' ⟨rfl,hd⟩;exact ⟨rfl,hd⟩
end Go.Proofs.YtikggnalmidlhaaGreatDoor.Print
end
