/- Lines that are notes, and bytes 13 ahead of the ends of lines, change nothing of what is read. -/
import Derived.Test.YtikggnalmidlhaaGreatDoorM33
import Derived.Test.YtikggnalmidlhaaGreatDoorYnetsD
namespace Go.Proofs.YtikggnalmidlhaaGreatDoor.Y
set_option linter.unusedVariables false
set_option linter.unusedSimpArgs false
open RowKit Print AR Aa Ad
theorem WX (now:Int):∀ l:List ByteArray,(Vq now l).1.length<=l.length
 |[]=>Nat.le_refl _
 |s::l=>by
  unfold Vq;split
  ·have:=WX now l;rw [List.length_cons,List.length_cons];omega
  ·exact Nat.zero_le _
theorem WU (now:Int) (l:List ByteArray):(Vu now l).1.length<=l.length:=by
 unfold Vu;split
 ·exact Nat.zero_le _
 ·cases l with
  |nil=>exact Nat.zero_le _
  |cons h l=>
   rw [show WW now (h::l)=if h=G7 then WE (Vq now (EE l)) else ([],190) from rfl];split
   ·unfold WE;have h1:=WX now (EE l);have h2:=O3 l;rw [List.length_cons];show (if (Vq now (EE l)).2=0 then (Vq now (EE l)).1 else []).length<=_;split
    ·omega
    ·exact Nat.zero_le _
   ·exact Nat.zero_le _
theorem XH (s:ByteArray) (now:Int):(V7 s now).1.length<=s.size:=Nat.le_trans (WU now _) (V4 s)
theorem YK {s t:ByteArray} {now:Int} (h:V7 s now=V7 t now) (hs:(V7 s now).1.length<=10000) (es:Ev (λk=>CV.f k s now) (V7 s now)) (et:Ev (λk=>CV.f k t now) (V7 t now)):
 Ev (λk=>(CV.f k s now).bind λa=>(CV.f k t now).bind λb=>(Bi.f k).bind λc=>if c=true then (Bf.f k a.1 b.1).bind λd=>if d=true then some (a.2==b.2) else some false else some false) true:=by
 rw [<-h] at et;refine BL es (BL et (BL J4 (AU rfl (BL (Qn _ _ hs) ?_))));rw [Kw];exact AU rfl (BG (Am _) (beq_self_eq_true _))
def YH (note:ByteArray):ByteArray:=⟨#[35]⟩++note
def YG (note:ByteArray) (l:List ByteArray):List ByteArray:=l.flatMap λx=>[x,⟨#[]⟩,YH note]
theorem YI:GU ⟨#[]⟩=true:=by decide+kernel
theorem YO {note:ByteArray} (h:TT (YH note) Fb=false):GU (YH note)=true:=by
 have hb:bytesOf (YH note)=35::bytesOf note:=by unfold YH;rw [Dw];rfl
 have hp:0<(YH note).size:=by rw [<-bytesOf_length,hb];simp
 have g:((YH note).toList==([]:List UInt8))=false:=by
  refine beq_eq_false_iff_ne.2 λe=>?_
  rw [FX, <-toList_data,e] at hb;cases hb
 have hb0:bt (YH note) (0:Nat)=35:=X7 (l:=bytesOf note) (by rw [List.drop_zero];exact hb);rw [NF hp g ((XE hp).symm.trans hb0),h];rfl
theorem YJ {note:ByteArray} (h:GU (YH note)=true):∀ l:List ByteArray,EE (YG note l)=EE l
 |[]=>rfl
 |x::l=>by
  have e:YG note (x::l)=x::⟨#[]⟩::YH note::YG note l:=rfl;have ih:=YJ h l;rw [e];by_cases hx:GU x=true
  ·rw [WS hx,WS YI,WS h,WS hx,ih]
  ·have hx:=Bool.eq_false_iff.2 hx;rw [WT hx,WS YI,WS h,WT hx,ih]
theorem YN {note:ByteArray} (h:GU (YH note)=true) (now:Int) (l:List ByteArray):Vu now (YG note l)=Vu now l:=by
 unfold Vu;split
 ·rfl
 ·cases l with
  |nil=>rfl
  |cons x l=>
   show (if x=G7 then WE (Vq now (EE (⟨#[]⟩::YH note::YG note l))) else ([],190))=if x=G7 then WE (Vq now (EE l)) else ([],190)
   rw [WS YI,WS h,YJ h]
theorem YL (note:ByteArray) (l:List ByteArray):(YG note l).length=3*l.length:=by
 unfold YG;rw [List.length_flatMap];induction l with
 |nil=>rfl
 |cons x l ih=>simp only [List.map_cons,List.sum_cons,List.length_cons,List.length_nil] at ih⊢;omega
theorem YQ {note:ByteArray} {l:List ByteArray} {x:ByteArray} (h:x∈YG note l):x∈l\/x=⟨#[]⟩\/x=YH note:=by
 obtain ⟨y,hy,hx⟩:=List.mem_flatMap.1 h;simp only [List.mem_cons,List.not_mem_nil,or_false] at hx;rcases hx with rfl|rfl|rfl
 ·exact .inl hy
 ·exact .inr (.inl rfl)
 ·exact .inr (.inr rfl)
theorem YS {s note:ByteArray} {now:Int} (hs:s.size<=1000) (hn:note.size<=100) (hh:GU (YH note)=true):∀ d j,j+d=(Vi s).length->
 Ev (λk=>Yg.l0 k s note now (YG note ((Vi s).take j)) (Vi s) ((Vi s).length:Int) (j:Int)) true:=by
 have hlen:=V4 s;intro d;induction d with
 |zero=>
  intro j hj;apply BB;unfold Yg.l0;rw [List.take_of_length_le (by omega)];have h35:(⟨#[35]⟩:ByteArray).size=1:=rfl;have hsz:∀ x∈YG note (Vi s),x.size<=2000:=by
   intro x hx;rcases YQ hx with h|rfl|rfl
   ·have:=(WO h).1;omega
   ·decide
   ·unfold YH;rw [ByteArray.size_append];omega
  have hwl:=YL note (Vi s);refine Ah (by omega) (BL (YP (by omega) hsz) ?_);by_cases hb:(YG note (Vi s)).any (λx=>KU (bytesOf x))=true
  ·rw [if_pos hb];exact Ah (by decide) (BL J4 (Am _))
  ·rw [if_neg hb];have hbf:=List.any_eq_false.1 (Bool.eq_false_iff.2 hb);have hlt:Vi (UQ (YG note (Vi s)))=YG note (Vi s):=Xn λx hx=>by simpa using hbf x hx
   have hts:=Xf (YG note (Vi s)) ⟨#[]⟩ hsz;have h0:(⟨#[]⟩:ByteArray).size=0:=rfl;rw [h0] at hts;refine AU rfl (YK ?_ (by have:=XH s now;omega) (XC (by omega) λx hx=>by have:=(WO hx).1;omega) (XC (Nat.le_trans hts (by omega)) λx hx=>by rw [hlt] at hx;have:=hsz x hx;omega));unfold V7;rw [hlt,YN hh]
 |succ d ih=>
  intro j hj;have hlt:j<(Vi s).length:=by omega
  have hrd:Cf ByteArray.empty (Vi s) (j:Int)=(Vi s)[j]:=Gx (List.drop_eq_getElem_cons hlt);have hw:wrap64 ((j:Int)+1)=((j+1:Nat):Int):=by rw [KD (by omega) (by omega)];omega
  have hwl:=YL note ((Vi s).take j);rw [List.length_take] at hwl;apply BB;unfold Yg.l0;rw [hrd,hw];refine AU (by omega) (AU (by omega) (AU (by omega) (AU (by omega) (BL (Am _) (AU (by simp only [List.length_cons,List.length_nil];omega) ?_)))));have e:YG note ((Vi s).take j)++[(Vi s)[j],(⟨#[]⟩:ByteArray),(⟨#[35]⟩:ByteArray)++note]=YG note ((Vi s).take (j+1)):=by
   rw [List.take_add_one,List.getElem?_eq_getElem hlt];unfold YG;rw [List.flatMap_append];rfl
  rw [e];exact ih (j+1) (by omega)
theorem YM {s note:ByteArray} {now:Int} {b:Bool} (h:b=false->s.size<=1000/\note.size<=100):Ev (λk=>Yg.j0 k s note now b) true:=by
 apply BB;unfold Yg.j0;cases b with
 |true=>exact AU rfl (BL J4 (Am _))
 |false=>
  obtain ⟨hs,hn⟩:=h rfl;refine Ah (by decide) (AU (by omega) ?_);rw [Wm];refine BL (Am _) ?_;by_cases hh:TT ((⟨#[35]⟩:ByteArray)++note) (⟨#[35,72,116,116,112,79,110,108,121,95]⟩:ByteArray)=true
  ·exact AU hh (BL J4 (Am _))
  ·refine Ah hh (BL (WJ (by omega)) ?_);exact YS hs hn (YO (Bool.eq_false_iff.2 hh)) (Vi s).length 0 (by omega)
def YV (u:ByteArray) (l:List ByteArray):ByteArray:=l.foldl (λu x=>u++(x++⟨#[13,10]⟩)) u
theorem YZ (u:ByteArray) (l:List ByteArray) (x:ByteArray):YV u (l++[x])=YV u l++(x++⟨#[13,10]⟩):=by
 unfold YV;rw [List.foldl_append];rfl
theorem YX:∀ (l:List ByteArray) (u:ByteArray),bytesOf (YV u l)=bytesOf u++(l.map λx=>bytesOf x++[13]).flatMap λx=>x++[10]
 |[],u=>by simp [YV]
 |x::l,u=>by
  show bytesOf (YV (u++(x++⟨#[13,10]⟩)) l)=_;rw [YX l,Dw,Dw,show bytesOf (⟨#[13,10]⟩:ByteArray)=[13,10] from rfl];simp
theorem YW:∀ (l:List ByteArray) (u:ByteArray),(∀ x∈l,x.size<=2000)->(YV u l).size<=u.size+2002*l.length
 |[],u,_=>by simp [YV]
 |x::l,u,h=>by
  have h1:=YW l (u++(x++⟨#[13,10]⟩)) λy hy=>h y (.tail _ hy)
  have h2:=h x (.head _);have h3:(⟨#[13,10]⟩:ByteArray).size=2:=rfl;show (YV (u++(x++⟨#[13,10]⟩)) l).size<=_;rw [List.length_cons];simp only [ByteArray.size_append,h3] at h1;omega
theorem YY {l:List ByteArray} (h:∀ x∈l,∀ c∈bytesOf x,c≠10):Vi (YV ⟨#[]⟩ l)=l:=by
 apply KS;rw [WI,YX,show bytesOf (⟨#[]⟩:ByteArray)=[] from rfl,List.nil_append,Xg,List.map_map]
 ·refine List.map_congr_left λx _=>?_
  show TQ (bytesOf x++[13])=bytesOf x;unfold TQ;rw [List.getLast?_concat,if_pos rfl,List.dropLast_concat]
 ·intro y hy c hc;obtain ⟨x,hx,rfl⟩:=List.mem_map.1 hy;rcases List.mem_append.1 hc with e|e
  ·exact h x hx c e
  ·rw [List.mem_singleton.1 e];decide
theorem Ya {s:ByteArray} {now:Int} {t:ByteArray} {b:Bool} (hs:s.size<=1000) (hb:b=true->Ev (λk=>CV.f k t now) (V7 t now)/\t.size<=2100000/\Vi t=Vi s):∀ d j,j+d=(Vi s).length->
 Ev (λk=>YU.l0 k now t b (YV ⟨#[]⟩ ((Vi s).take j)) (Vi s) ((Vi s).length:Int) (j:Int)) true:=by
 have hlen:=V4 s;have hsz:∀ x∈Vi s,x.size<=2000:=λx hx=>by have:=(WO hx).1;omega
 have h0:(⟨#[]⟩:ByteArray).size=0:=rfl;intro d;induction d with
 |zero=>
  intro j hj;apply BB;unfold YU.l0;rw [List.take_of_length_le (by omega)];refine Ah (by omega) ?_;by_cases hbt:b=true
  ·obtain ⟨et,hts,hl⟩:=hb hbt;have hlu:Vi (YV ⟨#[]⟩ (Vi s))=Vi s:=YY λx hx=>(WO hx).2
   have hus:=YW (Vi s) ⟨#[]⟩ hsz;rw [h0] at hus;refine AU hbt (YK ?_ ?_ et (XC (Nat.le_trans hus (by omega)) λx hx=>by rw [hlu] at hx;have:=hsz x hx;omega))
   ·unfold V7;rw [hlu,hl]
   ·have:=WU now (Vi t);unfold V7;rw [hl] at this⊢
    omega
  ·exact Ah hbt (BL J4 (Am _))
 |succ d ih=>
  intro j hj;have hlt:j<(Vi s).length:=by omega
  have hrd:Cf ByteArray.empty (Vi s) (j:Int)=(Vi s)[j]:=Gx (List.drop_eq_getElem_cons hlt);have hw:wrap64 ((j:Int)+1)=((j+1:Nat):Int):=by rw [KD (by omega) (by omega)];omega
  have hx:=hsz _ (List.getElem_mem hlt);have hus:=YW ((Vi s).take j) ⟨#[]⟩ λx hx=>hsz x (List.mem_of_mem_take hx)
  rw [List.length_take,h0] at hus;have hu2:(YV ⟨#[]⟩ ((Vi s).take j)).size<=3000000:=Nat.le_trans hus (by omega);have h2:(⟨#[13,10]⟩:ByteArray).size=2:=rfl;apply BB;unfold YU.l0;rw [hrd,hw];refine AU (by omega) (AU (by omega) (AU (by omega) (AU (by omega) (AU (by rw [ByteArray.size_append,h2];omega) ?_))));have e:YV ⟨#[]⟩ ((Vi s).take j)++((Vi s)[j]++⟨#[13,10]⟩)=YV ⟨#[]⟩ ((Vi s).take (j+1)):=by
   rw [List.take_add_one,List.getElem?_eq_getElem hlt];exact (YZ _ _ _).symm
  rw [e];exact ih (j+1) (by omega)
end Go.Proofs.YtikggnalmidlhaaGreatDoor.Y
