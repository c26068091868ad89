/- JarThree: what its walk wants of the plain side, and the walk. -/
import Derived.Test.YtohjohhcjcljoaaGreatDoorGthree
namespace Go.Proofs.YtohjohhcjcljoaaGreatDoor.Print
open RowKit Ak BR BS Range Shelf
set_option linter.unusedVariables false
set_option linter.unusedSimpArgs false
attribute [local go_sem] Oper.semAt_some
def Wq (k:Nat) (x y:List OW) (want:List Um) (e f g h:Int):Prop:=∃ many,Bj.f k want=some many/\
 (many=true->(e=152\/g=152)/\(f=152\/h=152))/\
 (many=false->e=0/\f=0/\g=0/\h=0/\∃ lst,Bb.f x=some lst/\Ab.f k lst want=some true/\ES.f k x y=some true)
def Wl (k:Nat) (l m n:List Um):Prop:=∃ a b c ab bc x y j want ea eb ec e f g h,
 DY.f k l=some (a,ea)/\DY.f k m=some (b,eb)/\DY.f k n=some (c,ec)/\Dy.f k a b=some (ab,e)/\Dy.f k b c=some (bc,f)/\Dy.f k ab c=some (x,g)/\Dy.f k a bc=some (y,h)/\
 BO.f k l m=some j/\BO.f k j n=some want/\Wq k x y want e f g h
def Wi (k:Nat) (l m n:List Um):Prop:=∃ b0,Al.f k l=some b0/\(b0=true->∃ b1,Al.f k m=some b1/\(b1=true->∃ b2,Al.f k n=some b2/\(b2=true->
 ∃ b3,BJ.f k l=some b3/\(b3=true->∃ b4,BJ.f k m=some b4/\(b4=true->∃ b5,BJ.f k n=some b5/\(b5=true->Wl k l m n))))))
set_option maxHeartbeats 4000000 in
set_option maxRecDepth 100000 in
theorem Wm {k:Nat} {A0 A1 A2:Option Addr} {c0 c1 c2:Nat} {l0 l1 l2:List Um} {w:World} (H:AA (Wi k l0 l1 l2)) (S:AA (St w w [] [(A0,l0.length,c0,l0),(A1,l1.length,c1,l1),(A2,l2.length,c2,l2)])):
 Calls Tryz.prog 7 #[.slice A0 l0.length c0, .slice A1 l1.length c1, .slice A2 l2.length c2] w λe w'=>e= .returned (.bool true)/\Below w.heap.size w w':=by
 have huJ:=Tryz.underlying31;have huH:=Tryz.underlying29;have huT:=Tryz.underlying27;replace H:=H.out;go_enter Tryz.func7,Tryz.ntmps7;obtain ⟨b0,F0,H⟩:=H;replace F0:=AA.mk F0;cases b0;case false=>
  clear H;go_wp2_with (first|(go_at_call 10;refine (WZ).mono ?_;rintro e w_ ⟨rfl,S_⟩)|(go_at_call 18;refine (WR).mono ?_;rintro e w_ ⟨rfl,S_⟩)|(go_at_call 11;refine (WQ).mono ?_;rintro e w_ ⟨rfl,S_⟩));go_ret;exact ⟨rfl,(‹AA (St _ _ _ _)›).out.b⟩
 replace H:=H rfl;obtain ⟨b1,F1,H⟩:=H;replace F1:=AA.mk F1;cases b1;case false=>
  clear H;go_wp2_with (first|(go_at_call 10;refine (WZ).mono ?_;rintro e w_ ⟨rfl,S_⟩)|(go_at_call 18;refine (WR).mono ?_;rintro e w_ ⟨rfl,S_⟩)|(go_at_call 11;refine (WQ).mono ?_;rintro e w_ ⟨rfl,S_⟩));go_ret;exact ⟨rfl,(‹AA (St _ _ _ _)›).out.b⟩
 replace H:=H rfl;obtain ⟨b2,F2,H⟩:=H;replace F2:=AA.mk F2;cases b2;case false=>
  clear H;go_wp2_with (first|(go_at_call 10;refine (WZ).mono ?_;rintro e w_ ⟨rfl,S_⟩)|(go_at_call 18;refine (WR).mono ?_;rintro e w_ ⟨rfl,S_⟩)|(go_at_call 11;refine (WQ).mono ?_;rintro e w_ ⟨rfl,S_⟩));go_ret;exact ⟨rfl,(‹AA (St _ _ _ _)›).out.b⟩
 replace H:=H rfl;obtain ⟨b3,F3,H⟩:=H;replace F3:=AA.mk F3;cases b3;case false=>
  clear H;go_wp2_with (first|(go_at_call 10;refine (WZ).mono ?_;rintro e w_ ⟨rfl,S_⟩)|(go_at_call 18;refine (WR).mono ?_;rintro e w_ ⟨rfl,S_⟩)|(go_at_call 11;refine (WQ).mono ?_;rintro e w_ ⟨rfl,S_⟩));go_ret;exact ⟨rfl,(‹AA (St _ _ _ _)›).out.b⟩
 replace H:=H rfl;obtain ⟨b4,F4,H⟩:=H;replace F4:=AA.mk F4;cases b4;case false=>
  clear H;go_wp2_with (first|(go_at_call 10;refine (WZ).mono ?_;rintro e w_ ⟨rfl,S_⟩)|(go_at_call 18;refine (WR).mono ?_;rintro e w_ ⟨rfl,S_⟩)|(go_at_call 11;refine (WQ).mono ?_;rintro e w_ ⟨rfl,S_⟩));go_ret;exact ⟨rfl,(‹AA (St _ _ _ _)›).out.b⟩
 replace H:=H rfl;obtain ⟨b5,F5,H⟩:=H;replace F5:=AA.mk F5;cases b5;case false=>
  clear H;go_wp2_with (first|(go_at_call 10;refine (WZ).mono ?_;rintro e w_ ⟨rfl,S_⟩)|(go_at_call 18;refine (WR).mono ?_;rintro e w_ ⟨rfl,S_⟩)|(go_at_call 11;refine (WQ).mono ?_;rintro e w_ ⟨rfl,S_⟩));go_ret;exact ⟨rfl,(‹AA (St _ _ _ _)›).out.b⟩
 replace H:=H rfl;obtain ⟨a,b,c,ab,bc,x,y,j,want,ea,eb,ec,e,f,g,h,O0,O1,O2,M0,M1,M2,M3,J0,J1,H⟩:=H;replace O0:=AA.mk O0;replace O1:=AA.mk O1;replace O2:=AA.mk O2;replace M0:=AA.mk M0;replace M1:=AA.mk M1;replace M2:=AA.mk M2;replace M3:=AA.mk M3;replace J0:=AA.mk J0;replace J1:=AA.mk J1;replace H:=AA.mk H;go_upto_region 3 with (first|(go_at_call 10;refine (WZ).mono ?_;rintro e w_ ⟨rfl,S_⟩)|(go_at_call 18;refine (WR).mono ?_;rintro e w_ ⟨rfl,S_⟩)|(go_at_call 11;refine (WQ).mono ?_;rintro e w_ ⟨rfl,S_⟩))
 clear F0 F1 F2 F3 F4 F5;go_upto_region 4 with (go_at_call 12;refine (XH (F:=O0)).mono ?_;rintro e w_ ⟨A_,c_,rfl,T_,S_⟩)
 replace S_:=St.push S_ T_;generalize w_.heap.size=g7 at S_⊢
 generalize w_.alloc _=W_ at S_⊢
 clear T_ w_;try clear S
 have S:=S_;clear S_;go_upto_region 5 with (go_at_call 12;refine (XH (F:=O1)).mono ?_;rintro e w_ ⟨A_,c_,rfl,T_,S_⟩)
 replace S_:=St.push S_ T_;generalize w_.heap.size=g9 at S_⊢
 generalize w_.alloc _=W_ at S_⊢
 clear T_ w_;try clear S
 have S:=S_;clear S_;go_upto_region 6 with (go_at_call 12;refine (XH (F:=O2)).mono ?_;rintro e w_ ⟨A_,c_,rfl,T_,S_⟩)
 replace S_:=St.push S_ T_;generalize w_.heap.size=g11 at S_⊢
 generalize w_.alloc _=W_ at S_⊢
 clear T_ w_;try clear S
 have S:=S_;clear S_;obtain ⟨Au,cu,ku,Tu⟩:=St.Wp S (g:=g7) (l:=a) (by repeat (first|exact .head _|refine .tail _ ?_));obtain ⟨Av,cv,kv,Tv⟩:=St.Wp S (g:=g9) (l:=b) (by repeat (first|exact .head _|refine .tail _ ?_));go_upto_region 7 with (go_at_call 28;refine (WW S Tu Tv M0).mono ?_;rintro e w_ ⟨A_,c_,rfl,T_,S_⟩)
 clear ku kv Tu Tv;replace S_:=St.push S_ T_;generalize w_.heap.size=g13 at S_⊢
 generalize w_.alloc _=W_ at S_⊢
 clear T_ w_;try clear S
 have S:=S_;clear S_;obtain ⟨Au,cu,ku,Tu⟩:=St.Wp S (g:=g9) (l:=b) (by repeat (first|exact .head _|refine .tail _ ?_));obtain ⟨Av,cv,kv,Tv⟩:=St.Wp S (g:=g11) (l:=c) (by repeat (first|exact .head _|refine .tail _ ?_));go_upto_region 8 with (go_at_call 28;refine (WW S Tu Tv M1).mono ?_;rintro e w_ ⟨A_,c_,rfl,T_,S_⟩)
 clear ku kv Tu Tv;replace S_:=St.push S_ T_;generalize w_.heap.size=g15 at S_⊢
 generalize w_.alloc _=W_ at S_⊢
 clear T_ w_;try clear S
 have S:=S_;clear S_;obtain ⟨Au,cu,ku,Tu⟩:=St.Wp S (g:=g13) (l:=ab) (by repeat (first|exact .head _|refine .tail _ ?_));obtain ⟨Av,cv,kv,Tv⟩:=St.Wp S (g:=g11) (l:=c) (by repeat (first|exact .head _|refine .tail _ ?_));go_upto_region 9 with (go_at_call 28;refine (WW S Tu Tv M2).mono ?_;rintro e w_ ⟨A_,c_,rfl,T_,S_⟩)
 clear ku kv Tu Tv;replace S_:=St.push S_ T_;generalize w_.heap.size=g17 at S_⊢
 generalize w_.alloc _=W_ at S_⊢
 clear T_ w_;try clear S
 have S:=S_;clear S_;obtain ⟨Au,cu,ku,Tu⟩:=St.Wp S (g:=g7) (l:=a) (by repeat (first|exact .head _|refine .tail _ ?_));obtain ⟨Av,cv,kv,Tv⟩:=St.Wp S (g:=g15) (l:=bc) (by repeat (first|exact .head _|refine .tail _ ?_));go_upto_region 10 with (go_at_call 28;refine (WW S Tu Tv M3).mono ?_;rintro e w_ ⟨A_,c_,rfl,T_,S_⟩)
 clear ku kv Tu Tv;replace S_:=St.push S_ T_;generalize w_.heap.size=g19 at S_⊢
 generalize w_.alloc _=W_ at S_⊢
 clear T_ w_;try clear S
 have S:=S_;clear S_;have T0:=S.out.c (A0,l0.length,c0,l0) (.head _);have T1:=S.out.c (A1,l1.length,c1,l1) (.tail _ (.head _));go_upto_region 11 with (first|(go_at_call 31;have g_:=S3;clear g_;refine (XA S3 T3 T2 J1).mono ?_;rintro e w4 ⟨A4,c4,rfl,T4,S4⟩)|(go_at_call 31;refine (XA S T0 T1 J0).mono ?_;rintro e w3 ⟨A3,c3,rfl,T3,S3⟩;have T2:=S3.out.c (A2,l2.length,c2,l2) (.tail _ (.tail _ (.head _)))))
 clear S T0 T1 T2 T3 S3 J0 J1 O0 O1 O2 M0 M1 M2 M3;have S:=St.Wh S4 T4;clear S4 T4;obtain ⟨many,Y,H1,H2⟩:=H.out;replace Y:=AA.mk Y;clear H;cases many;case true=>
  clear H2;have He:=W9 (H1 rfl).1;have Hf:=W9 (H1 rfl).2;clear H1;rcases He with d1|⟨d1,d2⟩<;>rcases Hf with d3|⟨d3,d4⟩
  all_goals
   go_wp2_with (first|(go_at_call 32;refine (XB S (St.row S (.head _)) Y).mono ?_;rintro e w5 ⟨rfl,T5,S5⟩)|(go_at_call 11;refine (WQ S5).mono ?_;rintro e w6 ⟨rfl,S6⟩));go_ret;exact ⟨rfl,S6.out.b⟩
 case false=>
  clear H1;obtain ⟨rfl,rfl,rfl,rfl,lst,L,D,E⟩:=H2 rfl;clear H2;replace L:=AA.mk L;replace D:=AA.mk D;replace E:=AA.mk E;go_wp2_with (first|(go_at_call 32;refine (XB S (St.row S (.head _)) Y).mono ?_;rintro e w5 ⟨rfl,T5,S5⟩)|(go_at_call 11;refine (WQ S5).mono ?_;rintro e w6 ⟨rfl,S6⟩;obtain ⟨A6,c6,k6,T6⟩:=St.Wp S6 (g:=g17) (l:=x) (by repeat (first|exact .head _|refine .tail _ ?_)))|(go_at_call 15;refine (XF S6 T6 L).mono ?_;rintro e w7 ⟨A7,c7,rfl,T7,S7⟩)|(go_at_call 14;refine (Wx S7 T7 (St.row S7 (.head _)) D).mono ?_;rintro e w8 ⟨rfl,S8⟩;obtain ⟨A8,c8,k8,T8⟩:=St.Wp S8 (g:=g17) (l:=x) (by repeat (first|exact .head _|refine .tail _ ?_));obtain ⟨A9,c9,k9,T9⟩:=St.Wp S8 (g:=g19) (l:=y) (by repeat (first|exact .head _|refine .tail _ ?_)))|(go_at_call 30;refine (XG S8 T8 T9 E).mono ?_;rintro e w9 ⟨rfl,S9⟩));go_ret;exact ⟨rfl,S9.out.b⟩
end Go.Proofs.YtohjohhcjcljoaaGreatDoor.Print
