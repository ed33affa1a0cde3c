import Derived.Test.YtnbpokndlaebbaaGreatDoorProg
import Derived.Calls
import Derived.Laws.Sem
import Derived.RunT
import Derived.Room.Entries
import Derived.WalkKit
import Derived.WalkSpells
import Derived.WalkLawsBesides
import Derived.Lib.Hide
import Derived.Deep.QuietTactic
import Derived.BigQuiet
import Derived.ChangeSame
import Derived.OpenShut
import Derived.Maps.AppendAt
import Derived.Deep.AppendLies
import Derived.Deep.RegionHeld3
import Derived.StillTail
import Derived.Deep.MidRow
import Derived.Deep.WholeRow
set_option maxRecDepth 100000
set_option maxHeartbeats 8000000
set_option linter.all false
open Go.Value renaming int->U,slice->Y,bool->ci,agg->bi,pointer->d9,tuple->em,iface->gc
open Go.IntKind renaming i64->O
open Go.Obj renaming cells->ap
open Go.Ending renaming returned->dl
open Array renaming getElem?_eq_none->ajT
open Bool renaming and_eq_true->Uy,false->Ba,false_and->akG,true->AT
open Go renaming Addr->aic,Calls->ahR,Code->ajd,FuncId->ajH,Oper->ajq,Operand->aiD,Program->OF,TypeId->SL,Value->AS,World->rl,underlying->aiy,wpList->aiB,zeroValue->ajs
open Go.Instr renaming index->akH,loadAt->ajk
open Go.Region renaming Mode->ajI,binds->ajA,ready->aib,wanted->ahW
open Go.Result renaming andThen_ok->aiz
open Go.Sem renaming run->aiQ,run_bind->aih,run_pure->ajm
open List renaming drop_of_length_le->ajW,range->aij,replicate->so
open Option renaming none->ns,some->an
namespace Go.Proofs
abbrev ou:=@Go.Room.Sem.runT_bind
def Lq{p:Prop}(h:p:=by have ih:P.two.alikeButTags P.two.depth=P.alikeButTags P.depth:=funext λt=>funext λo=>NL P _ t o;rw[ih];rfl):p:=h
def aF{p:Prop}(h:p:=by rfl):p:=h
abbrev bU:=@Array.getElem?_eq_some_iff
def aC{p:Prop}(h:p:=by rfl):p:=h
abbrev pJ:=@Go.Sem.runT_fst
abbrev gW:=@List.all_eq_true
abbrev fM:=@List.mem_range
def aa{p:Prop}(h:p:=by omega):p:=h
def au{p:Prop}(h:p:=by simp):p:=h
abbrev cZ:=@Nat.lt_or_ge
abbrev im:=@Go.RowKit.Below.heap_setCell
abbrev iH:=@Go.World.cell?_of_block
abbrev ez:=@Nat.zero_le
def C5{p:Prop}(h:p:=by
  rcases h.2.2 with⟨h',hn⟩|⟨g,cap,cur,h',_⟩
  ·simp_all
  ·simp_all):p:=h
def C6{p:Prop}(h:p:=by
  rcases h.2.2 with h'|⟨g,cap,cur,h',hB,hg,hn,hm,_⟩
  ·simp_all
  ·grind):p:=h
def Du{p:Prop}(h:p:=by
  rcases h.dC with⟨_,h'⟩|⟨_,_,_,_,_,h1,h2⟩
  ·omega
  ·omega):p:=h
def Cx{p:Prop}(h:p:=by cases v.ownBlock<;>simp):p:=h
def aE{p:Prop}(h:p:=by assumption):p:=h
def JM{p:Prop}(h:p:=by have:=World.ownsRow.cellAt h.2 k aa;rw[this];have:=h.1;simp[show k<xs.length by omega]):p:=h
def JN{p:Prop}(h:p:=by refine⟨by rw[List.length_set];exact h.1,?_⟩;rw[List.map_set];exact(World.ownsRow.stored h.2 k _).1):p:=h
def C7{p:Prop}(h:p:=by
  obtain⟨h0,h1,h2⟩:=h;refine⟨h0,h1,?_⟩;rcases h2 with h2|⟨g,cap,cur,hv,hg,r⟩
  ·simp_all
  ·exact .inr ⟨g,cap,cur,hv,aa,r⟩):p:=h
def JO{p:Prop}(h:p:=by refine .inr λe=>?_;have h1:=(h.2.lt k hv).2;have h2:=(h'.2.lt k e.symm).1;omega):p:=h
abbrev aQ:=@Nat.le_trans
def ag{p:Prop}(h:p):Go.RowKit.Hid p:=Go.Lib.hid h
def om{p:Prop}(h:p:=by rw[e]):p:=h
def eN{p:Prop}(h:p:=by simp_all):p:=h
def aw{p:Prop}(h:p:=by decide):p:=h
def Lr{p:Prop}(h:p:=by
  intro j u hj
  match j,hj with
  |0,hj=>simp at hj;subst hj;simpa[Addr.add] using hc):p:=h
def mY{p:Prop}(h:p:=by unfold maxLen;omega):p:=h
abbrev ay:=@Nat.le_refl
def yU{p:Prop}(h:p:=by go_wp2;all_goals(go_ret;exact⟨by simp[*],rfl⟩)):p:=h
abbrev pK:=@Int.emod_nonneg
abbrev pL:=@Int.emod_lt_of_pos
def Ls{p:Prop}(h:p:=by
  have hm:=pK n (show d≠0 by omega);have hl:=pL n hd;rw[Int.tdiv_eq_ediv,Int.tmod_eq_emod];by_cases h:0<=n\/d∣n
  ·simp_all
  ·grind):p:=h
def JP{p:Prop}(h:p:=by have b1:n.tdiv d<=1000000000001:=aa;have H:=ag he;go_enter Gz.gf func68,ntmps68;go_wp2;go_ret;exact⟨by rw[<-H.out];rfl,rfl⟩):p:=h
abbrev pM:=@List.getElem_mem
def Lt{p:Prop}(h:p:=by have:=gW.1 h (xs[k]?.getD 0) (by rw[List.getElem?_eq_getElem hk];exact pM hk);exact of_decide_eq_true this):p:=h
def JQ{p:Prop}(h:p:=by
  clear h;by_cases h1:8<=n
  ·by_cases h2:n<=32
   ·by_cases h3:n%8=0
    ·have h4:(n%8==0)=true:=by simp[h3]
     have h5:decide (8<=n/\n<=32/\n%8=0)=true:=decide_eq_true ⟨h1,h2,h3⟩;rw[h5];clear h5;go_enter Gz.gf func20,ntmps20;go_wp2;go_ret;exact⟨by simp[*],rfl⟩
    ·have h4:(n%8==0)=false:=by simp[h3]
     have h5:decide (8<=n/\n<=32/\n%8=0)=false:=decide_eq_false aa;rw[h5];clear h5 h3;go_enter Gz.gf func20,ntmps20;go_wp2;go_ret;exact⟨by simp[*],rfl⟩
   ·have h4:decide (n<=32)=false:=by simp;omega
    have h5:decide (8<=n/\n<=32/\n%8=0)=false:=decide_eq_false aa;clear h5 h2;go_enter Gz.gf func20,ntmps20;go_wp2;all_goals(go_ret;exact⟨by simp[*],rfl⟩)
  ·have h4:decide (8<=n)=false:=by simp;omega
   have h5:decide (8<=n/\n<=32/\n%8=0)=false:=decide_eq_false aa;rw[h5];clear h5 h1;go_enter Gz.gf func20,ntmps20;go_wp2;all_goals(go_ret;exact⟨by simp[*],rfl⟩)):p:=h
def oq{p:Prop}(h:p:=by rw[hn.out];omega):p:=h
def x7{p:Prop}(h:p:=by rw[hn.out];exact aV):p:=h
def aJ{p:Prop}(h:p:=by go_num):p:=h
def JR{p:Prop}(h:p:=by
  go_wp2;go_round;case rel=>exact⟨k+1,aa,aJ,by rw[Hid,hr.out,kc.out];rfl⟩
  case measure=>simp[intOf];omega):p:=h
def aU{p:Prop}(h:p:=by repeat(first|exact Q.refl _|assumption|refine Q.drewN ?_ _|refine Q.drew ?_|refine Q.alloc ?_ _|refine Q.trans ?_ (by assumption)|refine Q.set ?_ (by first|exact Nat.le_refl _|omega|(simp;done)|(simp;omega)) _)):p:=h
def JS{p:Prop}(h:p:=by go_enter Gz.gf func9,ntmps9;go_wp2;refine(kH HW.out).mono ?_;rintro e w'⟨rfl,rfl⟩;go_wp2;refine(kH HH.out).mono ?_;rintro e w'⟨rfl,rfl⟩;go_wp2;go_ret;exact⟨by rw[HT.out];rfl,q0⟩):p:=h
def yV{p:Prop}(h:p:=by go_enter Gz.gf func38,ntmps38;go_wp2;(refine(pX HW.out).mono ?_;rintro e w'⟨rfl,rfl⟩);go_wp2;(refine(pX HH.out).mono ?_;rintro e w'⟨rfl,rfl⟩);go_wp2;go_ret;exact⟨by rw[HT.out];rfl,q0⟩):p:=h
abbrev yZ:=@Nat.mul_le_mul_right
abbrev aH:=@Option.some.inj
abbrev iY:=@Ne.symm
def uC{p:Prop}(h:p:=by rw[hr];simp):p:=h
def C1{p:Prop}(h:p:=by rw[bP,h.len];exact lD):p:=h
def C8{p:Prop}(h:p:=by refine⟨rfl,rfl,rfl,by simp[World.setRow],λk hk i6=>?_⟩;simp only[World.setRow,Array.getElem?_modify];rw[if_neg λe=>i6 om]):p:=h
def C9{p:Prop}(h:p:=by
  go_wp2;go_round;case rel=>exact⟨k+1,aa,aJ,by rw[Hid,hr.out,kc.out]⟩
  case measure=>simp[intOf];omega):p:=h
end Go.Proofs
namespace Go.Proofs.Q0.Open
def _root_.Go.Code.sl:ajd->ajd|.seq a _=>a|c=>c
def _root_.Go.Code.sr:ajd->ajd|.seq _ b=>b|c=>c
def _root_.Go.Code.sin:ajd->ajd|.block _ b=>b|.loop b=>b|c=>c
def _root_.Go.Code.nP:ajd->Array ajq|.region _ a _=>a|_=>#[]
noncomputable def lK:ajd:=Tryz.f27.body.getD .skip
noncomputable def iv:ajd:=lK.sr.sr
noncomputable def fe:Array ajq:=iv.sl.nP
noncomputable def GQ:Array ajq:=iv.sr.sl.nP
noncomputable def tt:ajd:=iv.sr.sr.sl
noncomputable def gN:Array ajq:=iv.sr.sr.sr.sl.nP
noncomputable def dA:ajd:=iv.sr.sr.sr.sr
noncomputable def GR:Array ajq:=tt.sl.nP
noncomputable def jA:ajd:=tt.sr.sin.sin
noncomputable def Bm:Array ajq:=jA.sl.nP
noncomputable def tz:Array ajq:=jA.sr.sr.sl.sin.sl.nP
noncomputable def qH:Array ajq:=jA.sr.sr.sl.sin.sr.sl.nP
noncomputable def oX:Array ajq:=jA.sr.sr.sl.sin.sr.sr.nP
noncomputable def qt:Array ajq:=jA.sr.sr.sr.nP
end Go.Proofs.Q0.Open
namespace Go.Proofs.Q0.aM
variable{α:Type}
section
class ah where
 ok:ajH->Prop
 fv:ajH->Prop
 gl:Nat->Prop
 cd:ajH->ajd->Prop
 fs:Array Func
 lv:ajH->Nat->Prop
 dL:ajd->ajd->Prop
 home:ajH
 cl:Nat->Prop
 np:SL->Prop
 hd:SL->Prop
 jk:AS->Prop
variable[ah]
def _root_.Go.Program.two(P:OF):OF:={P with funcs:=ah.fs}
def kO:Halt->Prop
 |.panic _|.stuck _=>True
 |.unsupported (.initOrder _)=>False
 |.unsupported _=>True
 |_=>False
section
variable{P:OF}
def Looks(P:OF){α:Type}(s:Sem α):Prop:=(∃a,∀w es,s.runT P w es=(.ok a w,es)/\s.runT P.two w es=(.ok a w,es))\/∃x,kO x/\∀w es,s.runT P w es=(.halt x w,es)/\s.runT P.two w es=(.halt x w,es)
def Looks.ask{f:OF->Sem α}(h:Looks P (f P))(e:f P.two=f P:=by rfl):Looks P (program>>=f):=by
 rcases h with⟨a,h⟩|⟨x,b,h⟩
 ·exact .inl ⟨a,λw es=>⟨(h w es).1,show(f P.two).runT P.two w es=_ by rw[e];exact(h w es).2⟩⟩
 ·exact .inr ⟨x,b,λw es=>⟨(h w es).1,show(f P.two).runT P.two w es=_ by rw[e];exact(h w es).2⟩⟩
def Looks.ret(a:α):Looks P (pure a:Sem α):=.inl ⟨a,λ_ _=>⟨rfl,rfl⟩⟩
def Looks.stuck(a:String):Looks P (stuck a:Sem α):=.inr ⟨.stuck a,trivial,λ_ _=>⟨rfl,rfl⟩⟩
def Looks.unsupported(u:Unsupported)(hu:kO (.unsupported u):=by trivial):Looks P (unsupported u:Sem α):=.inr ⟨.unsupported u,hu,λ_ _=>⟨rfl,rfl⟩⟩
def Looks.bind{β:Type}{s:Sem α}{f:α->Sem β}(h:Looks P s)(c:∀a,Looks P (f a)):Looks P (s>>=f):=by
 rcases h with⟨a,h⟩|⟨x,d,h⟩
 ·rcases c a with⟨b,k⟩|⟨y,e,k⟩
  ·exact .inl ⟨b,λw es=>⟨by have:=ou P s f w es;rw[(h _ _).1] at this;exact this.trans (k w es).1,by have:=ou P.two s f w es;rw[(h _ _).2] at this;exact this.trans (k w es).2⟩⟩
  ·exact .inr ⟨y,e,λw es=>⟨by have:=ou P s f w es;rw[(h _ _).1] at this;exact this.trans (k w es).1,by have:=ou P.two s f w es;rw[(h _ _).2] at this;exact this.trans (k w es).2⟩⟩
 ·exact .inr ⟨x,d,λw es=>⟨by have:=ou P s f w es;rw[(h _ _).1] at this;exact this,by have:=ou P.two s f w es;rw[(h _ _).2] at this;exact this⟩⟩
def rR(t:SL):Looks P (aiy t):=by refine Looks.ask ?_;cases P.underlying t with|none=>exact .stuck _|some d=>exact .ret d
def rV(t:SL):Looks P (typeInfo t):=by refine Looks.ask ?_;cases P.info? t with|none=>exact .stuck _|some d=>exact .ret d
def zk(t:SL):Looks P (sizeOf t):=(rV t).bind λ_=>.ret _
def ME(t:SL):Looks P (isAgg t):=(rR t).bind λd=>by cases d<;>exact .ret _
def Wh(t:SL):Looks P (ajs t):=(rV t).bind λd=>by cases d.zero with|none=>exact .unsupported _|some v=>exact .ret v
def NL(P:OF):∀(d:Nat)(t u:SL),P.two.alikeButTags d t u=P.alikeButTags d t u
 |0,_,_=>rfl
 |d+1,t,u=>by unfold Program.alikeButTags;have a:P.two.alikeButTags d=P.alikeButTags d:=funext λt=>funext λo=>NL P d t o;rw[a];rfl
def Da{P:OF}(t:SL):P.two.stoodInHeld t=P.stoodInHeld t:=by
 have:P.two.stoodInAs t=P.stoodInAs t:=by unfold Program.stoodInAs;exact Lq
 unfold Program.stoodInHeld;rw[this];rfl
def Db(P:OF):∀(d:Nat)(t:SL),P.two.eqGuardType d t=P.eqGuardType d t
 |0,_=>rfl
 |d+1,t=>by unfold Program.eqGuardType;have a:P.two.eqGuardType d=P.eqGuardType d:=funext λt=>Db P d t;rw[a];rfl
end
end
end Go.Proofs.Q0.aM
namespace Go.Proofs
variable{n:Nat}
section
open Go.Proofs.Q0.Open Go.Proofs.Q0
namespace Q0.Open
def aR(d:Option Nat)(t:SL)(o:Op):ajq:={dst:=d,op:=o,type:=t,pos:= "",after:=#[],guard:=ns}
def eD(n:Int):aiD:=.const (U O n)
def gA:Array ajq:=#[
 aR (an 13) 25 (.load 25 (.tmp 1)),aR (an 15) 23 (.field 25 (.tmp 13) 4),
 aR (an 20) 3 (.field 25 (.tmp 13) 0),aR (an 21) 3 (.binOp .quo 3 (.tmp 20) (eD 8) 3),
 aR (an 20) 3 (.field 25 (.tmp 13) 1),aR (an 5) 3 (.binOp .quo 3 (.tmp 20) (eD 8) 3),
 aR (an 20) 3 (.field 25 (.tmp 13) 3),aR (an 5) 3 (.binOp .quo 3 (.tmp 20) (eD 8) 3),
 aR (an 24) 4 (.field 25 (.tmp 13) 2),aR (an 5) 4 (.unOp .not 4 (.tmp 24)),
 aR (an 16) 3 (.call {callee:=.builtin .len,args:=#[.tmp 15],argTypes:=#[23]}),
 aR (an 25) 4 (.binOp .lss 3 (.tmp 16) (eD 5) 3),aR (an 5) 4 (.binOp .lss 3 (eD 0) (.tmp 16) 3),aR (an 22) 3 (.move (eD 0)),
 aR (an 17) 120 (.load 120 (.global 1)),aR (an 18) 234 (.typeAssert (.tmp 17) 120 234 Ba),
 aR (an 19) 120 (.load 120 (.global 2)),aR (an 20) 234 (.typeAssert (.tmp 19) 120 234 Ba)]
def Sq:ajd:=.block 987654 .skip
def nX:ajd:=.seq (.region 60 #[aR (an 5) 3 (.binOp .add 3 (.const (.bool AT)) (eD 0) 3)] Ba) (.rangeFunc (.const .nilFunc) #[] Sq .skip)
def BI:Array ajq:=#[aR (an 25) 4 (.binOp .lss 3 (.tmp 22) (.tmp 16) 3)]
def Ht:Array ajq:=#[aR (an 26) 0 (.indexAddr 23 (.tmp 15) (.tmp 22)),aR (an 27) 22 (.load 22 (.tmp 26)),aR (an 6) 3 (.call {callee:=.builtin .len,args:=#[.tmp 27],argTypes:=#[22]}),
 aR (an 5) 9 (.convert 22 9 (.tmp 27)),aR (an 17) 3 (.call {callee:=.builtin .len,args:=#[.tmp 5],argTypes:=#[9]}),aR (an 18) 4 (.binOp .eql 3 (.tmp 6) (.tmp 17) 3),
 aR (an 19) 3 (.binOp .add 3 (.tmp 6) (eD 0) 3),aR (an 14) 4 (.binOp .eql 3 (.tmp 19) (.tmp 6) 3),
 aR (an 28) 3 (.call {callee:=.builtin .cap,args:=#[.tmp 27],argTypes:=#[22]}),aR (an 20) 4 (.binOp .leq 3 (.tmp 6) (.tmp 28) 3),aR (an 5) 3 (.binOp .add 3 (.tmp 28) (eD 0) 3),aR (an 17) 4 (.binOp .eql 3 (.tmp 5) (.tmp 28) 3)]
def Hu:Array ajq:=#[aR (an 19) 3 (.binOp .add 3 (.tmp 22) (eD 1) 3),aR (an 22) 3 (.move (.tmp 19))]
def gB:ajd:=.seq (.region 62 BI Ba) (.seq (.cond (.tmp 25) .skip (.exit 50)) (.seq (.region 63 Ht Ba) (.seq (.cond (.tmp 18) .skip nX) (.seq (.cond (.tmp 14) .skip nX) (.seq (.cond (.tmp 20) .skip nX) (.seq (.cond (.tmp 17) .skip nX) (.region 67 Hu Ba)))))))
def gM:Array ajq:=#[aR (an 17) 56 (.makeSlice 56 (.tmp 16) (.tmp 16)),
 aR (an 18) 58 (.build 58 #[(0,.tmp 13),(1,.tmp 17)]),aR (an 4) 0 (.alloc 58),aR ns 0 (.store 58 (.tmp 4) (.tmp 18)),aR (an 22) 3 (.move (eD 0))]
def wV:Array ajq:=#[aR (an 26) 0 (.indexAddr 23 (.tmp 15) (.tmp 22)),aR (an 27) 22 (.load 22 (.tmp 26)),
 aR (an 28) 0 (.call {callee:=.value (.func 53),args:=#[.tmp 27,.tmp 21,.tmp 24],argTypes:=#[22,3,4]}),
 aR (an 5) 68 (.extract (.tmp 28) 0),aR (an 6) 0 (.indexAddr 56 (.tmp 17) (.tmp 22)),aR ns 0 (.store 68 (.tmp 6) (.tmp 5)),
 aR (an 19) 3 (.binOp .add 3 (.tmp 22) (eD 1) 3),aR (an 22) 3 (.move (.tmp 19))]
def gD:ajd:=.seq (.region 65 BI Ba) (.seq (.cond (.tmp 25) .skip (.exit 51)) (.region 66 wV Ba))
noncomputable def ja:ajd:=.seq (.region 61 gA Ba) (.seq (.cond (.tmp 25) .skip nX) (.seq (.cond (.tmp 5) .skip nX) (.seq (.block 50 (.loop gB)) (.seq (.region 64 gM Ba) (.seq (.block 51 (.loop gD)) dA)))))
noncomputable def lL:ajd:=.seq lK.sl (.seq lK.sr.sl ja)
end Q0.Open
noncomputable def Gz.f27:Func:={Tryz.f27 with body:=an lL}
noncomputable def Gz.prog:OF:={Tryz.prog with funcs:=Tryz.prog.funcs.setIfInBounds 27 Gz.f27}
def Gz.funcs:Gz.prog.funcs=Tryz.prog.funcs.setIfInBounds 27 Gz.f27:=aF
def Gz.mE{f:Func}(h:Tryz.prog.funcs[n]?=an f)(a:n≠27):Gz.prog.funcs[n]?=an f:=by rw[Gz.funcs];rw[Array.getElem?_setIfInBounds_ne (Ne.symm a)];exact h
def Gz.func27:Gz.prog.funcs[27]?=an Gz.f27:=by rw[Gz.funcs];rw[Array.getElem?_setIfInBounds_self_of_lt];exact(bU.1 Tryz.func27).1
def Gz.size:Gz.prog.funcs.size=Tryz.prog.funcs.size:=aC
@[simp] theorem Gz.info(t:SL):Gz.prog.info? t=Tryz.prog.info? t:=aF
@[simp] theorem Gz.under(t:SL):Gz.prog.underlying t=Tryz.prog.underlying t:=aF
section
noncomputable local instance:aM.ah:={ok:=λ_=>False,fv:=λ_=>False,gl:=λ_=>False,cd:=λ_ _=>False,fs:=Gz.prog.funcs,lv:=λ_ _=>False,dL:=λ_ _=>False,home:=0,cl:=λ_=>False,np:=λ_=>False,hd:=λ_=>False,jk:=λ_=>False}
def Gz.two:Tryz.prog.two=Gz.prog:=aF
def Gz.looks{α:Type}{s:Sem α}(h:aM.Looks Tryz.prog s)(w:rl):aiQ Gz.prog s w=aiQ Tryz.prog s w:=by
 have e:∀(P:OF)(w:rl),aiQ P s w=(s.runT P w #[]).1:=λP w=>(pJ P s w #[]).symm;rw[e,e];rcases h with⟨a,h⟩|⟨x,_,h⟩
 ·rw[(h w #[]).1,<-Gz.two,(h w #[]).2]
 ·rw[(h w #[]).1,<-Gz.two,(h w #[]).2]
@[simp] theorem Gz.EO(t:SL)(w:rl):aiQ Gz.prog (aiy t) w=aiQ Tryz.prog (aiy t) w:=Gz.looks (aM.rR t) w
@[simp] theorem Gz.ag3(t:SL)(w:rl):aiQ Gz.prog (typeInfo t) w=aiQ Tryz.prog (typeInfo t) w:=Gz.looks (aM.rV t) w
@[simp] theorem Gz.ag4(t:SL)(w:rl):aiQ Gz.prog (sizeOf t) w=aiQ Tryz.prog (sizeOf t) w:=Gz.looks (aM.zk t) w
@[simp] theorem Gz.Rh(t:SL)(w:rl):aiQ Gz.prog (isAgg t) w=aiQ Tryz.prog (isAgg t) w:=Gz.looks (aM.ME t) w
@[simp] theorem Gz.ag5(t:SL)(w:rl):aiQ Gz.prog (ajs t) w=aiQ Tryz.prog (ajs t) w:=Gz.looks (aM.Wh t) w
end
end
def Gz.aaA{P:OF}{fn:Func}(h:P.funcs[n]?=an fn)(a:fn.body.isNone=Ba)(b:(fn.name== "runtime.NumGoroutine")=Ba)(args:Array AS)(w:rl):aiQ P (callFunc n args) w=.ok (.enter n args) w:=by
 show(match P.funcs[n]? with
  |none=>_
  |some fn=>_:Sem Next).run P w=_
 rw[h];simp only[b,a,Bool.false_eq_true,if_false];rfl
@[simp] theorem Gz.toT:Gz.prog.toTables=Tryz.prog.toTables:=rfl
@[simp] theorem Gz.deep:Gz.prog.depth=Tryz.prog.depth:=aF
section
noncomputable local instance:Q0.aM.ah:={ok:=λ_=>False,fv:=λ_=>False,gl:=λ_=>False,cd:=λ_ _=>False,fs:=Gz.prog.funcs,lv:=λ_ _=>False,dL:=λ_ _=>False,home:=0,cl:=λ_=>False,np:=λ_=>False,hd:=λ_=>False,jk:=λ_=>False}
def Gz.Tj:Tryz.prog.two=Gz.prog:=aF
@[simp] theorem Gz.guards(d:Nat)(t:SL):Gz.prog.eqGuardType d t=Tryz.prog.eqGuardType d t:=by rw[<-Gz.Tj];exact Q0.aM.Db _ d t
@[simp] theorem Gz.stood(t:SL):Gz.prog.stoodInHeld t=Tryz.prog.stoodInHeld t:=by rw[<-Gz.Tj];exact Q0.aM.Da t
end
def Gz.gf{f:Func}(h:Tryz.prog.funcs[n]?=an f)(a:n≠27:=by decide):Gz.prog.funcs[n]?=an f:=Gz.mE h a
abbrev Gz.gu{t:SL}{i:TypeDesc}(h:Tryz.prog.underlying t=an i):Gz.prog.underlying t=an i:=(Gz.under t).trans h
def Gz.tO:((aij 227).all λn=>!(decide ((1<n/\n<70)\/(75<n/\n<78)\/(78<n/\n<81)\/(82<n/\n<87)\/(88<n/\n<90)\/(91<n/\n<109)\/(112<n/\n<115)\/(115<n/\n<120)\/(120<n/\n<186)\/(201<n/\n<204)\/(215<n/\n<217)\/(219<n/\n<221)\/(225<n/\n<227)))||match Gz.prog.funcs[n]? with
  |some fn=>!fn.body.isNone&&!(fn.name== "runtime.NumGoroutine")
  |none=>Ba)=AT:=by kernel_rfl
@[simp] theorem Gz.ag6(n:Nat)(args:Array AS)(w:rl)(h:(1<n/\n<70)\/(75<n/\n<78)\/(78<n/\n<81)\/(82<n/\n<87)\/(88<n/\n<90)\/(91<n/\n<109)\/(112<n/\n<115)\/(115<n/\n<120)\/(120<n/\n<186)\/(201<n/\n<204)\/(215<n/\n<217)\/(219<n/\n<221)\/(225<n/\n<227)):aiQ Gz.prog (callFunc n args) w=.ok (.enter n args) w:=by
 have h1:=gW.1 Gz.tO n (fM.2 aa);rw[decide_eq_true h] at h1;cases hf:Gz.prog.funcs[n]? with
 |none=>rw[hf] at h1;cases h1
 |some fn=>rw[hf] at h1;simp only[Bool.not_true,Bool.false_or,Uy,Bool.not_eq_true'] at h1;exact Gz.aaA hf h1.1 h1.2 args w
def Gz.cl(n:Nat)(h:(1<n/\n<70)\/(75<n/\n<78)\/(78<n/\n<81)\/(82<n/\n<87)\/(88<n/\n<90)\/(91<n/\n<109)\/(112<n/\n<115)\/(115<n/\n<120)\/(120<n/\n<186)\/(201<n/\n<204)\/(215<n/\n<217)\/(219<n/\n<221)\/(225<n/\n<227):=by decide)(args:Array AS)(w:rl):aiQ Gz.prog (callFunc n args) w=.ok (.enter n args) w:=by simp_all
end Go.Proofs
namespace Go.Proofs.Q0
open Go.Proofs.Tryz
variable{w w':rl}{p:aic}{row:Option Nat}{xs:List Int}{A:Option aic}{B k n fuel:Nat}{v:AS}{x:aiD}{Q':Exit->Act->rl->Prop}{a:Act}{o oi:ajq}{rest l:List ajq}{ops:Array ajq}{lo hi W H:Int}{t:Bool}{f:Nat->Int}{listed:Array Bool}
section
open Go.RowKit Go.WideShapes Go.ChangeShapes
def Q(w w':rl):Prop:=Below w.heap.size w w'
def Q.refl(w:rl):Q w w:=Below.refl _ _
def Q.trans{a b c:rl}(h:Q a b)(k:Q b c):Q a c:=Below.trans h (Below.mono k h.size)
def Q.drewN{a:rl}(h:Q a w)(n:Nat):Q a (w.drewN n):=⟨h.os,h.tape,h.output,h.size,h.block⟩
def Q.drew{a:rl}(h:Q a w):Q a w.drew:=⟨h.os,h.tape,h.output,h.size,h.block⟩
def Q.alloc{a:rl}(h:Q a w)(o:Obj):Q a (w.alloc o):=Below.alloc h h.size o
def Q.set{a:rl}(h:Q a w)(b:a.heap.size<=p.block)(u:AS):Q a (w.setCell p u):=Below.setCell h b u
def Q.size{a w:rl}(h:Q a w):a.heap.size<=w.heap.size:=Below.size h
def Q.cell{a w:rl}(h:Q a w):∀b o,b<a.heap.size->w.cell? ⟨b,o,ns⟩=a.cell? ⟨b,o,ns⟩:=λb o d=>Below.cell (p:=⟨b,o,ns⟩) h d
def Q.frozen{a:rl}(h:Q a w):∀b o,b<a.heap.size->w.frozen? ⟨b,o,ns⟩=a.frozen? ⟨b,o,ns⟩:=λb o d=>Below.frozen (p:=⟨b,o,ns⟩) h d
def Q.ny(h:w.grownBy w' ns):Q w w':=⟨h.os,h.tape,h.output,h.size,λk b=>h.block k b au⟩
def Q.grown{a:rl}(h:Q a w)(b:w.grownBy w' row)(hr:∀k,row=an k->a.heap.size<=k):Q a w':=Below.grown h b h.size hr
def ak(w:rl)(g:Nat)(t:SL)(cs:Array AS):Prop:=w.heap[g]?=an (ap cs t (0,0))
section
variable{w w':rl}{g:Nat}{t:SL}{cs:Array AS}
def ak.lt(h:ak w g t cs):g<w.heap.size:=by
 rcases cZ g w.heap.size with d|b
 ·omega
 ·unfold ak at h;rw[ajT b] at h;cases h
def ak.cell(h:ak w g t cs):∀i,w.cell? ⟨g,i,ns⟩=cs[i]?:=λi=>cell_of_row w g i cs t (0,0) h
def ak.free(h:ak w g t cs):∀i,w.frozen? ⟨g,i,ns⟩=Ba:=λi=>by unfold ak at h;simp[World.frozen?,h]
def ak.new(w:rl)(t:SL)(cs:Array AS):ak (w.alloc (ap cs t)) w.heap.size t cs:=heap_alloc_new w _
def ak.q(h:ak w g t cs)(hq:Q w w'):ak w' g t cs:=(hq.block g h.lt).trans h
def ak.oP(h:ak w g t cs)(hq:Q w w'):∀i,w'.cell? ⟨g,i,ns⟩=cs[i]?:=(h.q hq).cell
def ak.drewN(h:ak w g t cs)(n:Nat):ak (w.drewN n) g t cs:=h
def ak.alloc(h:ak w g t cs)(o:Obj):ak (w.alloc o) g t cs:=h.q ((Q.refl w).alloc o)
def ak.set(h:ak w g t cs)(i:Nat)(u:AS):ak (w.setCell ⟨g,i,ns⟩ u) g t (cs.setIfInBounds i u):=by unfold ak at h⊢;simp[World.setCell,Array.getElem?_modify,h]
def ak.aL(h:ak w g t cs)(b:g≠p.block)(u:AS):ak (w.setCell p u) g t cs:=(im w p u g b).trans h
def ak.grown(h:ak w g t cs)(b:w.grownBy w' row)(d:an g≠row):ak w' g t cs:=(b.block g h.lt d).trans h
end
def Rd(w:rl)(B:Nat)(A:Option aic)(xs:List Int):Prop:=
 0<xs.length->∃b o,A=an ⟨b,o,ns⟩/\b<B/\∀i,i<xs.length->w.cell? ⟨b,o+i,ns⟩=an (U O (xs[i]?.getD 0))
def Rd.nil(w:rl)(B:Nat)(A:Option aic):Rd w B A []:=λh=>absurd h au
def Rd.bK(h:Rd w B A xs)(e:∀b o,b<B->w'.cell? ⟨b,o,ns⟩=w.cell? ⟨b,o,ns⟩):Rd w' B A xs:=λj=>by obtain⟨b,o,rfl,d,hc⟩:=h j;exact⟨b,o,rfl,d,λi hi=>(e b _ d).trans (hc i hi)⟩
def Rd.more{B':Nat}(h:Rd w B A xs)(e:B<=B'):Rd w B' A xs:=λd=>by obtain⟨b,o,rfl,i,hc⟩:=h d;exact⟨b,o,rfl,aa,hc⟩
def Rd.q(h:Rd w B A xs)(hq:Q w w')(d:B<=w.heap.size):Rd w' B A xs:=
 h.bK λb o e=>hq.cell b o aa
def Rd.drewN(h:Rd w B A xs)(k:Nat):Rd (w.drewN k) B A xs:=h
def Rd.alloc(h:Rd w B A xs)(b:B<=w.heap.size)(o:Obj):Rd (w.alloc o) B A xs:=h.q ((Q.refl w).alloc o) b
def Rd.grown(h:Rd w B A xs)(d:w.grownBy w' row)(i:B<=w.heap.size)(hr:∀g,row=an g->B<=g):Rd w' B A xs:=
 h.bK λb o j=>iH (a:=⟨b,o,ns⟩) (d.block b aa λe=>by have:=hr _ e.symm;omega)
def Own(w:rl)(B:Nat)(v:AS)(n:Nat)(xs:List Int):Prop:=xs.length=n/\w.ownsRow B 3 1 v n (xs.map (Value.int .i64))
section
variable{w w':rl}{B B' g c n:Nat}{v:AS}{A:Option aic}{xs:List Int}
def Own.nil(w:rl)(B:Nat):Own w B (Y ns 0 0) 0 []:=⟨rfl,World.ownsRow_nil _ _ _ _⟩
def Own.jb(w:rl)(B:Nat)(b:B<=w.heap.size):Own (w.alloc (ap #[] 3)) B (Y (an ⟨w.heap.size,0,ns⟩) 0 0) 0 []:=
 ⟨rfl,World.ownsRow_lit w #[] 0 b (ez _) rfl⟩
def Own.len(h:Own w B v n xs):xs.length=n:=h.1
def Own.form(h:Own w B v n xs):∃A c,v=Y A n c:=by exact C5
theorem Own.dC(h:Own w B v n xs):(v=Y ns 0 0/\n=0)\/∃g c,v=Y (an ⟨g,0,ns⟩) n c/\B<=g/\g<w.heap.size/\n<=c/\c<=maxLen:=by exact C6
def Own.le(h:Own w B v n xs):n<=maxLen:=by exact Du
def Own.q(h:Own w B v n xs)(hq:Q w w'):Own w' B v n xs:=
 ⟨h.1,h.2.kept (w':=w') (row:=ns) ⟨hq.os,hq.tape,hq.output,hq.size,λk b _=>hq.block k b⟩ Cx⟩
def Own.drewN(h:Own w B v n xs)(k:Nat):Own (w.drewN k) B v n xs:=aE
def Own.alloc(h:Own w B v n xs)(o:Obj):Own (w.alloc o) B v n xs:=h.q ((Q.refl w).alloc o)
def Own.drew(h:Own w B v n xs):Own w.drew B v n xs:=aE
def Own.block(h:Own w B (Y (an ⟨g,0,ns⟩) n c) n xs):B<=g/\g<w.heap.size:=by
 rcases h.dC with⟨b,_⟩|⟨_,_,b,d,e,_⟩
 ·cases b
 ·simp_all
def Own.at(h:Own w B (Y (an ⟨g,0,ns⟩) n c) n xs)(k:Nat)(b:k<n):w.cell? ⟨g,k,ns⟩=an (U O (xs[k]?.getD 0)):=by exact JM
def Own.free(h:Own w B (Y (an ⟨g,0,ns⟩) n c) n xs)(k:Nat):w.frozen? ⟨g,k,ns⟩=Ba:=World.ownsRow.frozenAt h.2 k
def Own.set(h:Own w B (Y (an ⟨g,0,ns⟩) n c) n xs)(k:Nat)(x:Int):Own (w.setCell ⟨g,k,ns⟩ (U O x)) B (Y (an ⟨g,0,ns⟩) n c) n (xs.set k x):=by exact JN
def Own.rd(h:Own w B (Y A n c) n xs):Rd w w.heap.size A xs:=λm=>by
 have q:=h.1;rcases h.dC with⟨b,r⟩|⟨g,d,b,s,e,_⟩
 ·omega
 ·have j:A=an ⟨g,0,ns⟩:=by injection b
  subst j;refine⟨g,0,rfl,e,λi hi=>?_⟩;rw[Nat.zero_add];exact h.at i aa
def Own.mono(h:Own w B v n xs)(b:B'<=B):Own w B' v n xs:=by exact C7
def Own.other(h:Own w B v n xs)(d:w.grownBy w' row)(b:v.ownBlock=ns\/v.ownBlock≠row):Own w' B v n xs:=⟨h.1,h.2.kept d b⟩
def Own.ne{w2:rl}{b d:Nat}{v2:AS}{ys:List Int}(h:Own w B v n xs)(h':Own w2 b v2 d ys)(e:w.heap.size<=b):v.ownBlock=ns\/v.ownBlock≠v2.ownBlock:=by
 cases hv:v.ownBlock with
 |none=>exact .inl rfl
 |some k=>exact JO
def Own.Sr{a:rl}(h:Own w B v n xs)(hq:Q a w)(b:a.heap.size<=B)(d:w.grownBy w' v.ownBlock):Q a w':=
 hq.grown d λk e=>aQ b (h.2.lt k e).1
def Own.aL(h:Own w B v n xs)(b:p.block<B)(u:AS):Own (w.setCell p u) B v n xs:=⟨h.1,ownsRow_setCell_below h.2 b u⟩
end
def ag{p:Prop}(h:p):Hid p:=h
def se{a:rl}{g:Nat}(h:a.grownBy w (an g))(k:Nat)(u:AS):a.grownBy (w.setCell ⟨g,k,ns⟩ u) (an g):=
 ⟨h.os,h.tape,h.output,by simpa[World.setCell] using h.size,λi hi b=>(im w ⟨g,k,ns⟩ u i λe=>b om).trans (h.block i hi b)⟩
def za{a:rl}(h:a.grownBy w row)(n:Nat):a.grownBy (w.drewN n) row:=⟨h.os,h.tape,h.output,h.size,h.block⟩
def Lu(h:k<xs.length):xs.take (k+1)=xs.take k++[xs[k]?.getD 0]:=eN
end
section
open Go.RowKit
def sK:(Gz.prog.info? 3).map (λi=>(i.zero,i.size,i.bytes))=an (an (U O 0),1,8):=aF
def Own.below{w:rl}{B n:Nat}{v:AS}{xs:List Int}(h:Own w B v n xs)(k:Nat)(b:v.ownBlock=an k):B<=k:=(h.2.lt k b).1
def uD(e:o.guard=ns){s:aiD}
  (q:o.op=.call {callee:=.builtin .append,args:=#[s,x],argTypes:=#[26,26]})
  (i:rl)(B:Nat)(r:a.eval s=v)(b:Own w B v n xs)(ad:aic){y:Int}{c:Nat}(z:a.eval x=Y (an ad) 1 c)
  (D:n<=1000000000000)(E:i.heap.size<=B)(d:B<=w.heap.size)(hq:Q i w)(hc:w.cell? ad=an (U O y))
  (h:∀v' w',Own w' B v' (n+1) (xs++[y])->Q i w'->B<=w'.heap.size->w.grownBy w' v.ownBlock->aiB Gz.prog ops Q' rest (a.put o.dst v') w'):aiB Gz.prog ops Q' (o::rest) a w:=by
 obtain⟨i0,hi,j,hz1,hz2⟩:=info_parts sK;refine wpList_append_own _ e s x 26 q B 3 i0 (U O 0) 1 8 (Gz.gu underlying26) hi j hz1 hz2 rfl aw v n _ r b.2 ad 1 c [U O y] z rfl ?_ ?_ ?_ ?_ d ?_
 ·exact Lr
 ·intro u hu;simp at hu;subst hu;rfl
 ·unfold maxLen;omega
 ·omega
 ·intro v' w' h1 m _;refine h v' w' ⟨by simp[b.1],by simpa using h1⟩ (hq.grown m λk C=>?_) (aQ d m.size) m;have:=b.below k C;omega
def V5(b:o.guard=ns){l c:aiD}(j:o.op=Op.makeSlice 26 l c)
  {e:rl}(n:Nat){C:Int}(m:a.eval l=U O 0)(hc:a.eval c=U O C)(q:C=(n:Int))(r:n<=1000000000000)(hq:Q e w)
  (h:∀w',Own w' w.heap.size (Y (an ⟨w.heap.size,0,ns⟩) 0 n) 0 []->Q e w'->w.heap.size<=w'.heap.size->aiB Gz.prog ops Q' rest (a.put o.dst (Y (an ⟨w.heap.size,0,ns⟩) 0 n)) w'):aiB Gz.prog ops Q' (o::rest) a w:=by
 obtain⟨i0,hi,d,hz1,hz2⟩:=info_parts sK;refine wpList_make_own w b l c 26 j w.heap.size 3 i0 (U O 0) 1 (Gz.gu underlying26) hi d hz1 .i64 .i64 C n m hc q (by rw[hz2];omega) mY (ay _) ?_;intro w' h1 i;exact h w' ⟨rfl,h1⟩ (hq.trans (Q.ny i)) i.size
def Wi(b:o.guard=ns){l c:aiD}(j:o.op=Op.makeSlice 26 l c)
  (e:rl)(n:Nat){L C:Int}(m:a.eval l=U O L)(hc:a.eval c=U O C)(q:L=(n:Int))(r:C=(n:Int))(s:n<=1000000000000)(hq:Q e w)
  (h:∀w',Own w' w.heap.size (Y (an ⟨w.heap.size,0,ns⟩) n n) n (so n 0)->Q e w'->w.heap.size<=w'.heap.size->aiB Gz.prog ops Q' rest (a.put o.dst (Y (an ⟨w.heap.size,0,ns⟩) n n)) w'):aiB Gz.prog ops Q' (o::rest) a w:=by
 obtain⟨i0,hi,d,hz1,hz2⟩:=info_parts sK;refine wpList_make_full w b l c 26 j w.heap.size 3 i0 (U O 0) 1 (Gz.gu underlying26) hi d hz1 .i64 .i64 L C n m hc q r (by rw[hz2];omega) mY (ay _) ?_;intro w' h1 i;exact h w' ⟨au,by simpa[Value.cells,toList_madeCells_one] using h1⟩ (hq.trans (Q.ny i)) i.size
end
section
open Go.RowKit
def oH{n:Int}(w:rl)(h1:lo<=n)(b:n<=hi):
  ahR Gz.prog 62 #[U O n,U O lo,U O hi] w λe w'=>e=dl (ci AT)/\w=w':=by
 go_enter Gz.gf func62,ntmps62;go_wp2;go_ret;exact⟨by simp[*],rfl⟩
def Fp(n lo hi:Int)(w:rl)(h1:n<lo\/hi<n):
  ahR Gz.prog 62 #[U O n,U O lo,U O hi] w λe w'=>e=dl (ci Ba)/\w=w':=by
 rcases h1 with h|h
 ·go_enter Gz.gf func62,ntmps62;go_wp2;go_ret;exact⟨au,rfl⟩
 ·have b:decide (n<=hi)=Ba:=by simp;omega
  go_enter Gz.gf func62,ntmps62;exact yU
def cG{n:Int}{b:Bool}(w:rl)(h:Hid (decide (lo<=n/\n<=hi)=b)):
  ahR Gz.prog 62 #[U O n,U O lo,U O hi] w λe w'=>e=dl (ci b)/\w=w':=by
 cases b
 ·exact Fp n lo hi w (by have:=of_decide_eq_false h;omega)
 ·have h:=of_decide_eq_true h;exact oH w h.1 h.2
theorem Yl(n:Int){d:Int}(hd:0<d):(n.tmod d<0/\n.tdiv d-1=n/d)\/(0<=n.tmod d/\n.tdiv d=n/d):=by exact Ls
def Fq(n d:Int)(w:rl)(hd:0<d)(b:d<=1000000)(h1: -1000000000000<=n)(h:n<=1000000000000):
  ahR Gz.prog 68 #[U O n,U O d] w λe w'=>e=dl (U O (n/d))/\w=w':=by
 have i:=Int.le_trans (Int.ediv_le_ediv hd h) (Int.ediv_le_self _ aa)
 have j: -1000000000000<=n/d:=by rw[Int.le_ediv_iff_mul_le hd];omega
 rcases Yl n hd with⟨m,he⟩|⟨m,he⟩
 ·exact JP
 ·exact JP
def Mb{n:Int}{b:Bool}(w:rl)(h:Hid (decide (0<=n/\n<=255)=b)):
  ahR Gz.prog 44 #[U O n] w λe w'=>e=dl (ci b)/\w=w':=by
 subst h;by_cases h1:0<=n
 ·by_cases d:n<=255
  ·rw[decide_eq_true ⟨h1,d⟩];go_enter Gz.gf func44,ntmps44;go_wp2;go_ret;exact⟨by simp[*],rfl⟩
  ·rw[decide_eq_false λh=>d h.2];go_enter Gz.gf func44,ntmps44;exact yU
 ·rw[decide_eq_false λh=>h1 h.1];go_enter Gz.gf func44,ntmps44;go_wp2;all_goals(go_ret;exact⟨au,rfl⟩)
end
section
open Go.RowKit
def dP(n:Int):Bool:=decide (8<=n/\n<=32/\n%8=0)
def wG(n:Int):Bool:=decide (0<=n/\n<=255)
def dk(xs:List Int):Bool:=xs.all wG
def bV(W H:Int)(xs:List Int):Bool:=dP W&&(dP H&&(decide ((xs.length:Int)=W*H)&&dk xs))
def aaB(h:k<xs.length):xs.drop k=xs[k]?.getD 0::xs.drop (k+1):=eN
def NM(xs:List Int)(k:Nat)(h:k<xs.length):dk (xs.drop k)=(wG (xs[k]?.getD 0)&&dk (xs.drop (k+1))):=by rw[aaB h];rfl
def pY(h:dk xs=AT)(k:Nat)(hk:k<xs.length):0<=xs[k]?.getD 0/\xs[k]?.getD 0<=255:=by exact Lt
def jU(h:bV W H xs=AT):(8<=W/\W<=32/\W%8=0)/\(8<=H/\H<=32/\H%8=0)/\(xs.length:Int)=W*H/\dk xs=AT:=by unfold bV dP at h;simp only[Uy,decide_eq_true_eq] at h;exact h
def Fs(h1:8<=W)(d:W<=32)(e:8<=H)(h:H<=32):64<=W*H/\W*H<=1024:=by have a:=Int.mul_le_mul h1 e aa aa;have b:=Int.mul_le_mul d h aa aa;omega
def Qf{n:Int}(h:Hid (wG n=t)):
  ahR Gz.prog 44 #[U O n] w λe w'=>e=dl (ci t)/\w=w':=Mb w h
def kH{n:Int}(h:Hid (dP n=t)):
  ahR Gz.prog 20 #[U O n] w λe w'=>e=dl (ci t)/\w=w':=by
 obtain rfl:=h.out;unfold dP;exact JQ
def Zq{c:Nat}(r:Rd w B A xs)(hn:Hid (xs.length=n))(hm:n<=9223372036854775807)(q:Hid (dk xs=t)):
  ahR Gz.prog 21 #[Y A n c] w λe w'=>e=dl (ci t)/\w=w':=by
 have s:=ag r;go_enter Gz.gf func21,ntmps21;go_wp2;go_loop[7] (λi=>∃k:Nat,k<=n/\i=U O k/\Hid (dk xs=dk (xs.drop k))) (λi=>n-(intOf i).toNat)
 case atStart=>exact⟨0,ez _,rfl,rfl⟩
 case round=>
  obtain⟨k,u,rfl,hr⟩:=hrel;by_cases aV:k<n
  ·obtain⟨b,o,rfl,y,hc⟩:=s.out oq;have j:=hc k x7;have d:=NM xs k x7;generalize xs[k]?.getD 0=x at j d;have z:=ag hc;cases h:wG x
   ·rw[h] at d;have m:=ag h;have kc:=ag d;go_wp2;refine(Qf m.out).mono ?_;rintro e w'⟨rfl,rfl⟩;go_wp2;go_ret;exact⟨by rw[<-q.out,hr.out,kc.out];rfl,rfl⟩
   ·rw[h] at d;have m:=ag h;have kc:=ag d;go_wp2;refine(Qf m.out).mono ?_;rintro e w'⟨rfl,rfl⟩;exact JR
  ·have:k=n:=by omega
   subst this;go_wp2;go_ret;exact⟨by rw[<-q.out,hr.out,ajW (Nat.le_of_eq hn.out)];rfl,rfl⟩
def ya(c:Nat)(s:Rd w B A xs)(y:B<=w.heap.size)(u:Hid (xs.length=n))(hm:n<=9223372036854775807)(z:Hid (bV W H xs=t)):
  ahR Gz.prog 9 #[bi #[U O W,U O H,Y A n c]] w λe w'=>e=dl (ci t)/\Q w w':=by
 have q0:Q w (w.alloc (ap #[U O W,U O H,Y A n c] 28)):=aU;have C:=ag (s.alloc y (ap #[U O W,U O H,Y A n c] 28));have m:bV W H xs=(dP W&&(dP H&&(decide ((xs.length:Int)=W*H)&&dk xs))):=rfl;rw[u.out] at m;have HT:Hid (t=(dP W&&(dP H&&(decide ((n:Int)=W*H)&&dk xs)))):=by rw[Hid,<-z.out,m]
 clear s m;cases d:dP W
 ·have HW:=ag d;rw[d] at HT;clear d;go_enter Gz.gf func9,ntmps9;go_wp2;refine(kH HW.out).mono ?_;rintro e w'⟨rfl,rfl⟩;go_wp2;go_ret;exact⟨by rw[HT.out];rfl,q0⟩
 ·have b:=of_decide_eq_true d;have HW:=ag d;rw[d] at HT;clear d;cases h:dP H
  ·have HH:=ag h;rw[h] at HT;clear h b;exact JS
  ·have i:=of_decide_eq_true h;have HH:=ag h;rw[h] at HT;clear h;obtain⟨D,E⟩:=Fs b.1 b.2.1 i.1 i.2.1;clear b i;by_cases j:(n:Int)=W*H
   ·rw[decide_eq_true j] at HT;have q:((n:Int) !=W*H)=Ba:=by rw[bne_eq_false_iff_eq];exact j
    have r:Hid (dk xs=t):=by rw[HT.out];rfl
    clear j;go_enter Gz.gf func9,ntmps9;go_wp2;refine(kH HW.out).mono ?_;rintro e w'⟨rfl,rfl⟩;go_wp2;refine(kH HH.out).mono ?_;rintro e w'⟨rfl,rfl⟩;go_wp2;refine(Zq C.out u hm r).mono ?_;rintro e w'⟨rfl,rfl⟩;go_wp2;go_ret;exact⟨rfl,q0⟩
   ·rw[decide_eq_false j] at HT;have q:((n:Int) !=W*H)=AT:=by rw[bne_iff_ne];exact j
    clear j;exact JS
def pX{n:Int}(h:Hid (decide (lo<=n/\n<=hi)=t)):
  ahR Gz.prog 62 #[U O n,U O lo,U O hi] w λe w'=>e=dl (ci t)/\w=w':=cG w h
def JG(c:Nat)(K:Rd w B A xs)(M:B<=w.heap.size)(hn:Hid (xs.length=n))(hm:n<=9223372036854775807)(L:Hid (bV W H xs=t)):
  ahR Gz.prog 38 #[bi #[U O W,U O H,Y A n c]] w λe w'=>e=dl (ci t)/\Q w w':=by
 have q0:Q w (w.alloc (ap #[U O W,U O H,Y A n c] 28)):=aU;have N:=ag (K.alloc M (ap #[U O W,U O H,Y A n c] 28));have F:bV W H xs=(dP W&&(dP H&&(decide ((xs.length:Int)=W*H)&&dk xs))):=rfl;rw[hn.out] at F;have HT:Hid (t=(dP W&&(dP H&&(decide ((n:Int)=W*H)&&dk xs)))):=by rw[Hid,<-L.out,F]
 clear K F L;by_cases s:8<=W/\W<=32
 ·have HW:=ag (decide_eq_true s);by_cases u:8<=H/\H<=32
  ·have HH:=ag (decide_eq_true u);obtain⟨Z,a2⟩:=Fs s.1 s.2 u.1 u.2;obtain⟨R,T⟩:=s;obtain⟨h1,V⟩:=u;by_cases q:W%8=0
   ·have C:(W%8 !=0)=Ba:=by rw[bne_eq_false_iff_eq];exact q
    have d:dP W=AT:=decide_eq_true ⟨R,T,q⟩;rw[d] at HT;clear q d;by_cases r:H%8=0
    ·have D:(H%8 !=0)=Ba:=by rw[bne_eq_false_iff_eq];exact r
     have j:dP H=AT:=decide_eq_true ⟨h1,V,r⟩;rw[j] at HT;clear r j;by_cases y:(n:Int)=W*H
     ·rw[decide_eq_true y] at HT;have G:((n:Int) !=W*H)=Ba:=by rw[bne_eq_false_iff_eq];exact y
      have E:Hid (t=dk xs):=by rw[Hid,HT.out];rfl
      clear y HT;go_enter Gz.gf func38,ntmps38;go_wp2;(refine(pX HW.out).mono ?_;rintro e w'⟨rfl,rfl⟩);go_wp2;(refine(pX HH.out).mono ?_;rintro e w'⟨rfl,rfl⟩);go_wp2;go_loop[3] (λi=>∃k:Nat,k<=n/\i=U O k/\Hid (dk xs=dk (xs.drop k))) (λi=>n-(intOf i).toNat)
      case atStart=>exact⟨0,ez _,rfl,rfl⟩
      case round=>
       obtain⟨k,hk,rfl,hr⟩:=hrel;by_cases aV:k<n
       ·obtain⟨b,o,rfl,hb,hc⟩:=N.out oq;have I:=hc k x7;have m:=NM xs k x7;generalize xs[k]?.getD 0=x at I m;have HC:=ag hc;clear hc;cases z:wG x
        ·rw[z] at m;have J:Hid (decide (0<=x/\x<=255)=Ba):=z;have kc:=ag m;clear z m;go_wp2;(refine(pX J.out).mono ?_;rintro e w'⟨rfl,rfl⟩);go_wp2;go_ret;exact⟨by rw[E.out,hr.out,kc.out];rfl,q0⟩
        ·rw[z] at m;have J:Hid (decide (0<=x/\x<=255)=AT):=z;have kc:=ag m;clear z m;go_wp2;(refine(pX J.out).mono ?_;rintro e w'⟨rfl,rfl⟩);exact JR
       ·have:k=n:=by omega
        subst this;go_wp2;go_ret;exact⟨by rw[E.out,hr.out,ajW (Nat.le_of_eq hn.out)];rfl,q0⟩
     ·rw[decide_eq_false y] at HT;have G:((n:Int) !=W*H)=AT:=by rw[bne_iff_ne];exact y
      clear y;exact yV
    ·have D:(H%8 !=0)=AT:=by rw[bne_iff_ne];exact r
     have j:dP H=Ba:=decide_eq_false λh=>r h.2.2;rw[j] at HT;clear r j;exact yV
   ·have C:(W%8 !=0)=AT:=by rw[bne_iff_ne];exact q
    have d:dP W=Ba:=decide_eq_false λh=>q h.2.2;rw[d] at HT;clear q d;exact yV
  ·have HH:=ag (decide_eq_false u);have j:dP H=Ba:=decide_eq_false λh=>u ⟨h.1,h.2.1⟩;rw[j,akG,Bool.and_false] at HT;clear j u s;exact yV
 ·have HW:=ag (decide_eq_false s);have d:dP W=Ba:=decide_eq_false λh=>s ⟨h.1,h.2.1⟩;rw[d] at HT;clear d s;go_enter Gz.gf func38,ntmps38;go_wp2;(refine(pX HW.out).mono ?_;rintro e w'⟨rfl,rfl⟩);go_wp2;go_ret;exact⟨by rw[HT.out];rfl,q0⟩
end
section
open Go.RowKit
def XC(I:Bool)(q:Int)(v:AS){b d:Int}{v':AS}(h:Hid ((b==W&&d==H)=t)):
  ahR Gz.prog 55 #[bi #[U O W,U O H,ci I,U O q,v],bi #[U O b,U O d,v']] w λe w'=>e=dl (ci t)/\Q w w':=by
 obtain rfl:=h.out;go_enter Gz.gf func55,ntmps55;go_wp2;all_goals(go_ret;exact⟨by simp[*],aU⟩)
end
def bk(f:Nat->Int)(n:Nat):List Int:=(aij n).map f
def O5(f:Nat->Int)(n:Nat):bk f (n+1)=bk f n++[f n]:=by simp[bk,List.range_succ]
def D6:(bk f n).length=n:=by simp[bk]
def oI{i:Nat}(h:i<n):(bk f n)[i]?.getD 0=f i:=by simp[bk,h]
def Zr(g:Nat->Int)(n:Nat)(h:∀i,i<n->f i=g i):bk f n=bk g n:=by apply List.map_congr_left;intro i hi;exact h i (by simpa using hi)
def aaC(xs:List Int):bk (λi=>xs[i]?.getD 0) xs.length=xs:=by
 apply List.ext_getElem
 ·simp[bk]
 ·intro i h1 b;simp[bk,b]
def FO(y W h x:Nat)(b:y<h)(d:x<W):y*W+x<h*W:=by have:(y+1)*W<=h*W:=yZ _ b;rw[Nat.succ_mul] at this;omega
section
open Go.RowKit
section
variable{P:OF}{ops:Array ajq}{Q':Exit->Act->rl->Prop}{md:ajI}{S:rl->Prop}{X:Nat->Bool}
def gq(P:OF)(md:ajI)(ops:Array ajq)(Q':Exit->Act->rl->Prop)(S:rl->Prop)(X:Nat->Bool):Nat->Array Bool->Act->rl->Prop
 |0,listed,a,w=>aib md ops listed=[]/\Q' .normal a w
 |fuel+1,listed,a,w=>
  (aib md ops listed=[]->Q' .normal a w)/\
  ∀i∈aib md ops listed,wpOp P ops Q' i (λa' w'=>(X i=Ba->S w')/\gq P md ops Q' S X fuel (listed.setIfInBounds i AT) a' w') a w
def D7:∀(fuel:Nat)(listed:Array Bool)(a:Act)(w:rl),gq P md ops Q' S X fuel listed a w->wpAny P md ops Q' fuel listed a w
 |0,_,_,_,h=>h
 |fuel+1,_,_,_,h=>⟨h.1,λi hi=>wpOp_mono (λa' w' h'=>D7 fuel _ a' w' h'.2) (h.2 i hi)⟩
def W6{i:Nat}(hi:ops[i]?=an oi)(r:∀(j:Nat)(o:ajq) cs b,ops[j]?=an o->o.op≠.select cs b)
  (T:∀j,j<ops.size->X j=AT->Region.waitsFor md ops j i=AT)
  (V:∀c a w,Q' (.panic c) (a.put oi.dst v) w->Q' (.panic c) a w):
  ∀(fuel:Nat)(listed:Array Bool)(a:Act)(w:rl),
   (∀j s,ops[j]?=an s->j≠i->listed.getD j AT=Ba->(∀e∈s.after,ajA md e=AT->e.on≠i)->oi.apart ops s=AT)->
   i∈aib md ops listed->YieldsIf P ops S oi v a->S w->
   gq P md ops Q' S X fuel (listed.setIfInBounds i AT) (a.put oi.dst v) w->gq P md ops Q' S X (fuel+1) listed a w:=by
 intro fuel
 induction fuel with
 |zero=>
  intro listed a w _ u E hS H;refine⟨λh=>(by rw[h] at u;cases u),λj F=>?_⟩;by_cases d:j=i
  ·subst d;exact E.wpOp hi hS ⟨λ_=>hS,H⟩
  ·have h1:=ready_mono F d;rw[H.1] at h1;cases h1
 |succ fuel Z=>
  intro listed a w m u E hS H;refine⟨λh=>(by rw[h] at u;cases u),λj F=>?_⟩;by_cases d:j=i
  ·subst d;exact E.wpOp hi hS ⟨λ_=>hS,H⟩
  ·have h1:=H.2 j (ready_mono F d);obtain⟨y,s,q,z⟩:=mem_ready.1 F
   have C:∀e∈s.after,ajA md e=AT->e.on≠i:=λe he J K=>by
    have G:=z e he J;have h0:=(mem_ready.1 u).1;rw[K] at G;rcases cZ i listed.size with R|R
    ·simp_all
    ·simp[ajT R] at G
   have D:X j=Ba:=by
    cases hc:X j with
    |false=>rfl
    |true=>obtain⟨o',L,e,he,J,M⟩:=Region.waitsFor_spec (T j (bU.1 q).1 hc);obtain rfl:o'=s:=aH (L.symm.trans q);exact absurd M (C e he J)
   have G:=wpOp_putIf q (m j s q d y C) (λcs b=>r i oi cs b hi) (λcs b=>r j s cs b q) V E h1;refine wpOp_mono (λa' w' I=>⟨λ_=>I.2.1 D,Z (listed.setIfInBounds j AT) a' w' (λk ok hk N hun hn=>m k ok hk N ?_ hn) (ready_mono u (iY d)) I.1 (I.2.1 D) ?_⟩) G
   ·by_cases Q:j=k
    ·subst Q;exact y
    ·simp_all
   ·rw[Array.setIfInBounds_comm _ _ d];exact I.2.2
def Ss(md:ajI)(ops:Array ajq)(X:Nat->Bool)(i:Nat):Bool:=(aij ops.size).all λj=>!X j||Region.waitsFor md ops j i
def pS{i:Nat}(hi:l[i]?=an oi)
  (d:Region.noSelect l.toArray=AT)(e:Region.free md l.toArray listed i=AT)(hr:(aib md l.toArray listed).contains i=AT)(m:Ss md l.toArray X i=AT)
  (q:∀c a w,Q' (.panic c) (a.put oi.dst v) w->Q' (.panic c) a w)(r:YieldsIf P l.toArray S oi v a)(hS:S w)
  (h:gq P md l.toArray Q' S X fuel (listed.setIfInBounds i AT) (a.put oi.dst v) w):gq P md l.toArray Q' S X (fuel+1) listed a w:=
 have hi':l.toArray[i]?=an oi:=eN
 W6 hi' (Region.noSelect_spec d) (λj s b=>by have h1:=gW.1 m j (fM.2 s);simpa[b] using h1) q fuel listed a w (Region.free_spec hi' e) (by simpa using hr) r hS h
def ai(i:Nat){a':Act}(hS:S w:=by assumption)(hi:l[i]?=an oi:=by rfl)
  (b:(Region.noSelect l.toArray&&Region.free md l.toArray listed i&&(aib md l.toArray listed).contains i&&Ss md l.toArray X i)=AT:=by kernel_rfl)
  (e:∀c a w,Q' (.panic c) (a.put oi.dst v) w->Q' (.panic c) a w:=by exactλ_ _ _ h=>h)
  (j:YieldsIf P l.toArray S oi v a:=by exact Or.inl ⟨by rfl,by intro q d;(try dsimp only at d);go_split_ands;go_simp;try with_reducible rfl⟩)
  (m:a.put oi.dst v=a':=by first|(simp only[Act.put,List.setIfInBounds_toArray,List.set_cons_zero,List.set_cons_succ];done)|(simp only[Act.put,List.setIfInBounds_toArray,List.set_cons_zero,List.set_cons_succ];exact rfl)|exact rfl)
  (h:gq P md l.toArray Q' S X fuel (listed.setIfInBounds i AT) a' w):gq P md l.toArray Q' S X (fuel+1) listed a w:=by
 simp only[Uy] at b;subst m;exact pS hi b.1.1.1 b.1.1.2 b.1.2 b.2 e j hS h
def Ym(hr:aib md l.toArray listed=[k])(b:l[k]?=an o)
  (h:∀K:Act->rl->Prop,Shut (∀a' w',(X k=Ba->S w')->((X k=Ba->S w')->gq P md l.toArray Q' S X fuel (listed.setIfInBounds k AT) a' w')->K a' w')->
   if ahW o (yielded l.toArray a.tmps)=AT then Oper.wp P o a w K Q' else K (a.put o.dst undef) w):gq P md l.toArray Q' S X (fuel+1) listed a w:=
 ⟨λh0=>(by rw[hr] at h0;cases h0),λi hi=>by rw[hr] at hi;obtain rfl:i=k:=eN;exact wpOp_step (by simpa using b) λd hK=>h d λa' w' hS e=>hK a' w' ⟨hS,e hS⟩⟩
def bw(hr:aib md l.toArray listed=[k])(e:X k=Ba)(b:l[k]?=an o)
  (h:∀K:Act->rl->Prop,Shut (∀a' w',S w'->(S w'->gq P md l.toArray Q' S X fuel (listed.setIfInBounds k AT) a' w')->K a' w')->
   if ahW o (yielded l.toArray a.tmps)=AT then Oper.wp P o a w K Q' else K (a.put o.dst undef) w):gq P md l.toArray Q' S X (fuel+1) listed a w:=
 Ym hr b (λK hK=>h K λa' w' hS d=>hK.out a' w' (λ_=>hS) λ_=>d hS)
def Na{i j:Nat}{b:ajq}(hr:aib md l.toArray listed=[i,j])(m:X i=Ba)(q:X j=Ba)(hi:l[i]?=an oi)(r:l[j]?=an b)
  (h1:∀K:Act->rl->Prop,Shut (∀a' w',S w'->(S w'->gq P md l.toArray Q' S X fuel (listed.setIfInBounds i AT) a' w')->K a' w')->
   if ahW oi (yielded l.toArray a.tmps)=AT then Oper.wp P oi a w K Q' else K (a.put oi.dst undef) w)
  (s:∀K:Act->rl->Prop,Shut (∀a' w',S w'->(S w'->gq P md l.toArray Q' S X fuel (listed.setIfInBounds j AT) a' w')->K a' w')->
   if ahW b (yielded l.toArray a.tmps)=AT then Oper.wp P b a w K Q' else K (a.put b.dst undef) w):gq P md l.toArray Q' S X (fuel+1) listed a w:=
 ⟨λh0=>(by rw[hr] at h0;cases h0),λk d=>by
  rw[hr] at d;simp only[List.mem_cons,List.not_mem_nil,or_false] at d;rcases d with rfl|rfl
  ·exact wpOp_step (by simpa using hi) (λe hK=>h1 e λa' w' hS h=>hK a' w' ⟨λ_=>hS,h hS⟩)
  ·exact wpOp_step (by simpa using r) λe hK=>s e λa' w' hS h=>hK a' w' ⟨λ_=>hS,h hS⟩⟩
def kF{listed:Array Bool}{a:Act}{w:rl}(hr:aib md ops listed=[])(h:Q' .normal a w):∀fuel,gq P md ops Q' S X fuel listed a w
 |0=>⟨hr,h⟩
 |_+1=>⟨λ_=>h,by rw[hr];simp⟩
def tA(md:ajI)(ops:Array ajq)(X:Nat->Bool):List Nat->Array Bool->Bool
 |[],l=>(aib md ops l).isEmpty
 |k::b,l=>decide (aib md ops l=[k])&&X k&&tA md ops X b (l.setIfInBounds k AT)
def Nc:∀(d:List Nat)(n:Nat)(l:Array Bool)(a:Act)(w:rl),tA md ops X d l=AT->d.length<=n->
  aiB P ops Q' (d.filterMap (ops[·]?)) a w->gq P md ops Q' S X n l a w
 |[],0,l,a,w,b,_,h=>⟨by simpa[tA] using b,h⟩
 |[],n+1,l,a,w,b,_,h=>kF (by simpa[tA] using b) h _
 |k::d,n+1,l,a,w,b,j,h=>by
  simp only[tA,Uy,decide_eq_true_eq] at b;obtain⟨⟨hr,m⟩,b⟩:=b;have q:k∈aib md ops l:=uC;obtain⟨_,o,e,_⟩:=mem_ready.1 q;rw[List.filterMap_cons,e] at h;refine⟨λh1=>(by rw[hr] at h1;cases h1),λi hi=>?_⟩;rw[hr] at hi;obtain rfl:i=k:=by simpa using hi
  have hw:wpOp P ops Q' i (aiB P ops Q' (d.filterMap (ops[·]?))) a w:=by unfold wpOp;simp only[e];exact h
  exact wpOp_mono (λr w' s=>⟨λh0=>(by rw[m] at h0;cases h0),Nc d n _ r w' b (by simp at j;omega) s⟩) hw
def gi(b:List Nat)(m:Nat){t:Array Bool}(d:tA md l.toArray X b t=AT)(e:b.length<=n)(hr:b.filterMap (l[·]?)=l.drop m)
  (h:aiB P l.toArray Q' (l.drop m) a w):gq P md l.toArray Q' S X n t a w:=
 Nc b n t a w d e (by
  rw[<-hr] at h;simpa using h)
def eo{id:Nat}(S:rl->Prop)(X:Nat->Bool)(hm:P.follows .mixedOrders=AT)(hS:S w.drew)
  (h:S w.drew->gq P .any l.toArray Q' S X l.toArray.size (Array.replicate l.toArray.size Ba) a w.drew):(Code.region id l.toArray AT).wp P Q' a w:=
 wp_region_any hm (D7 _ _ _ _ (h hS))
end
end
section
open Go.RowKit
def arr(xs:List Int):Array AS:=(xs.map (Value.int .i64)).toArray
def bP(xs:List Int):(arr xs).size=xs.length:=by simp[arr]
def nE(xs:List Int)(k:Nat)(h:k<xs.length):(arr xs)[k]?=an (U O (xs[k]?.getD 0)):=by simp[arr,h]
def Qg(xs:List Int)(k:Nat)(y:Int):(arr xs).setIfInBounds k (U O y)=arr (xs.set k y):=by simp[arr,List.map_set]
def Ft(xs:List Int):(arr xs).all (·.oneCell')=AT:=by rw[Array.all_eq_true_iff_forall_mem];intro v b;simp only[arr,List.mem_toArray,List.mem_map] at b;obtain⟨x,_,rfl⟩:=b;rfl
structure Bl(w:rl)(g:Nat)(xs:List Int):Prop where
 blk:ak w g 97 (arr xs)
 len:xs.length=16
def lD:(Gz.prog.info? 97).map (·.size)=an 16:=aF
section
variable{w w':rl}{g:Nat}{xs ys:List Int}
def Bl.q(h:Bl w g xs)(hq:Q w w'):Bl w' g xs:=⟨h.blk.q hq,h.len⟩
def Bl.at(h:Bl w g xs)(k:Nat)(b:k<16):w.cell? ⟨g,k,ns⟩=an (U O (xs[k]?.getD 0)):=(h.blk.cell k).trans (nE _ _ (by rw[h.len];exact b))
def Bl.free(h:Bl w g xs)(k:Nat):w.frozen? ⟨g,k,ns⟩=Ba:=h.blk.free k
def Bl.set(h:Bl w g xs)(k:Nat)(y:Int):Bl (w.setCell ⟨g,k,ns⟩ (U O y)) g (xs.set k y):=⟨by rw[<-Qg];exact h.blk.set k _,by rw[List.length_set];exact h.len⟩
def Bl.aL(h:Bl w g xs)(b:g≠p.block)(u:AS):Bl (w.setCell p u) g xs:=⟨h.blk.aL b u,h.len⟩
def Bl.grown(h:Bl w g xs)(b:w.grownBy w' row)(d:an g≠row):Bl w' g xs:=⟨h.blk.grown b d,h.len⟩
def Bl.alloc(h:Bl w g xs)(o:Obj):Bl (w.alloc o) g xs:=h.q ((Q.refl w).alloc o)
def Bl.drew(h:Bl w g xs):Bl w.drew g xs:=h.q ((Q.refl w).drew)
def Bl.new(w:rl)(xs:List Int)(h:xs.length=16):Bl (w.alloc (ap (arr xs) 97)) w.heap.size xs:=⟨ak.new w _ _,h⟩
def Bl.zero(w:rl):Bl (w.alloc (ap (arr (so 16 0)) 97)) w.heap.size (so 16 0):=Bl.new w _ rfl
def Bl.lt(h:Bl w g xs):g<w.heap.size:=h.blk.lt
def W7(h:Bl w g xs):(ajk 97 (d9 (an ⟨g,0,ns⟩))).run Gz.prog w=.ok (bi (arr xs)) w:=by have:=run_loadVar_row w g 97 97 (arr xs) (0,0) _ h.blk (Gz.gu underlying97) rfl C1;simp only[ajk,Instr.sureAddr,aih,ajm,aiz,this]
variable{ops:Array ajq}{rest:List ajq}{o:ajq}{a:Act}{Q':Exit->Act->rl->Prop}
def eY(b:o.guard=ns)(d:o.op=.load 97 x){g:Nat}(e:a.eval x=d9 (an ⟨g,0,ns⟩)){xs:List Int}(h:Bl w g xs)
  (hK:aiB Gz.prog ops Q' rest (a.put o.dst (bi (arr xs))) w):aiB Gz.prog ops Q' (o::rest) a w:=
 wpList_load_row b _ x d g e 97 (arr xs) (0,0) _ h.blk (Gz.gu underlying97) rfl C1 hK
def eU(hw:ahW o (yielded ops a.tmps)=AT)(d:o.op=.load 97 x){g:Nat}(e:a.eval x=d9 (an ⟨g,0,ns⟩)){xs:List Int}(h:Bl w g xs)
  (hK:aiB Gz.prog ops Q' rest (a.put o.dst (bi (arr xs))) w):aiB Gz.prog ops Q' (o::rest) a w:=
 wpList_step λ_ b=>by rw[if_pos hw];exact wp_load_row _ x d g e 97 (arr xs) (0,0) _ h.blk (Gz.gu underlying97) rfl C1 (b _ _ hK)
def yb{S:rl->Prop}(hw:ahW o (yielded ops a.tmps)=AT)(d:o.op=.load 97 x){g:Nat}(e:a.eval x=d9 (an ⟨g,0,ns⟩)){xs:List Int}(hS:∀w,S w->Bl w g xs):
  YieldsIf Gz.prog ops S o (bi (arr xs)) a:=
 .inl ⟨hw,λw b=>by unfold execOp;simp only[d,e,W7 (hS w b),aih,ajm,aiz]⟩
def Wx(h:Bl w g xs)(b:ys.length=16):∃w',(Instr.storeAt 97 (d9 (an ⟨g,0,ns⟩)) (bi (arr ys))).run Gz.prog w=.ok () w'/\Bl w' g ys/\w.grownBy w' (an g)/\w'.heap.size=w.heap.size:=by
 have hi:(Gz.prog.info? 97).map (·.size)=an (arr ys).size:=by rw[bP,b];exact lD
 have:=run_storeVar_row (P:=Gz.prog) w g 97 97 (arr xs) (arr ys) h.blk hi (by rw[bP,bP,h.len,b]) (Ft ys);refine⟨_,by simp only[Instr.storeAt,Instr.sureAddr,aih,ajm,aiz];exact this,⟨?_,b⟩,?_,?_⟩
 ·have d:=h.blk;unfold ak at d⊢;simp[World.setRow,Array.getElem?_modify,d]
 ·exact C8
 ·simp
def iG(b:o.guard=ns)(x y:aiD)(e:o.op=.store 97 x y)(g:Nat)(i:a.eval x=d9 (an ⟨g,0,ns⟩))(xs ys:List Int)(j:a.eval y=bi (arr ys))(m:ys.length=16)(h:Bl w g xs)
  (hK:∀w',Bl w' g ys->w.grownBy w' (an g)->w'.heap.size=w.heap.size->aiB Gz.prog ops Q' rest (a.put o.dst undef) w'):aiB Gz.prog ops Q' (o::rest) a w:=by
 obtain⟨w',q,r,s,u⟩:=Wx h m;refine wpList_plain b λK d=>?_;unfold Oper.wp execOp;simp only[e,i,j,q,aih,ajm,aiz];exact d _ _ (hK w' r s u)
end
def rX(xs:List Int)(e:xs.length=16)(h:k<16)(w:rl):(akH 97 (bi (arr xs)) (U O (k:Int))).run Gz.prog w=.ok (U O (xs[k]?.getD 0)) w:=by have h1:(0<=(k:Int)/\(k:Int)<((16:Nat):Int)):=aa;have b:=nE xs k aa;have d:¬16<=k:=aa;simp[akH,run_underlying (Gz.gu underlying97),asIntOf,h1,go_sem,part,b,d]
def aW(xs:List Int)(M:Int):Bool:=xs.all λy=>decide (-M<=y/\y<=M)
def O7(xs:List Int)(M:Int)(k:Nat)(h:k<xs.length):aW (xs.drop k) M=(decide (-M<=xs[k]?.getD 0/\xs[k]?.getD 0<=M)&&aW (xs.drop (k+1)) M):=by unfold aW;rw[List.drop_eq_getElem_cons h,List.all_cons,List.getElem?_eq_getElem h];rfl
def nz{M:Int}(h:aW xs M=AT)(k:Nat)(hk:k<xs.length): -M<=xs[k]?.getD 0/\xs[k]?.getD 0<=M:=by exact Lt
def zr{M:Int}(j:xs.length=16)(C:0<=M)(s:M<=100000)(m:Hid (aW xs M=t)):
  ahR Gz.prog 152 #[bi (arr xs),U O M] w λe w'=>e=dl (ci t)/\Q w w':=by
 have D:=Bl.new w xs j;have q:Q w (w.alloc (ap (arr xs) 97)):=aU;go_enter Gz.gf func152,ntmps152;go_wp2_with(first|refine eY rfl rfl rfl aE ?_|refine eU aC rfl rfl aE ?_);go_loop[8] (λi=>∃k:Nat,k<=16/\i=U O k/\Hid (aW xs M=aW (xs.drop k) M)) (λi=>16-(intOf i).toNat)
 case atStart=>exact⟨0,aa,rfl,rfl⟩
 case round=>
  obtain⟨k,E,rfl,hr⟩:=hrel;by_cases r:k<16
  ·have d:(k:Int)<16:=by omega
   have he:=λw=>rX xs j r w;have b:=O7 xs M k aa;generalize xs[k]?.getD 0=y at he b;by_cases u:y< -M
   ·rw[decide_eq_false λh=>aa,akG] at b;have kc:=ag b;clear b;go_wp2;go_ret;exact⟨by rw[<-m.out,hr.out,kc.out];rfl,q⟩
   ·by_cases z:M<y
    ·rw[decide_eq_false λh=>aa,akG] at b;have kc:=ag b;go_wp2;go_ret;exact⟨by rw[<-m.out,hr.out,kc.out];rfl,q⟩
    ·rw[decide_eq_true aa,Bool.true_and] at b;have kc:=ag b;exact C9
  ·have d:k=16:=by omega
   subst d;go_wp2;go_ret;exact⟨by rw[<-m.out,hr.out,ajW (Nat.le_of_eq j)];rfl,q⟩
end
section
open Go.RowKit
def dM(w:rl)(lo hi:Nat)(v:AS)(n:Nat)(xs:List Int):Prop:=Own w lo v n xs/\∀k,v.ownBlock=an k->k<hi
section
variable{w w':rl}{lo hi i9 hi' n n' g:Nat}{v v':AS}{A:Option aic}{c:Nat}{xs ys:List Int}{t:SL}{cs:Array AS}
def Own.i(h:Own w lo v n xs):dM w lo w.heap.size v n xs:=⟨h,λk b=>(h.2.lt k b).2⟩
def dM.nil(w:rl)(lo hi:Nat):dM w lo hi (Y ns 0 0) 0 []:=⟨Own.nil _ _,λk b=>by simp[Value.ownBlock] at b⟩
def dM.q(h:dM w lo hi v n xs)(hq:Q w w'):dM w' lo hi v n xs:=⟨h.1.q hq,h.2⟩
def dM.rd(h:dM w lo hi (Y A n c) n xs):Rd w w.heap.size A xs:=h.1.rd
def dM.len(h:dM w lo hi v n xs):xs.length=n:=h.1.1
def dM.form(h:dM w lo hi v n xs):∃A c,v=Y A n c:=h.1.form
def dM.other(h:dM w lo hi v n xs)(h':dM w i9 hi' v' n' ys)(d:w.grownBy w' v'.ownBlock)(hd:hi<=i9\/hi'<=lo):dM w' lo hi v n xs:=by
 refine⟨h.1.other d ?_,h.2⟩;cases b:v.ownBlock with
 |none=>exact .inl rfl
 |some k=>refine .inr λe=>?_;have h1:=(h.1.2.lt k b).1;have i:=h.2 k b;have j:=(h'.1.2.lt k e.symm).1;have m:=h'.2 k e.symm;omega
def ak.mark(h:ak w g t cs)(h':dM w i9 hi' v' n' ys)(b:w.grownBy w' v'.ownBlock)(hd:g<i9\/hi'<=g):ak w' g t cs:=
 h.grown b (λe=>by have d:=(h'.1.2.lt g e.symm).1;have i:=h'.2 g e.symm;omega)
def Rd.mark{B:Nat}(h:Rd w B A xs)(h':dM w i9 hi' v' n' ys)(b:w.grownBy w' v'.ownBlock)(d:B<=w.heap.size)(hd:B<=i9):Rd w' B A xs:=
 h.grown b d (λg e=>by have i:=(h'.1.2.lt g e).1;omega)
def Q.mark{a:rl}(h:Q a w)(h':dM w i9 hi' v' n' ys)(b:w.grownBy w' v'.ownBlock)(hd:a.heap.size<=i9):Q a w':=h'.1.Sr h hd b
def dM.marked(h':dM w i9 hi' v' n' ys){b:List Int}(o:Own w' i9 v' n' b):dM w' i9 hi' v' n' b:=⟨o,h'.2⟩
end
end
end Go.Proofs.Q0
