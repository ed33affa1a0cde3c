import Derived.Test.YtfmnlpedhgficaaGreatDoorProg
import Derived.Calls
import Derived.Laws.Sem
import Derived.RunT
import Derived.Room.Entries
import Derived.WalkKit
import Derived.WalkSpells
import Derived.WalkLawsBesides
import Derived.Lib.Hide
import Derived.Deep.QuietTactic
import Derived.BigQuiet
import Derived.ChangeSame
import Derived.OpenShut
import Derived.Maps.AppendAt
import Derived.Deep.AppendLies
import Derived.Deep.RegionHeld3
import Derived.StillTail
import Derived.Deep.MidRow
import Derived.Deep.WholeRow
set_option maxRecDepth 100000
set_option maxHeartbeats 8000000
set_option linter.all false
open Go.Value renaming int->U,slice->Y,bool->a5,agg->a9,pointer->bi,tuple->ci,iface->em
open Go.IntKind renaming i64->O
open Go.Obj renaming cells->ac
open Go.Ending renaming returned->be
open Array renaming getElem?_eq_none->alj
open Bool renaming and_eq_true->aft,false->Bz,false_and->alX,true->AT
open Go renaming Addr->ajF,Calls->aiK,Code->akA,FuncId->alo,Oper->akG,Operand->ajR,Program->NO,TypeId->TO,Value->so,World->AS,underlying->ajV,wpList->ajU,zeroValue->akY
open Go.Instr renaming index->alY,loadAt->akB
open Go.Region renaming Mode->akZ,binds->akQ,ready->ajw,wanted->ajr
open Go.Result renaming andThen_ok->ajS
open Go.Sem renaming run->akm,run_bind->ajy,run_pure->akD
open List renaming drop_of_length_le->aln,range->ajv,replicate->rl
open Option renaming none->ns,some->an
namespace Go.Proofs
abbrev oK:=@Go.Room.Sem.runT_bind
def Me{p:Prop}(h:p:=by have ih:P.two.alikeButTags P.two.depth=P.alikeButTags P.depth:=funext λt=>funext λo=>OE P _ t o;rw[ih];rfl):p:=h
def aE{p:Prop}(h:p:=by rfl):p:=h
abbrev bE:=@Array.getElem?_eq_some_iff
def aD{p:Prop}(h:p:=by rfl):p:=h
abbrev pM:=@Go.Sem.runT_fst
abbrev hU:=@List.all_eq_true
abbrev fR:=@List.mem_range
def aa{p:Prop}(h:p:=by omega):p:=h
def aj{p:Prop}(h:p:=by simp):p:=h
abbrev dg:=@Nat.lt_or_ge
abbrev jh:=@Go.RowKit.Below.heap_setCell
abbrev oM:=@Go.World.cell?_of_block
abbrev vw:=@Go.World.ownsRow_nil
abbrev dk:=@Nat.zero_le
def Dj{p:Prop}(h:p:=by
  rcases h.2.2 with⟨h',hn⟩|⟨g,cap,cur,h',_⟩
  ·simp_all
  ·simp_all):p:=h
def Dk{p:Prop}(h:p:=by
  rcases h.2.2 with h'|⟨g,cap,cur,h',hB,hg,hn,hm,_⟩
  ·simp_all
  ·grind):p:=h
def DN{p:Prop}(h:p:=by
  rcases h.dE with⟨_,h'⟩|⟨_,_,_,_,_,h1,h2⟩
  ·omega
  ·omega):p:=h
def CS{p:Prop}(h:p:=by cases v.ownBlock<;>simp):p:=h
def aG{p:Prop}(h:p:=by assumption):p:=h
def Kk{p:Prop}(h:p:=by have:=World.ownsRow.cellAt h.2 k aa;rw[this];have:=h.1;simp[show k<xs.length by omega]):p:=h
def Kl{p:Prop}(h:p:=by refine⟨by rw[List.length_set];exact h.1,?_⟩;rw[List.map_set];exact(World.ownsRow.stored h.2 k _).1):p:=h
def Dl{p:Prop}(h:p:=by
  obtain⟨h0,h1,h2⟩:=h;refine⟨h0,h1,?_⟩;rcases h2 with h2|⟨g,cap,cur,hv,hg,r⟩
  ·simp_all
  ·exact .inr ⟨g,cap,cur,hv,aa,r⟩):p:=h
def Km{p:Prop}(h:p:=by refine .inr λe=>?_;have h1:=(h.2.lt k hv).2;have h2:=(h'.2.lt k e.symm).1;omega):p:=h
abbrev aI:=@Nat.le_trans
def af{p:Prop}(h:p):Go.RowKit.Hid p:=Go.Lib.hid h
def oH{p:Prop}(h:p:=by rw[e]):p:=h
def eY{p:Prop}(h:p:=by simp_all):p:=h
def al{p:Prop}(h:p:=by decide):p:=h
def kT{p:Prop}(h:p:=by unfold maxLen;omega):p:=h
abbrev av:=@Nat.le_refl
def zm{p:Prop}(h:p:=by go_wp2;all_goals(go_ret;exact⟨by simp[*],rfl⟩)):p:=h
def Mf{p:Prop}(h:p:=by
  have hm:=Int.emod_nonneg n (show d≠0 by omega);have hl:=Int.emod_lt_of_pos n hd;rw[Int.tdiv_eq_ediv,Int.tmod_eq_emod];by_cases h:0<=n\/d∣n
  ·simp_all
  ·grind):p:=h
def Mg{p:Prop}(h:p:=by have b1:n.tdiv d<=1000000000001:=aa;have H:=af he;go_enter Gz.gf func69,ntmps69;go_wp2;go_ret;exact⟨by rw[<-H.out];rfl,rfl⟩):p:=h
abbrev sf:=@List.getElem_mem
def Mh{p:Prop}(h:p:=by have:=hU.1 h (xs[k]?.getD 0) (by rw[List.getElem?_eq_getElem hk];exact sf hk);exact of_decide_eq_true this):p:=h
def Kn{p:Prop}(h:p:=by
  clear h;by_cases h1:8<=n
  ·by_cases h2:n<=32
   ·by_cases h3:n%8=0
    ·have h4:(n%8==0)=true:=by simp[h3]
     have h5:decide (8<=n/\n<=32/\n%8=0)=true:=decide_eq_true ⟨h1,h2,h3⟩;rw[h5];clear h5;go_enter Gz.gf func80,ntmps80;go_wp2;go_ret;exact⟨by simp[*],rfl⟩
    ·have h4:(n%8==0)=false:=by simp[h3]
     have h5:decide (8<=n/\n<=32/\n%8=0)=false:=decide_eq_false aa;rw[h5];clear h5 h3;go_enter Gz.gf func80,ntmps80;go_wp2;go_ret;exact⟨by simp[*],rfl⟩
   ·have h4:decide (n<=32)=false:=by simp;omega
    have h5:decide (8<=n/\n<=32/\n%8=0)=false:=decide_eq_false aa;clear h5 h2;go_enter Gz.gf func80,ntmps80;go_wp2;all_goals(go_ret;exact⟨by simp[*],rfl⟩)
  ·have h4:decide (8<=n)=false:=by simp;omega
   have h5:decide (8<=n/\n<=32/\n%8=0)=false:=decide_eq_false aa;rw[h5];clear h5 h1;go_enter Gz.gf func80,ntmps80;go_wp2;all_goals(go_ret;exact⟨by simp[*],rfl⟩)):p:=h
def oI{p:Prop}(h:p:=by rw[hn.out];omega):p:=h
def yx{p:Prop}(h:p:=by rw[hn.out];exact aV):p:=h
def aF{p:Prop}(h:p:=by go_num):p:=h
def Ko{p:Prop}(h:p:=by
  go_wp2;go_round;case rel=>exact⟨k+1,aa,aF,by rw[Hid,hr.out,jt.out];rfl⟩
  case measure=>simp[intOf];omega):p:=h
def aU{p:Prop}(h:p:=by repeat(first|exact Q.refl _|assumption|refine Q.drewN ?_ _|refine Q.drew ?_|refine Q.alloc ?_ _|refine Q.trans ?_ (by assumption)|refine Q.set ?_ (by first|exact Nat.le_refl _|omega|(simp;done)|(simp;omega)) _)):p:=h
def Mi{p:Prop}(h:p:=by go_enter Gz.gf func56,ntmps56;go_wp2;refine(kW HW.out).mono ?_;rintro e w'⟨rfl,rfl⟩;go_wp2;refine(kW HH.out).mono ?_;rintro e w'⟨rfl,rfl⟩;go_wp2;go_ret;exact⟨by rw[HT.out];rfl,q0⟩):p:=h
def zd{p:Prop}(h:p:=by go_enter Gz.gf func44,ntmps44;go_wp2;(refine(pY HW.out).mono ?_;rintro e w'⟨rfl,rfl⟩);go_wp2;(refine(pY HH.out).mono ?_;rintro e w'⟨rfl,rfl⟩);go_wp2;go_ret;exact⟨by rw[HT.out];rfl,q0⟩):p:=h
abbrev pN:=@Nat.mul_le_mul_right
abbrev aJ:=@Option.some.inj
abbrev jG:=@Ne.symm
def uR{p:Prop}(h:p:=by rw[hr];simp):p:=h
def De{p:Prop}(h:p:=by rw[bQ,h.len];exact nI):p:=h
def Dm{p:Prop}(h:p:=by refine⟨rfl,rfl,rfl,by simp[World.setRow],λk hk g0=>?_⟩;simp only[World.setRow,Array.getElem?_modify];rw[if_neg λe=>g0 oH]):p:=h
def Dn{p:Prop}(h:p:=by
  go_wp2;go_round;case rel=>exact⟨k+1,aa,aF,by rw[Hid,hr.out,jt.out]⟩
  case measure=>simp[intOf];omega):p:=h
end Go.Proofs
namespace Go.Proofs.Q0.Open
def _root_.Go.Code.sl:akA->akA|.seq a _=>a|c=>c
def _root_.Go.Code.sr:akA->akA|.seq _ b=>b|c=>c
def _root_.Go.Code.sin:akA->akA|.block _ b=>b|.loop b=>b|c=>c
def _root_.Go.Code.od:akA->Array akG|.region _ a _=>a|_=>#[]
noncomputable def l7:akA:=Tryz.f53.body.getD .skip
noncomputable def iG:akA:=l7.sr.sr
noncomputable def fh:Array akG:=iG.sl.od
noncomputable def Ht:Array akG:=iG.sr.sl.od
noncomputable def tC:akA:=iG.sr.sr.sl
noncomputable def gS:Array akG:=iG.sr.sr.sr.sl.od
noncomputable def dB:akA:=iG.sr.sr.sr.sr
noncomputable def Hu:Array akG:=tC.sl.od
noncomputable def jN:akA:=tC.sr.sin.sin
noncomputable def BI:Array akG:=jN.sl.od
noncomputable def tF:Array akG:=jN.sr.sr.sl.sin.sl.od
noncomputable def qJ:Array akG:=jN.sr.sr.sl.sin.sr.sl.od
noncomputable def po:Array akG:=jN.sr.sr.sl.sin.sr.sr.od
noncomputable def qv:Array akG:=jN.sr.sr.sr.od
end Go.Proofs.Q0.Open
namespace Go.Proofs.Q0.aL
variable{α:Type}
section
class ag where
 ok:alo->Prop
 fv:alo->Prop
 gl:Nat->Prop
 cd:alo->akA->Prop
 fs:Array Func
 lv:alo->Nat->Prop
 dM:akA->akA->Prop
 home:alo
 cl:Nat->Prop
 np:TO->Prop
 hd:TO->Prop
 jk:so->Prop
variable[ag]
def _root_.Go.Program.two(P:NO):NO:={P with funcs:=ag.fs}
def lh:Halt->Prop
 |.panic _|.stuck _=>True
 |.unsupported (.initOrder _)=>False
 |.unsupported _=>True
 |_=>False
section
variable{P:NO}
def Looks(P:NO){α:Type}(s:Sem α):Prop:=(∃a,∀w es,s.runT P w es=(.ok a w,es)/\s.runT P.two w es=(.ok a w,es))\/∃x,lh x/\∀w es,s.runT P w es=(.halt x w,es)/\s.runT P.two w es=(.halt x w,es)
def Looks.ask{f:NO->Sem α}(h:Looks P (f P))(e:f P.two=f P:=by rfl):Looks P (program>>=f):=by
 rcases h with⟨a,h⟩|⟨x,b,h⟩
 ·exact .inl ⟨a,λw es=>⟨(h w es).1,show(f P.two).runT P.two w es=_ by rw[e];exact(h w es).2⟩⟩
 ·exact .inr ⟨x,b,λw es=>⟨(h w es).1,show(f P.two).runT P.two w es=_ by rw[e];exact(h w es).2⟩⟩
def Looks.ret(a:α):Looks P (pure a:Sem α):=.inl ⟨a,λ_ _=>⟨rfl,rfl⟩⟩
def Looks.stuck(a:String):Looks P (stuck a:Sem α):=.inr ⟨.stuck a,trivial,λ_ _=>⟨rfl,rfl⟩⟩
def Looks.unsupported(u:Unsupported)(hu:lh (.unsupported u):=by trivial):Looks P (unsupported u:Sem α):=.inr ⟨.unsupported u,hu,λ_ _=>⟨rfl,rfl⟩⟩
def Looks.bind{β:Type}{s:Sem α}{f:α->Sem β}(h:Looks P s)(c:∀a,Looks P (f a)):Looks P (s>>=f):=by
 rcases h with⟨a,h⟩|⟨x,d,h⟩
 ·rcases c a with⟨b,k⟩|⟨y,e,k⟩
  ·exact .inl ⟨b,λw es=>⟨by have:=oK P s f w es;rw[(h _ _).1] at this;exact this.trans (k w es).1,by have:=oK P.two s f w es;rw[(h _ _).2] at this;exact this.trans (k w es).2⟩⟩
  ·exact .inr ⟨y,e,λw es=>⟨by have:=oK P s f w es;rw[(h _ _).1] at this;exact this.trans (k w es).1,by have:=oK P.two s f w es;rw[(h _ _).2] at this;exact this.trans (k w es).2⟩⟩
 ·exact .inr ⟨x,d,λw es=>⟨by have:=oK P s f w es;rw[(h _ _).1] at this;exact this,by have:=oK P.two s f w es;rw[(h _ _).2] at this;exact this⟩⟩
def rZ(t:TO):Looks P (ajV t):=by refine Looks.ask ?_;cases P.underlying t with|none=>exact .stuck _|some d=>exact .ret d
def se(t:TO):Looks P (typeInfo t):=by refine Looks.ask ?_;cases P.info? t with|none=>exact .stuck _|some d=>exact .ret d
def zx(t:TO):Looks P (sizeOf t):=(se t).bind λ_=>.ret _
def Nw(t:TO):Looks P (isAgg t):=(rZ t).bind λd=>by cases d<;>exact .ret _
def Xj(t:TO):Looks P (akY t):=(se t).bind λd=>by cases d.zero with|none=>exact .unsupported _|some v=>exact .ret v
def OE(P:NO):∀(d:Nat)(t u:TO),P.two.alikeButTags d t u=P.alikeButTags d t u
 |0,_,_=>rfl
 |d+1,t,u=>by unfold Program.alikeButTags;have a:P.two.alikeButTags d=P.alikeButTags d:=funext λt=>funext λo=>OE P d t o;rw[a];rfl
def Dp{P:NO}(t:TO):P.two.stoodInHeld t=P.stoodInHeld t:=by
 have:P.two.stoodInAs t=P.stoodInAs t:=by unfold Program.stoodInAs;exact Me
 unfold Program.stoodInHeld;rw[this];rfl
def Dq(P:NO):∀(d:Nat)(t:TO),P.two.eqGuardType d t=P.eqGuardType d t
 |0,_=>rfl
 |d+1,t=>by unfold Program.eqGuardType;have a:P.two.eqGuardType d=P.eqGuardType d:=funext λt=>Dq P d t;rw[a];rfl
end
end
end Go.Proofs.Q0.aL
namespace Go.Proofs
variable{n:Nat}
section
open Go.Proofs.Q0.Open Go.Proofs.Q0
namespace Q0.Open
def aP(d:Option Nat)(t:TO)(o:Op):akG:={dst:=d,op:=o,type:=t,pos:= "",after:=#[],guard:=ns}
def ey(n:Int):ajR:=.const (U O n)
def gA:Array akG:=#[
 aP (an 13) 44 (.load 44 (.tmp 1)),aP (an 15) 34 (.field 44 (.tmp 13) 4),
 aP (an 20) 3 (.field 44 (.tmp 13) 0),aP (an 21) 3 (.binOp .quo 3 (.tmp 20) (ey 8) 3),
 aP (an 20) 3 (.field 44 (.tmp 13) 1),aP (an 5) 3 (.binOp .quo 3 (.tmp 20) (ey 8) 3),
 aP (an 20) 3 (.field 44 (.tmp 13) 3),aP (an 5) 3 (.binOp .quo 3 (.tmp 20) (ey 8) 3),
 aP (an 24) 4 (.field 44 (.tmp 13) 2),aP (an 5) 4 (.unOp .not 4 (.tmp 24)),
 aP (an 16) 3 (.call {callee:=.builtin .len,args:=#[.tmp 15],argTypes:=#[34]}),
 aP (an 25) 4 (.binOp .lss 3 (.tmp 16) (ey 5) 3),aP (an 5) 4 (.binOp .lss 3 (ey 0) (.tmp 16) 3),aP (an 22) 3 (.move (ey 0)),
 aP (an 17) 153 (.load 153 (.global 2)),aP (an 18) 240 (.typeAssert (.tmp 17) 153 240 Bz),
 aP (an 19) 153 (.load 153 (.global 3)),aP (an 20) 240 (.typeAssert (.tmp 19) 153 240 Bz)]
def Tl:akA:=.block 987654 .skip
def ox:akA:=.seq (.region 60 #[aP (an 5) 3 (.binOp .add 3 (.const (.bool AT)) (ey 0) 3)] Bz) (.rangeFunc (.const .nilFunc) #[] Tl .skip)
def Cb:Array akG:=#[aP (an 25) 4 (.binOp .lss 3 (.tmp 22) (.tmp 16) 3)]
def Iy:Array akG:=#[aP (an 26) 0 (.indexAddr 34 (.tmp 15) (.tmp 22)),aP (an 27) 62 (.load 62 (.tmp 26)),aP (an 6) 3 (.call {callee:=.builtin .len,args:=#[.tmp 27],argTypes:=#[62]}),
 aP (an 5) 9 (.convert 62 9 (.tmp 27)),aP (an 17) 3 (.call {callee:=.builtin .len,args:=#[.tmp 5],argTypes:=#[9]}),aP (an 18) 4 (.binOp .eql 3 (.tmp 6) (.tmp 17) 3),
 aP (an 19) 3 (.binOp .add 3 (.tmp 6) (ey 0) 3),aP (an 14) 4 (.binOp .eql 3 (.tmp 19) (.tmp 6) 3),
 aP (an 28) 3 (.call {callee:=.builtin .cap,args:=#[.tmp 27],argTypes:=#[62]}),aP (an 20) 4 (.binOp .leq 3 (.tmp 6) (.tmp 28) 3),aP (an 5) 3 (.binOp .add 3 (.tmp 28) (ey 0) 3),aP (an 17) 4 (.binOp .eql 3 (.tmp 5) (.tmp 28) 3)]
def Iz:Array akG:=#[aP (an 19) 3 (.binOp .add 3 (.tmp 22) (ey 1) 3),aP (an 22) 3 (.move (.tmp 19))]
def gB:akA:=.seq (.region 62 Cb Bz) (.seq (.cond (.tmp 25) .skip (.exit 50)) (.seq (.region 63 Iy Bz) (.seq (.cond (.tmp 18) .skip ox) (.seq (.cond (.tmp 14) .skip ox) (.seq (.cond (.tmp 20) .skip ox) (.seq (.cond (.tmp 17) .skip ox) (.region 67 Iz Bz)))))))
def gM:Array akG:=#[aP (an 17) 78 (.makeSlice 78 (.tmp 16) (.tmp 16)),
 aP (an 18) 80 (.build 80 #[(0,.tmp 13),(1,.tmp 17)]),aP (an 4) 0 (.alloc 80),aP ns 0 (.store 80 (.tmp 4) (.tmp 18)),aP (an 22) 3 (.move (ey 0))]
def xq:Array akG:=#[aP (an 26) 0 (.indexAddr 34 (.tmp 15) (.tmp 22)),aP (an 27) 62 (.load 62 (.tmp 26)),
 aP (an 28) 0 (.call {callee:=.value (.func 75),args:=#[.tmp 27,.tmp 21,.tmp 24],argTypes:=#[62,3,4]}),
 aP (an 5) 63 (.extract (.tmp 28) 0),aP (an 6) 0 (.indexAddr 78 (.tmp 17) (.tmp 22)),aP ns 0 (.store 63 (.tmp 6) (.tmp 5)),
 aP (an 19) 3 (.binOp .add 3 (.tmp 22) (ey 1) 3),aP (an 22) 3 (.move (.tmp 19))]
def gD:akA:=.seq (.region 65 Cb Bz) (.seq (.cond (.tmp 25) .skip (.exit 51)) (.region 66 xq Bz))
noncomputable def jm:akA:=.seq (.region 61 gA Bz) (.seq (.cond (.tmp 25) .skip ox) (.seq (.cond (.tmp 5) .skip ox) (.seq (.block 50 (.loop gB)) (.seq (.region 64 gM Bz) (.seq (.block 51 (.loop gD)) dB)))))
noncomputable def l8:akA:=.seq l7.sl (.seq l7.sr.sl jm)
end Q0.Open
noncomputable def Gz.f53:Func:={Tryz.f53 with body:=an l8}
noncomputable def Gz.prog:NO:={Tryz.prog with funcs:=Tryz.prog.funcs.setIfInBounds 53 Gz.f53}
def Gz.funcs:Gz.prog.funcs=Tryz.prog.funcs.setIfInBounds 53 Gz.f53:=aE
def Gz.mU{f:Func}(h:Tryz.prog.funcs[n]?=an f)(a:n≠53):Gz.prog.funcs[n]?=an f:=by rw[Gz.funcs];rw[Array.getElem?_setIfInBounds_ne (Ne.symm a)];exact h
def Gz.func53:Gz.prog.funcs[53]?=an Gz.f53:=by rw[Gz.funcs];rw[Array.getElem?_setIfInBounds_self_of_lt];exact(bE.1 Tryz.func53).1
def Gz.size:Gz.prog.funcs.size=Tryz.prog.funcs.size:=aD
@[simp] theorem Gz.info(t:TO):Gz.prog.info? t=Tryz.prog.info? t:=aE
@[simp] theorem Gz.under(t:TO):Gz.prog.underlying t=Tryz.prog.underlying t:=aE
section
noncomputable local instance:aL.ag:={ok:=λ_=>False,fv:=λ_=>False,gl:=λ_=>False,cd:=λ_ _=>False,fs:=Gz.prog.funcs,lv:=λ_ _=>False,dM:=λ_ _=>False,home:=0,cl:=λ_=>False,np:=λ_=>False,hd:=λ_=>False,jk:=λ_=>False}
def Gz.two:Tryz.prog.two=Gz.prog:=aE
def Gz.looks{α:Type}{s:Sem α}(h:aL.Looks Tryz.prog s)(w:AS):akm Gz.prog s w=akm Tryz.prog s w:=by
 have e:∀(P:NO)(w:AS),akm P s w=(s.runT P w #[]).1:=λP w=>(pM P s w #[]).symm;rw[e,e];rcases h with⟨a,h⟩|⟨x,_,h⟩
 ·rw[(h w #[]).1,<-Gz.two,(h w #[]).2]
 ·rw[(h w #[]).1,<-Gz.two,(h w #[]).2]
@[simp] theorem Gz.Fj(t:TO)(w:AS):akm Gz.prog (ajV t) w=akm Tryz.prog (ajV t) w:=Gz.looks (aL.rZ t) w
@[simp] theorem Gz.aiB(t:TO)(w:AS):akm Gz.prog (typeInfo t) w=akm Tryz.prog (typeInfo t) w:=Gz.looks (aL.se t) w
@[simp] theorem Gz.aiC(t:TO)(w:AS):akm Gz.prog (sizeOf t) w=akm Tryz.prog (sizeOf t) w:=Gz.looks (aL.zx t) w
@[simp] theorem Gz.Sf(t:TO)(w:AS):akm Gz.prog (isAgg t) w=akm Tryz.prog (isAgg t) w:=Gz.looks (aL.Nw t) w
@[simp] theorem Gz.aiD(t:TO)(w:AS):akm Gz.prog (akY t) w=akm Tryz.prog (akY t) w:=Gz.looks (aL.Xj t) w
end
end
def Gz.abF{P:NO}{fn:Func}(h:P.funcs[n]?=an fn)(a:fn.body.isNone=Bz)(b:(fn.name== "runtime.NumGoroutine")=Bz)(args:Array so)(w:AS):akm P (callFunc n args) w=.ok (.enter n args) w:=by
 show(match P.funcs[n]? with
  |none=>_
  |some fn=>_:Sem Next).run P w=_
 rw[h];simp only[b,a,Bool.false_eq_true,if_false];rfl
@[simp] theorem Gz.toT:Gz.prog.toTables=Tryz.prog.toTables:=rfl
@[simp] theorem Gz.deep:Gz.prog.depth=Tryz.prog.depth:=aE
section
noncomputable local instance:Q0.aL.ag:={ok:=λ_=>False,fv:=λ_=>False,gl:=λ_=>False,cd:=λ_ _=>False,fs:=Gz.prog.funcs,lv:=λ_ _=>False,dM:=λ_ _=>False,home:=0,cl:=λ_=>False,np:=λ_=>False,hd:=λ_=>False,jk:=λ_=>False}
def Gz.Uf:Tryz.prog.two=Gz.prog:=aE
@[simp] theorem Gz.guards(d:Nat)(t:TO):Gz.prog.eqGuardType d t=Tryz.prog.eqGuardType d t:=by rw[<-Gz.Uf];exact Q0.aL.Dq _ d t
@[simp] theorem Gz.stood(t:TO):Gz.prog.stoodInHeld t=Tryz.prog.stoodInHeld t:=by rw[<-Gz.Uf];exact Q0.aL.Dp t
end
def Gz.gf{f:Func}(h:Tryz.prog.funcs[n]?=an f)(a:n≠53:=by decide):Gz.prog.funcs[n]?=an f:=Gz.mU h a
abbrev Gz.gu{t:TO}{i:TypeDesc}(h:Tryz.prog.underlying t=an i):Gz.prog.underlying t=an i:=(Gz.under t).trans h
def Gz.tV:((ajv 243).all λn=>!(decide ((1<n/\n<101)\/(106<n/\n<109)\/(109<n/\n<112)\/(113<n/\n<118)\/(119<n/\n<121)\/(122<n/\n<139)\/(142<n/\n<145)\/(145<n/\n<150)\/(150<n/\n<200)\/(215<n/\n<218)\/(229<n/\n<231)\/(233<n/\n<235)\/(241<n/\n<243)))||match Gz.prog.funcs[n]? with
  |some fn=>!fn.body.isNone&&!(fn.name== "runtime.NumGoroutine")
  |none=>Bz)=AT:=by kernel_rfl
@[simp] theorem Gz.aiE(n:Nat)(args:Array so)(w:AS)(h:(1<n/\n<101)\/(106<n/\n<109)\/(109<n/\n<112)\/(113<n/\n<118)\/(119<n/\n<121)\/(122<n/\n<139)\/(142<n/\n<145)\/(145<n/\n<150)\/(150<n/\n<200)\/(215<n/\n<218)\/(229<n/\n<231)\/(233<n/\n<235)\/(241<n/\n<243)):akm Gz.prog (callFunc n args) w=.ok (.enter n args) w:=by
 have h1:=hU.1 Gz.tV n (fR.2 aa);rw[decide_eq_true h] at h1;cases hf:Gz.prog.funcs[n]? with
 |none=>rw[hf] at h1;cases h1
 |some fn=>rw[hf] at h1;simp only[Bool.not_true,Bool.false_or,aft,Bool.not_eq_true'] at h1;exact Gz.abF hf h1.1 h1.2 args w
def Gz.cl(n:Nat)(h:(1<n/\n<101)\/(106<n/\n<109)\/(109<n/\n<112)\/(113<n/\n<118)\/(119<n/\n<121)\/(122<n/\n<139)\/(142<n/\n<145)\/(145<n/\n<150)\/(150<n/\n<200)\/(215<n/\n<218)\/(229<n/\n<231)\/(233<n/\n<235)\/(241<n/\n<243):=by decide)(args:Array so)(w:AS):akm Gz.prog (callFunc n args) w=.ok (.enter n args) w:=by simp_all
end Go.Proofs
namespace Go.Proofs.Q0
open Go.Proofs.Tryz
variable{w w':AS}{p:ajF}{row:Option Nat}{xs:List Int}{A:Option ajF}{B k n fuel:Nat}{v:so}{x:ajR}{Q':Exit->Act->AS->Prop}{a:Act}{o oi:akG}{rest l:List akG}{ops:Array akG}{lo hi W H:Int}{t:Bool}{f:Nat->Int}{listed:Array Bool}
section
open Go.RowKit Go.WideShapes Go.ChangeShapes
def Q(w w':AS):Prop:=Below w.heap.size w w'
def Q.refl(w:AS):Q w w:=Below.refl _ _
def Q.trans{a b c:AS}(h:Q a b)(k:Q b c):Q a c:=Below.trans h (Below.mono k h.size)
def Q.drewN{a:AS}(h:Q a w)(n:Nat):Q a (w.drewN n):=⟨h.os,h.tape,h.output,h.size,h.block⟩
def Q.drew{a:AS}(h:Q a w):Q a w.drew:=⟨h.os,h.tape,h.output,h.size,h.block⟩
def Q.alloc{a:AS}(h:Q a w)(o:Obj):Q a (w.alloc o):=Below.alloc h h.size o
def Q.set{a:AS}(h:Q a w)(b:a.heap.size<=p.block)(u:so):Q a (w.setCell p u):=Below.setCell h b u
def Q.size{a w:AS}(h:Q a w):a.heap.size<=w.heap.size:=Below.size h
def Q.cell{a w:AS}(h:Q a w):∀b o,b<a.heap.size->w.cell? ⟨b,o,ns⟩=a.cell? ⟨b,o,ns⟩:=λb o d=>Below.cell (p:=⟨b,o,ns⟩) h d
def Q.frozen{a:AS}(h:Q a w):∀b o,b<a.heap.size->w.frozen? ⟨b,o,ns⟩=a.frozen? ⟨b,o,ns⟩:=λb o d=>Below.frozen (p:=⟨b,o,ns⟩) h d
def Q.iS(h:w.grownBy w' ns):Q w w':=⟨h.os,h.tape,h.output,h.size,λk b=>h.block k b aj⟩
def Q.grown{a:AS}(h:Q a w)(b:w.grownBy w' row)(hr:∀k,row=an k->a.heap.size<=k):Q a w':=Below.grown h b h.size hr
def ak(w:AS)(g:Nat)(t:TO)(cs:Array so):Prop:=w.heap[g]?=an (ac cs t (0,0))
section
variable{w w':AS}{g:Nat}{t:TO}{cs:Array so}
def ak.lt(h:ak w g t cs):g<w.heap.size:=by
 rcases dg g w.heap.size with d|b
 ·omega
 ·unfold ak at h;rw[alj b] at h;cases h
def ak.cell(h:ak w g t cs):∀i,w.cell? ⟨g,i,ns⟩=cs[i]?:=λi=>cell_of_row w g i cs t (0,0) h
def ak.free(h:ak w g t cs):∀i,w.frozen? ⟨g,i,ns⟩=Bz:=λi=>by unfold ak at h;simp[World.frozen?,h]
def ak.new(w:AS)(t:TO)(cs:Array so):ak (w.alloc (ac cs t)) w.heap.size t cs:=heap_alloc_new w _
def ak.q(h:ak w g t cs)(hq:Q w w'):ak w' g t cs:=(hq.block g h.lt).trans h
def ak.pe(h:ak w g t cs)(hq:Q w w'):∀i,w'.cell? ⟨g,i,ns⟩=cs[i]?:=(h.q hq).cell
def ak.drewN(h:ak w g t cs)(n:Nat):ak (w.drewN n) g t cs:=h
def ak.alloc(h:ak w g t cs)(o:Obj):ak (w.alloc o) g t cs:=h.q ((Q.refl w).alloc o)
def ak.set(h:ak w g t cs)(i:Nat)(u:so):ak (w.setCell ⟨g,i,ns⟩ u) g t (cs.setIfInBounds i u):=by unfold ak at h⊢;simp[World.setCell,Array.getElem?_modify,h]
def ak.aN(h:ak w g t cs)(b:g≠p.block)(u:so):ak (w.setCell p u) g t cs:=(jh w p u g b).trans h
def ak.grown(h:ak w g t cs)(b:w.grownBy w' row)(d:an g≠row):ak w' g t cs:=(b.block g h.lt d).trans h
end
def Rd(w:AS)(B:Nat)(A:Option ajF)(xs:List Int):Prop:=
 0<xs.length->∃b o,A=an ⟨b,o,ns⟩/\b<B/\∀i,i<xs.length->w.cell? ⟨b,o+i,ns⟩=an (U O (xs[i]?.getD 0))
def Rd.nil(w:AS)(B:Nat)(A:Option ajF):Rd w B A []:=λh=>absurd h aj
def Rd.keep(h:Rd w B A xs)(e:∀b o,b<B->w'.cell? ⟨b,o,ns⟩=w.cell? ⟨b,o,ns⟩):Rd w' B A xs:=λj=>by obtain⟨b,o,rfl,d,hc⟩:=h j;exact⟨b,o,rfl,d,λi hi=>(e b _ d).trans (hc i hi)⟩
def Rd.more{B':Nat}(h:Rd w B A xs)(e:B<=B'):Rd w B' A xs:=λd=>by obtain⟨b,o,rfl,i,hc⟩:=h d;exact⟨b,o,rfl,aa,hc⟩
def Rd.q(h:Rd w B A xs)(hq:Q w w')(d:B<=w.heap.size):Rd w' B A xs:=
 h.keep λb o e=>hq.cell b o aa
def Rd.drewN(h:Rd w B A xs)(k:Nat):Rd (w.drewN k) B A xs:=h
def Rd.alloc(h:Rd w B A xs)(b:B<=w.heap.size)(o:Obj):Rd (w.alloc o) B A xs:=h.q ((Q.refl w).alloc o) b
def Rd.grown(h:Rd w B A xs)(d:w.grownBy w' row)(i:B<=w.heap.size)(hr:∀g,row=an g->B<=g):Rd w' B A xs:=
 h.keep λb o j=>oM (a:=⟨b,o,ns⟩) (d.block b aa λe=>by have:=hr _ e.symm;omega)
def Own(w:AS)(B:Nat)(v:so)(n:Nat)(xs:List Int):Prop:=xs.length=n/\w.ownsRow B 3 1 v n (xs.map (Value.int .i64))
section
variable{w w':AS}{B B' g c n:Nat}{v:so}{A:Option ajF}{xs:List Int}
def Own.nil(w:AS)(B:Nat):Own w B (Y ns 0 0) 0 []:=⟨rfl,vw _ _ _ _⟩
def Own.iV(w:AS)(B:Nat)(b:B<=w.heap.size):Own (w.alloc (ac #[] 3)) B (Y (an ⟨w.heap.size,0,ns⟩) 0 0) 0 []:=
 ⟨rfl,World.ownsRow_lit w #[] 0 b (dk _) rfl⟩
def Own.len(h:Own w B v n xs):xs.length=n:=h.1
def Own.form(h:Own w B v n xs):∃A c,v=Y A n c:=by exact Dj
theorem Own.dE(h:Own w B v n xs):(v=Y ns 0 0/\n=0)\/∃g c,v=Y (an ⟨g,0,ns⟩) n c/\B<=g/\g<w.heap.size/\n<=c/\c<=maxLen:=by exact Dk
def Own.le(h:Own w B v n xs):n<=maxLen:=by exact DN
def Own.q(h:Own w B v n xs)(hq:Q w w'):Own w' B v n xs:=
 ⟨h.1,h.2.kept (w':=w') (row:=ns) ⟨hq.os,hq.tape,hq.output,hq.size,λk b _=>hq.block k b⟩ CS⟩
def Own.drewN(h:Own w B v n xs)(k:Nat):Own (w.drewN k) B v n xs:=aG
def Own.alloc(h:Own w B v n xs)(o:Obj):Own (w.alloc o) B v n xs:=h.q ((Q.refl w).alloc o)
def Own.drew(h:Own w B v n xs):Own w.drew B v n xs:=aG
def Own.block(h:Own w B (Y (an ⟨g,0,ns⟩) n c) n xs):B<=g/\g<w.heap.size:=by
 rcases h.dE with⟨b,_⟩|⟨_,_,b,d,e,_⟩
 ·cases b
 ·simp_all
def Own.at(h:Own w B (Y (an ⟨g,0,ns⟩) n c) n xs)(k:Nat)(b:k<n):w.cell? ⟨g,k,ns⟩=an (U O (xs[k]?.getD 0)):=by exact Kk
def Own.free(h:Own w B (Y (an ⟨g,0,ns⟩) n c) n xs)(k:Nat):w.frozen? ⟨g,k,ns⟩=Bz:=World.ownsRow.frozenAt h.2 k
def Own.set(h:Own w B (Y (an ⟨g,0,ns⟩) n c) n xs)(k:Nat)(x:Int):Own (w.setCell ⟨g,k,ns⟩ (U O x)) B (Y (an ⟨g,0,ns⟩) n c) n (xs.set k x):=by exact Kl
def Own.rd(h:Own w B (Y A n c) n xs):Rd w w.heap.size A xs:=λj=>by
 have m:=h.1;rcases h.dE with⟨b,q⟩|⟨g,cap,b,r,d,_⟩
 ·omega
 ·have e:A=an ⟨g,0,ns⟩:=by injection b
  subst e;refine⟨g,0,rfl,d,λi hi=>?_⟩;rw[Nat.zero_add];exact h.at i aa
def Own.mono(h:Own w B v n xs)(b:B'<=B):Own w B' v n xs:=by exact Dl
def Own.other(h:Own w B v n xs)(d:w.grownBy w' row)(b:v.ownBlock=ns\/v.ownBlock≠row):Own w' B v n xs:=⟨h.1,h.2.kept d b⟩
def Own.ne{w2:AS}{b d:Nat}{v2:so}{ys:List Int}(h:Own w B v n xs)(h':Own w2 b v2 d ys)(e:w.heap.size<=b):v.ownBlock=ns\/v.ownBlock≠v2.ownBlock:=by
 cases hv:v.ownBlock with
 |none=>exact .inl rfl
 |some k=>exact Km
def Own.Tm{a:AS}(h:Own w B v n xs)(hq:Q a w)(b:a.heap.size<=B)(d:w.grownBy w' v.ownBlock):Q a w':=
 hq.grown d λk e=>aI b (h.2.lt k e).1
def Own.aN(h:Own w B v n xs)(b:p.block<B)(u:so):Own (w.setCell p u) B v n xs:=⟨h.1,ownsRow_setCell_below h.2 b u⟩
end
def af{p:Prop}(h:p):Hid p:=h
def su{a:AS}{g:Nat}(h:a.grownBy w (an g))(k:Nat)(u:so):a.grownBy (w.setCell ⟨g,k,ns⟩ u) (an g):=
 ⟨h.os,h.tape,h.output,by simpa[World.setCell] using h.size,λi hi b=>(jh w ⟨g,k,ns⟩ u i λe=>b oH).trans (h.block i hi b)⟩
def DW{a:AS}(h:a.grownBy w row)(n:Nat):a.grownBy (w.drewN n) row:=⟨h.os,h.tape,h.output,h.size,h.block⟩
def DO(h:k<xs.length):xs.take (k+1)=xs.take k++[xs[k]?.getD 0]:=eY
end
section
open Go.RowKit
def vU:(Gz.prog.info? 3).map (λi=>(i.zero,i.size,i.bytes))=an (an (U O 0),1,8):=aE
def Own.below{w:AS}{B n:Nat}{v:so}{xs:List Int}(h:Own w B v n xs)(k:Nat)(b:v.ownBlock=an k):B<=k:=(h.2.lt k b).1
def uS(i:o.guard=ns){s:ajR}
  (z:o.op=.call {callee:=.builtin .append,args:=#[s,x],argTypes:=#[38,38]})
  (m:AS)(B:Nat)(C:a.eval s=v)(b:Own w B v n xs)(ad:ajF){y:Int}{c:Nat}(D:a.eval x=Y (an ad) 1 c)
  (F:n<=1000000000000)(G:m.heap.size<=B)(d:B<=w.heap.size)(hq:Q m w)(hc:w.cell? ad=an (U O y))
  (h:∀v' w',Own w' B v' (n+1) (xs++[y])->Q m w'->B<=w'.heap.size->w.grownBy w' v.ownBlock->ajU Gz.prog ops Q' rest (a.put o.dst v') w'):ajU Gz.prog ops Q' (o::rest) a w:=by
 obtain⟨i0,hi,q,hz1,hz2⟩:=info_parts vU;refine wpList_append_own _ i s x 38 z B 3 i0 (U O 0) 1 8 (Gz.gu underlying38) hi q hz1 hz2 rfl al v n _ C b.2 ad 1 c [U O y] D rfl ?_ ?_ ?_ ?_ d ?_
 ·intro j u e
  match j,e with
  |0,e=>simp at e;subst e;simpa[Addr.add] using hc
 ·intro u hu;simp at hu;subst hu;rfl
 ·unfold maxLen;omega
 ·omega
 ·intro v' w' h1 r _;refine h v' w' ⟨by simp[b.1],by simpa using h1⟩ (hq.grown r λk E=>?_) (aI d r.size) r;have:=b.below k E;omega
def W4(b:o.guard=ns){l c:ajR}(j:o.op=Op.makeSlice 38 l c)
  {e:AS}(n:Nat){C:Int}(m:a.eval l=U O 0)(hc:a.eval c=U O C)(q:C=(n:Int))(r:n<=1000000000000)(hq:Q e w)
  (h:∀w',Own w' w.heap.size (Y (an ⟨w.heap.size,0,ns⟩) 0 n) 0 []->Q e w'->w.heap.size<=w'.heap.size->ajU Gz.prog ops Q' rest (a.put o.dst (Y (an ⟨w.heap.size,0,ns⟩) 0 n)) w'):ajU Gz.prog ops Q' (o::rest) a w:=by
 obtain⟨i0,hi,d,hz1,hz2⟩:=info_parts vU;refine wpList_make_own w b l c 38 j w.heap.size 3 i0 (U O 0) 1 (Gz.gu underlying38) hi d hz1 .i64 .i64 C n m hc q (by rw[hz2];omega) kT (av _) ?_;intro w' h1 i;exact h w' ⟨rfl,h1⟩ (hq.trans (Q.iS i)) i.size
def Xk(b:o.guard=ns){l c:ajR}(j:o.op=Op.makeSlice 38 l c)
  (e:AS)(n:Nat){L C:Int}(m:a.eval l=U O L)(hc:a.eval c=U O C)(q:L=(n:Int))(r:C=(n:Int))(s:n<=1000000000000)(hq:Q e w)
  (h:∀w',Own w' w.heap.size (Y (an ⟨w.heap.size,0,ns⟩) n n) n (rl n 0)->Q e w'->w.heap.size<=w'.heap.size->ajU Gz.prog ops Q' rest (a.put o.dst (Y (an ⟨w.heap.size,0,ns⟩) n n)) w'):ajU Gz.prog ops Q' (o::rest) a w:=by
 obtain⟨i0,hi,d,hz1,hz2⟩:=info_parts vU;refine wpList_make_full w b l c 38 j w.heap.size 3 i0 (U O 0) 1 (Gz.gu underlying38) hi d hz1 .i64 .i64 L C n m hc q r (by rw[hz2];omega) kT (av _) ?_;intro w' h1 i;exact h w' ⟨aj,by simpa[Value.cells,toList_madeCells_one] using h1⟩ (hq.trans (Q.iS i)) i.size
end
section
open Go.RowKit
def lV{n:Int}(w:AS)(h1:lo<=n)(b:n<=hi):
  aiK Gz.prog 14 #[U O n,U O lo,U O hi] w λe w'=>e=be (a5 AT)/\w=w':=by
 go_enter Gz.gf func14,ntmps14;go_wp2;go_ret;exact⟨by simp[*],rfl⟩
def AH(n lo hi:Int)(w:AS)(h1:n<lo\/hi<n):
  aiK Gz.prog 14 #[U O n,U O lo,U O hi] w λe w'=>e=be (a5 Bz)/\w=w':=by
 rcases h1 with h|h
 ·go_enter Gz.gf func14,ntmps14;go_wp2;go_ret;exact⟨aj,rfl⟩
 ·have b:decide (n<=hi)=Bz:=by simp;omega
  go_enter Gz.gf func14,ntmps14;exact zm
def bZ{n:Int}{b:Bool}(w:AS)(h:Hid (decide (lo<=n/\n<=hi)=b)):
  aiK Gz.prog 14 #[U O n,U O lo,U O hi] w λe w'=>e=be (a5 b)/\w=w':=by
 cases b
 ·exact AH n lo hi w (by have:=of_decide_eq_false h;omega)
 ·have h:=of_decide_eq_true h;exact lV w h.1 h.2
theorem Zm(n:Int){d:Int}(hd:0<d):(n.tmod d<0/\n.tdiv d-1=n/d)\/(0<=n.tmod d/\n.tdiv d=n/d):=by exact Mf
def FV(n d:Int)(w:AS)(hd:0<d)(b:d<=1000000)(h1: -1000000000000<=n)(h:n<=1000000000000):
  aiK Gz.prog 69 #[U O n,U O d] w λe w'=>e=be (U O (n/d))/\w=w':=by
 have i:=Int.le_trans (Int.ediv_le_ediv hd h) (Int.ediv_le_self _ aa)
 have j: -1000000000000<=n/d:=by rw[Int.le_ediv_iff_mul_le hd];omega
 rcases Zm n hd with⟨m,he⟩|⟨m,he⟩
 ·exact Mg
 ·exact Mg
def MN{n:Int}{b:Bool}(w:AS)(h:Hid (decide (0<=n/\n<=255)=b)):
  aiK Gz.prog 123 #[U O n] w λe w'=>e=be (a5 b)/\w=w':=by
 subst h;by_cases h1:0<=n
 ·by_cases d:n<=255
  ·rw[decide_eq_true ⟨h1,d⟩];go_enter Gz.gf func123,ntmps123;go_wp2;go_ret;exact⟨by simp[*],rfl⟩
  ·rw[decide_eq_false λh=>d h.2];go_enter Gz.gf func123,ntmps123;exact zm
 ·rw[decide_eq_false λh=>h1 h.1];go_enter Gz.gf func123,ntmps123;go_wp2;all_goals(go_ret;exact⟨aj,rfl⟩)
end
section
open Go.RowKit
def dO(n:Int):Bool:=decide (8<=n/\n<=32/\n%8=0)
def wY(n:Int):Bool:=decide (0<=n/\n<=255)
def dm(xs:List Int):Bool:=xs.all wY
def bU(W H:Int)(xs:List Int):Bool:=dO W&&(dO H&&(decide ((xs.length:Int)=W*H)&&dm xs))
def abG(h:k<xs.length):xs.drop k=xs[k]?.getD 0::xs.drop (k+1):=eY
def OG(xs:List Int)(k:Nat)(h:k<xs.length):dm (xs.drop k)=(wY (xs[k]?.getD 0)&&dm (xs.drop (k+1))):=by rw[abG h];rfl
def pZ(h:dm xs=AT)(k:Nat)(hk:k<xs.length):0<=xs[k]?.getD 0/\xs[k]?.getD 0<=255:=by exact Mh
def kg(h:bU W H xs=AT):(8<=W/\W<=32/\W%8=0)/\(8<=H/\H<=32/\H%8=0)/\(xs.length:Int)=W*H/\dm xs=AT:=by unfold bU dO at h;simp only[aft,decide_eq_true_eq] at h;exact h
def FW(h1:8<=W)(d:W<=32)(e:8<=H)(h:H<=32):64<=W*H/\W*H<=1024:=by have a:=Int.mul_le_mul h1 e aa aa;have b:=Int.mul_le_mul d h aa aa;omega
def Q3{n:Int}(h:Hid (wY n=t)):
  aiK Gz.prog 123 #[U O n] w λe w'=>e=be (a5 t)/\w=w':=MN w h
def kW{n:Int}(h:Hid (dO n=t)):
  aiK Gz.prog 80 #[U O n] w λe w'=>e=be (a5 t)/\w=w':=by
 obtain rfl:=h.out;unfold dO;exact Kn
def aar{c:Nat}(r:Rd w B A xs)(hn:Hid (xs.length=n))(hm:n<=9223372036854775807)(q:Hid (dm xs=t)):
  aiK Gz.prog 81 #[Y A n c] w λe w'=>e=be (a5 t)/\w=w':=by
 have s:=af r;go_enter Gz.gf func81,ntmps81;go_wp2;go_loop[7] (λi=>∃k:Nat,k<=n/\i=U O k/\Hid (dm xs=dm (xs.drop k))) (λi=>n-(intOf i).toNat)
 case atStart=>exact⟨0,dk _,rfl,rfl⟩
 case round=>
  obtain⟨k,u,rfl,hr⟩:=hrel;by_cases aV:k<n
  ·obtain⟨b,o,rfl,y,hc⟩:=s.out oI;have j:=hc k yx;have d:=OG xs k yx;generalize xs[k]?.getD 0=x at j d;have z:=af hc;cases h:wY x
   ·rw[h] at d;have m:=af h;have jt:=af d;go_wp2;refine(Q3 m.out).mono ?_;rintro e w'⟨rfl,rfl⟩;go_wp2;go_ret;exact⟨by rw[<-q.out,hr.out,jt.out];rfl,rfl⟩
   ·rw[h] at d;have m:=af h;have jt:=af d;go_wp2;refine(Q3 m.out).mono ?_;rintro e w'⟨rfl,rfl⟩;exact Ko
  ·have:k=n:=by omega
   subst this;go_wp2;go_ret;exact⟨by rw[<-q.out,hr.out,aln (Nat.le_of_eq hn.out)];rfl,rfl⟩
def CU(c:Nat)(s:Rd w B A xs)(y:B<=w.heap.size)(u:Hid (xs.length=n))(hm:n<=9223372036854775807)(z:Hid (bU W H xs=t)):
  aiK Gz.prog 56 #[a9 #[U O W,U O H,Y A n c]] w λe w'=>e=be (a5 t)/\Q w w':=by
 have q0:Q w (w.alloc (ac #[U O W,U O H,Y A n c] 40)):=aU;have C:=af (s.alloc y (ac #[U O W,U O H,Y A n c] 40));have m:bU W H xs=(dO W&&(dO H&&(decide ((xs.length:Int)=W*H)&&dm xs))):=rfl;rw[u.out] at m;have HT:Hid (t=(dO W&&(dO H&&(decide ((n:Int)=W*H)&&dm xs)))):=by rw[Hid,<-z.out,m]
 clear s m;cases d:dO W
 ·have HW:=af d;rw[d] at HT;clear d;go_enter Gz.gf func56,ntmps56;go_wp2;refine(kW HW.out).mono ?_;rintro e w'⟨rfl,rfl⟩;go_wp2;go_ret;exact⟨by rw[HT.out];rfl,q0⟩
 ·have b:=of_decide_eq_true d;have HW:=af d;rw[d] at HT;clear d;cases h:dO H
  ·have HH:=af h;rw[h] at HT;clear h b;exact Mi
  ·have i:=of_decide_eq_true h;have HH:=af h;rw[h] at HT;clear h;obtain⟨D,E⟩:=FW b.1 b.2.1 i.1 i.2.1;clear b i;by_cases j:(n:Int)=W*H
   ·rw[decide_eq_true j] at HT;have q:((n:Int) !=W*H)=Bz:=by rw[bne_eq_false_iff_eq];exact j
    have r:Hid (dm xs=t):=by rw[HT.out];rfl
    clear j;go_enter Gz.gf func56,ntmps56;go_wp2;refine(kW HW.out).mono ?_;rintro e w'⟨rfl,rfl⟩;go_wp2;refine(kW HH.out).mono ?_;rintro e w'⟨rfl,rfl⟩;go_wp2;refine(aar C.out u hm r).mono ?_;rintro e w'⟨rfl,rfl⟩;go_wp2;go_ret;exact⟨rfl,q0⟩
   ·rw[decide_eq_false j] at HT;have q:((n:Int) !=W*H)=AT:=by rw[bne_iff_ne];exact j
    clear j;exact Mi
def pY{n:Int}(h:Hid (decide (lo<=n/\n<=hi)=t)):
  aiK Gz.prog 14 #[U O n,U O lo,U O hi] w λe w'=>e=be (a5 t)/\w=w':=bZ w h
def Ke(c:Nat)(K:Rd w B A xs)(M:B<=w.heap.size)(hn:Hid (xs.length=n))(hm:n<=9223372036854775807)(L:Hid (bU W H xs=t)):
  aiK Gz.prog 44 #[a9 #[U O W,U O H,Y A n c]] w λe w'=>e=be (a5 t)/\Q w w':=by
 have q0:Q w (w.alloc (ac #[U O W,U O H,Y A n c] 40)):=aU;have N:=af (K.alloc M (ac #[U O W,U O H,Y A n c] 40));have F:bU W H xs=(dO W&&(dO H&&(decide ((xs.length:Int)=W*H)&&dm xs))):=rfl;rw[hn.out] at F;have HT:Hid (t=(dO W&&(dO H&&(decide ((n:Int)=W*H)&&dm xs)))):=by rw[Hid,<-L.out,F]
 clear K F L;by_cases s:8<=W/\W<=32
 ·have HW:=af (decide_eq_true s);by_cases u:8<=H/\H<=32
  ·have HH:=af (decide_eq_true u);obtain⟨Z,a2⟩:=FW s.1 s.2 u.1 u.2;obtain⟨R,T⟩:=s;obtain⟨h1,V⟩:=u;by_cases q:W%8=0
   ·have C:(W%8 !=0)=Bz:=by rw[bne_eq_false_iff_eq];exact q
    have d:dO W=AT:=decide_eq_true ⟨R,T,q⟩;rw[d] at HT;clear q d;by_cases r:H%8=0
    ·have D:(H%8 !=0)=Bz:=by rw[bne_eq_false_iff_eq];exact r
     have j:dO H=AT:=decide_eq_true ⟨h1,V,r⟩;rw[j] at HT;clear r j;by_cases y:(n:Int)=W*H
     ·rw[decide_eq_true y] at HT;have G:((n:Int) !=W*H)=Bz:=by rw[bne_eq_false_iff_eq];exact y
      have E:Hid (t=dm xs):=by rw[Hid,HT.out];rfl
      clear y HT;go_enter Gz.gf func44,ntmps44;go_wp2;(refine(pY HW.out).mono ?_;rintro e w'⟨rfl,rfl⟩);go_wp2;(refine(pY HH.out).mono ?_;rintro e w'⟨rfl,rfl⟩);go_wp2;go_loop[3] (λi=>∃k:Nat,k<=n/\i=U O k/\Hid (dm xs=dm (xs.drop k))) (λi=>n-(intOf i).toNat)
      case atStart=>exact⟨0,dk _,rfl,rfl⟩
      case round=>
       obtain⟨k,hk,rfl,hr⟩:=hrel;by_cases aV:k<n
       ·obtain⟨b,o,rfl,hb,hc⟩:=N.out oI;have I:=hc k yx;have m:=OG xs k yx;generalize xs[k]?.getD 0=x at I m;have HC:=af hc;clear hc;cases z:wY x
        ·rw[z] at m;have J:Hid (decide (0<=x/\x<=255)=Bz):=z;have jt:=af m;clear z m;go_wp2;(refine(pY J.out).mono ?_;rintro e w'⟨rfl,rfl⟩);go_wp2;go_ret;exact⟨by rw[E.out,hr.out,jt.out];rfl,q0⟩
        ·rw[z] at m;have J:Hid (decide (0<=x/\x<=255)=AT):=z;have jt:=af m;clear z m;go_wp2;(refine(pY J.out).mono ?_;rintro e w'⟨rfl,rfl⟩);exact Ko
       ·have:k=n:=by omega
        subst this;go_wp2;go_ret;exact⟨by rw[E.out,hr.out,aln (Nat.le_of_eq hn.out)];rfl,q0⟩
     ·rw[decide_eq_false y] at HT;have G:((n:Int) !=W*H)=AT:=by rw[bne_iff_ne];exact y
      clear y;exact zd
    ·have D:(H%8 !=0)=AT:=by rw[bne_iff_ne];exact r
     have j:dO H=Bz:=decide_eq_false λh=>r h.2.2;rw[j] at HT;clear r j;exact zd
   ·have C:(W%8 !=0)=AT:=by rw[bne_iff_ne];exact q
    have d:dO W=Bz:=decide_eq_false λh=>q h.2.2;rw[d] at HT;clear q d;exact zd
  ·have HH:=af (decide_eq_false u);have j:dO H=Bz:=decide_eq_false λh=>u ⟨h.1,h.2.1⟩;rw[j,alX,Bool.and_false] at HT;clear j u s;exact zd
 ·have HW:=af (decide_eq_false s);have d:dO W=Bz:=decide_eq_false λh=>s ⟨h.1,h.2.1⟩;rw[d] at HT;clear d s;go_enter Gz.gf func44,ntmps44;go_wp2;(refine(pY HW.out).mono ?_;rintro e w'⟨rfl,rfl⟩);go_wp2;go_ret;exact⟨by rw[HT.out];rfl,q0⟩
end
section
open Go.RowKit
def YA(I:Bool)(q:Int)(v:so){b d:Int}{v':so}(h:Hid ((b==W&&d==H)=t)):
  aiK Gz.prog 77 #[a9 #[U O W,U O H,a5 I,U O q,v],a9 #[U O b,U O d,v']] w λe w'=>e=be (a5 t)/\Q w w':=by
 obtain rfl:=h.out;go_enter Gz.gf func77,ntmps77;go_wp2;all_goals(go_ret;exact⟨by simp[*],aU⟩)
end
def a6(f:Nat->Int)(n:Nat):List Int:=(ajv n).map f
def PS(f:Nat->Int)(n:Nat):a6 f (n+1)=a6 f n++[f n]:=by simp[a6,List.range_succ]
def Ep:(a6 f n).length=n:=by simp[a6]
def oX{i:Nat}(h:i<n):(a6 f n)[i]?.getD 0=f i:=by simp[a6,h]
def aas(g:Nat->Int)(n:Nat)(h:∀i,i<n->f i=g i):a6 f n=a6 g n:=by apply List.map_congr_left;intro i hi;exact h i (by simpa using hi)
def abH(xs:List Int):a6 (λi=>xs[i]?.getD 0) xs.length=xs:=by
 apply List.ext_getElem
 ·simp[a6]
 ·intro i h1 b;simp[a6,b]
def Sg(y W h x:Nat)(b:y<h)(d:x<W):y*W+x<h*W:=by have:(y+1)*W<=h*W:=pN _ b;rw[Nat.succ_mul] at this;omega
section
open Go.RowKit
section
variable{P:NO}{ops:Array akG}{Q':Exit->Act->AS->Prop}{md:akZ}{S:AS->Prop}{X:Nat->Bool}
def gr(P:NO)(md:akZ)(ops:Array akG)(Q':Exit->Act->AS->Prop)(S:AS->Prop)(X:Nat->Bool):Nat->Array Bool->Act->AS->Prop
 |0,listed,a,w=>ajw md ops listed=[]/\Q' .normal a w
 |fuel+1,listed,a,w=>
  (ajw md ops listed=[]->Q' .normal a w)/\
  ∀i∈ajw md ops listed,wpOp P ops Q' i (λa' w'=>(X i=Bz->S w')/\gr P md ops Q' S X fuel (listed.setIfInBounds i AT) a' w') a w
def Er:∀(fuel:Nat)(listed:Array Bool)(a:Act)(w:AS),gr P md ops Q' S X fuel listed a w->wpAny P md ops Q' fuel listed a w
 |0,_,_,_,h=>h
 |fuel+1,_,_,_,h=>⟨h.1,λi hi=>wpOp_mono (λa' w' b=>Er fuel _ a' w' b.2) (h.2 i hi)⟩
def X7{i:Nat}(hi:ops[i]?=an oi)(r:∀(j:Nat)(o:akG) cs b,ops[j]?=an o->o.op≠.select cs b)
  (T:∀j,j<ops.size->X j=AT->Region.waitsFor md ops j i=AT)
  (V:∀c a w,Q' (.panic c) (a.put oi.dst v) w->Q' (.panic c) a w):
  ∀(fuel:Nat)(listed:Array Bool)(a:Act)(w:AS),
   (∀j s,ops[j]?=an s->j≠i->listed.getD j AT=Bz->(∀e∈s.after,akQ md e=AT->e.on≠i)->oi.apart ops s=AT)->
   i∈ajw md ops listed->YieldsIf P ops S oi v a->S w->
   gr P md ops Q' S X fuel (listed.setIfInBounds i AT) (a.put oi.dst v) w->gr P md ops Q' S X (fuel+1) listed a w:=by
 intro fuel
 induction fuel with
 |zero=>
  intro listed a w _ u E hS H;refine⟨λh=>(by rw[h] at u;cases u),λj F=>?_⟩;by_cases d:j=i
  ·subst d;exact E.wpOp hi hS ⟨λ_=>hS,H⟩
  ·have h1:=ready_mono F d;rw[H.1] at h1;cases h1
 |succ fuel Z=>
  intro listed a w m u E hS H;refine⟨λh=>(by rw[h] at u;cases u),λj F=>?_⟩;by_cases d:j=i
  ·subst d;exact E.wpOp hi hS ⟨λ_=>hS,H⟩
  ·have h1:=H.2 j (ready_mono F d);obtain⟨y,s,q,z⟩:=mem_ready.1 F
   have C:∀e∈s.after,akQ md e=AT->e.on≠i:=λe he J K=>by
    have G:=z e he J;have h0:=(mem_ready.1 u).1;rw[K] at G;rcases dg i listed.size with R|R
    ·simp_all
    ·simp[alj R] at G
   have D:X j=Bz:=by
    cases hc:X j with
    |false=>rfl
    |true=>obtain⟨o',L,e,he,J,M⟩:=Region.waitsFor_spec (T j (bE.1 q).1 hc);obtain rfl:o'=s:=aJ (L.symm.trans q);exact absurd M (C e he J)
   have G:=wpOp_putIf q (m j s q d y C) (λcs b=>r i oi cs b hi) (λcs b=>r j s cs b q) V E h1;refine wpOp_mono (λa' w' I=>⟨λ_=>I.2.1 D,Z (listed.setIfInBounds j AT) a' w' (λk ok hk N hun hn=>m k ok hk N ?_ hn) (ready_mono u (jG d)) I.1 (I.2.1 D) ?_⟩) G
   ·by_cases Q:j=k
    ·subst Q;exact y
    ·simp_all
   ·rw[Array.setIfInBounds_comm _ _ d];exact I.2.2
def Tn(md:akZ)(ops:Array akG)(X:Nat->Bool)(i:Nat):Bool:=(ajv ops.size).all λj=>!X j||Region.waitsFor md ops j i
def pU{i:Nat}(hi:l[i]?=an oi)
  (d:Region.noSelect l.toArray=AT)(e:Region.free md l.toArray listed i=AT)(hr:(ajw md l.toArray listed).contains i=AT)(m:Tn md l.toArray X i=AT)
  (q:∀c a w,Q' (.panic c) (a.put oi.dst v) w->Q' (.panic c) a w)(r:YieldsIf P l.toArray S oi v a)(hS:S w)
  (h:gr P md l.toArray Q' S X fuel (listed.setIfInBounds i AT) (a.put oi.dst v) w):gr P md l.toArray Q' S X (fuel+1) listed a w:=
 have kw:l.toArray[i]?=an oi:=eY
 X7 kw (Region.noSelect_spec d) (λj s b=>by have h1:=hU.1 m j (fR.2 s);simpa[b] using h1) q fuel listed a w (Region.free_spec kw e) (by simpa using hr) r hS h
def ai(i:Nat){a':Act}(hS:S w:=by assumption)(hi:l[i]?=an oi:=by rfl)
  (b:(Region.noSelect l.toArray&&Region.free md l.toArray listed i&&(ajw md l.toArray listed).contains i&&Tn md l.toArray X i)=AT:=by kernel_rfl)
  (e:∀c a w,Q' (.panic c) (a.put oi.dst v) w->Q' (.panic c) a w:=by exactλ_ _ _ h=>h)
  (j:YieldsIf P l.toArray S oi v a:=by exact Or.inl ⟨by rfl,by intro q d;(try dsimp only at d);go_split_ands;go_simp;try with_reducible rfl⟩)
  (m:a.put oi.dst v=a':=by first|(simp only[Act.put,List.setIfInBounds_toArray,List.set_cons_zero,List.set_cons_succ];done)|(simp only[Act.put,List.setIfInBounds_toArray,List.set_cons_zero,List.set_cons_succ];exact rfl)|exact rfl)
  (h:gr P md l.toArray Q' S X fuel (listed.setIfInBounds i AT) a' w):gr P md l.toArray Q' S X (fuel+1) listed a w:=by
 simp only[aft] at b;subst m;exact pU hi b.1.1.1 b.1.1.2 b.1.2 b.2 e j hS h
def Zn(hr:ajw md l.toArray listed=[k])(b:l[k]?=an o)
  (h:∀K:Act->AS->Prop,Shut (∀a' w',(X k=Bz->S w')->((X k=Bz->S w')->gr P md l.toArray Q' S X fuel (listed.setIfInBounds k AT) a' w')->K a' w')->
   if ajr o (yielded l.toArray a.tmps)=AT then Oper.wp P o a w K Q' else K (a.put o.dst undef) w):gr P md l.toArray Q' S X (fuel+1) listed a w:=
 ⟨λh0=>(by rw[hr] at h0;cases h0),λi hi=>by rw[hr] at hi;obtain rfl:i=k:=eY;exact wpOp_step (by simpa using b) λd hK=>h d λa' w' hS e=>hK a' w' ⟨hS,e hS⟩⟩
def bA(hr:ajw md l.toArray listed=[k])(e:X k=Bz)(b:l[k]?=an o)
  (h:∀K:Act->AS->Prop,Shut (∀a' w',S w'->(S w'->gr P md l.toArray Q' S X fuel (listed.setIfInBounds k AT) a' w')->K a' w')->
   if ajr o (yielded l.toArray a.tmps)=AT then Oper.wp P o a w K Q' else K (a.put o.dst undef) w):gr P md l.toArray Q' S X (fuel+1) listed a w:=
 Zn hr b (λK hK=>h K λa' w' hS d=>hK.out a' w' (λ_=>hS) λ_=>d hS)
def Es{i j:Nat}{b:akG}(hr:ajw md l.toArray listed=[i,j])(m:X i=Bz)(q:X j=Bz)(hi:l[i]?=an oi)(r:l[j]?=an b)
  (h1:∀K:Act->AS->Prop,Shut (∀a' w',S w'->(S w'->gr P md l.toArray Q' S X fuel (listed.setIfInBounds i AT) a' w')->K a' w')->
   if ajr oi (yielded l.toArray a.tmps)=AT then Oper.wp P oi a w K Q' else K (a.put oi.dst undef) w)
  (s:∀K:Act->AS->Prop,Shut (∀a' w',S w'->(S w'->gr P md l.toArray Q' S X fuel (listed.setIfInBounds j AT) a' w')->K a' w')->
   if ajr b (yielded l.toArray a.tmps)=AT then Oper.wp P b a w K Q' else K (a.put b.dst undef) w):gr P md l.toArray Q' S X (fuel+1) listed a w:=
 ⟨λh0=>(by rw[hr] at h0;cases h0),λk d=>by
  rw[hr] at d;simp only[List.mem_cons,List.not_mem_nil,or_false] at d;rcases d with rfl|rfl
  ·exact wpOp_step (by simpa using hi) (λe hK=>h1 e λa' w' hS h=>hK a' w' ⟨λ_=>hS,h hS⟩)
  ·exact wpOp_step (by simpa using r) λe hK=>s e λa' w' hS h=>hK a' w' ⟨λ_=>hS,h hS⟩⟩
def lT{listed:Array Bool}{a:Act}{w:AS}(hr:ajw md ops listed=[])(h:Q' .normal a w):∀fuel,gr P md ops Q' S X fuel listed a w
 |0=>⟨hr,h⟩
 |_+1=>⟨λ_=>h,by rw[hr];simp⟩
def tG(md:akZ)(ops:Array akG)(X:Nat->Bool):List Nat->Array Bool->Bool
 |[],l=>(ajw md ops l).isEmpty
 |k::b,l=>decide (ajw md ops l=[k])&&X k&&tG md ops X b (l.setIfInBounds k AT)
def NZ:∀(d:List Nat)(n:Nat)(l:Array Bool)(a:Act)(w:AS),tG md ops X d l=AT->d.length<=n->
  ajU P ops Q' (d.filterMap (ops[·]?)) a w->gr P md ops Q' S X n l a w
 |[],0,l,a,w,b,_,h=>⟨by simpa[tG] using b,h⟩
 |[],n+1,l,a,w,b,_,h=>lT (by simpa[tG] using b) h _
 |k::d,n+1,l,a,w,b,j,h=>by
  simp only[tG,aft,decide_eq_true_eq] at b;obtain⟨⟨hr,m⟩,b⟩:=b;have q:k∈ajw md ops l:=uR;obtain⟨_,o,e,_⟩:=mem_ready.1 q;rw[List.filterMap_cons,e] at h;refine⟨λh1=>(by rw[hr] at h1;cases h1),λi hi=>?_⟩;rw[hr] at hi;obtain rfl:i=k:=by simpa using hi
  have hw:wpOp P ops Q' i (ajU P ops Q' (d.filterMap (ops[·]?))) a w:=by unfold wpOp;simp only[e];exact h
  exact wpOp_mono (λr w' s=>⟨λh0=>(by rw[m] at h0;cases h0),NZ d n _ r w' b (by simp at j;omega) s⟩) hw
def iB(b:List Nat)(m:Nat){t:Array Bool}(d:tG md l.toArray X b t=AT)(e:b.length<=n)(hr:b.filterMap (l[·]?)=l.drop m)
  (h:ajU P l.toArray Q' (l.drop m) a w):gr P md l.toArray Q' S X n t a w:=
 NZ b n t a w d e (by
  rw[<-hr] at h;simpa using h)
def fe{id:Nat}(S:AS->Prop)(X:Nat->Bool)(hm:P.follows .mixedOrders=AT)(hS:S w.drew)
  (h:S w.drew->gr P .any l.toArray Q' S X l.toArray.size (Array.replicate l.toArray.size Bz) a w.drew):(Code.region id l.toArray AT).wp P Q' a w:=
 wp_region_any hm (Er _ _ _ _ (h hS))
end
end
section
open Go.RowKit
def arr(xs:List Int):Array so:=(xs.map (Value.int .i64)).toArray
def bQ(xs:List Int):(arr xs).size=xs.length:=by simp[arr]
def nQ(xs:List Int)(k:Nat)(h:k<xs.length):(arr xs)[k]?=an (U O (xs[k]?.getD 0)):=by simp[arr,h]
def Q6(xs:List Int)(k:Nat)(y:Int):(arr xs).setIfInBounds k (U O y)=arr (xs.set k y):=by simp[arr,List.map_set]
def FX(xs:List Int):(arr xs).all (·.oneCell')=AT:=by rw[Array.all_eq_true_iff_forall_mem];intro v b;simp only[arr,List.mem_toArray,List.mem_map] at b;obtain⟨x,_,rfl⟩:=b;rfl
structure Bl(w:AS)(g:Nat)(xs:List Int):Prop where
 blk:ak w g 94 (arr xs)
 len:xs.length=16
def nI:(Gz.prog.info? 94).map (·.size)=an 16:=aE
section
variable{w w':AS}{g:Nat}{xs ys:List Int}
def Bl.q(h:Bl w g xs)(hq:Q w w'):Bl w' g xs:=⟨h.blk.q hq,h.len⟩
def Bl.at(h:Bl w g xs)(k:Nat)(b:k<16):w.cell? ⟨g,k,ns⟩=an (U O (xs[k]?.getD 0)):=(h.blk.cell k).trans (nQ _ _ (by rw[h.len];exact b))
def Bl.free(h:Bl w g xs)(k:Nat):w.frozen? ⟨g,k,ns⟩=Bz:=h.blk.free k
def Bl.set(h:Bl w g xs)(k:Nat)(y:Int):Bl (w.setCell ⟨g,k,ns⟩ (U O y)) g (xs.set k y):=⟨by rw[<-Q6];exact h.blk.set k _,by rw[List.length_set];exact h.len⟩
def Bl.aN(h:Bl w g xs)(b:g≠p.block)(u:so):Bl (w.setCell p u) g xs:=⟨h.blk.aN b u,h.len⟩
def Bl.grown(h:Bl w g xs)(b:w.grownBy w' row)(d:an g≠row):Bl w' g xs:=⟨h.blk.grown b d,h.len⟩
def Bl.alloc(h:Bl w g xs)(o:Obj):Bl (w.alloc o) g xs:=h.q ((Q.refl w).alloc o)
def Bl.drew(h:Bl w g xs):Bl w.drew g xs:=h.q ((Q.refl w).drew)
def Bl.new(w:AS)(xs:List Int)(h:xs.length=16):Bl (w.alloc (ac (arr xs) 94)) w.heap.size xs:=⟨ak.new w _ _,h⟩
def Bl.zero(w:AS):Bl (w.alloc (ac (arr (rl 16 0)) 94)) w.heap.size (rl 16 0):=Bl.new w _ rfl
def Bl.lt(h:Bl w g xs):g<w.heap.size:=h.blk.lt
def X8(h:Bl w g xs):(akB 94 (bi (an ⟨g,0,ns⟩))).run Gz.prog w=.ok (a9 (arr xs)) w:=by have:=run_loadVar_row w g 94 94 (arr xs) (0,0) _ h.blk (Gz.gu underlying94) rfl De;simp only[akB,Instr.sureAddr,ajy,akD,ajS,this]
variable{ops:Array akG}{rest:List akG}{o:akG}{a:Act}{Q':Exit->Act->AS->Prop}
def fw(b:o.guard=ns)(d:o.op=.load 94 x){g:Nat}(e:a.eval x=bi (an ⟨g,0,ns⟩)){xs:List Int}(h:Bl w g xs)
  (hK:ajU Gz.prog ops Q' rest (a.put o.dst (a9 (arr xs))) w):ajU Gz.prog ops Q' (o::rest) a w:=
 wpList_load_row b _ x d g e 94 (arr xs) (0,0) _ h.blk (Gz.gu underlying94) rfl De hK
def fq(hw:ajr o (yielded ops a.tmps)=AT)(d:o.op=.load 94 x){g:Nat}(e:a.eval x=bi (an ⟨g,0,ns⟩)){xs:List Int}(h:Bl w g xs)
  (hK:ajU Gz.prog ops Q' rest (a.put o.dst (a9 (arr xs))) w):ajU Gz.prog ops Q' (o::rest) a w:=
 wpList_step λ_ b=>by rw[if_pos hw];exact wp_load_row _ x d g e 94 (arr xs) (0,0) _ h.blk (Gz.gu underlying94) rfl De (b _ _ hK)
def yy{S:AS->Prop}(hw:ajr o (yielded ops a.tmps)=AT)(d:o.op=.load 94 x){g:Nat}(e:a.eval x=bi (an ⟨g,0,ns⟩)){xs:List Int}(hS:∀w,S w->Bl w g xs):
  YieldsIf Gz.prog ops S o (a9 (arr xs)) a:=
 .inl ⟨hw,λw b=>by unfold execOp;simp only[d,e,X8 (hS w b),ajy,akD,ajS]⟩
def XF(h:Bl w g xs)(b:ys.length=16):∃w',(Instr.storeAt 94 (bi (an ⟨g,0,ns⟩)) (a9 (arr ys))).run Gz.prog w=.ok () w'/\Bl w' g ys/\w.grownBy w' (an g)/\w'.heap.size=w.heap.size:=by
 have hi:(Gz.prog.info? 94).map (·.size)=an (arr ys).size:=by rw[bQ,b];exact nI
 have:=run_storeVar_row (P:=Gz.prog) w g 94 94 (arr xs) (arr ys) h.blk hi (by rw[bQ,bQ,h.len,b]) (FX ys);refine⟨_,by simp only[Instr.storeAt,Instr.sureAddr,ajy,akD,ajS];exact this,⟨?_,b⟩,?_,?_⟩
 ·have d:=h.blk;unfold ak at d⊢;simp[World.setRow,Array.getElem?_modify,d]
 ·exact Dm
 ·simp
def jg(b:o.guard=ns)(x y:ajR)(e:o.op=.store 94 x y)(g:Nat)(i:a.eval x=bi (an ⟨g,0,ns⟩))(xs ys:List Int)(j:a.eval y=a9 (arr ys))(m:ys.length=16)(h:Bl w g xs)
  (hK:∀w',Bl w' g ys->w.grownBy w' (an g)->w'.heap.size=w.heap.size->ajU Gz.prog ops Q' rest (a.put o.dst undef) w'):ajU Gz.prog ops Q' (o::rest) a w:=by
 obtain⟨w',q,r,s,u⟩:=XF h m;refine wpList_plain b λK d=>?_;unfold Oper.wp execOp;simp only[e,i,j,q,ajy,akD,ajS];exact d _ _ (hK w' r s u)
end
def si(xs:List Int)(e:xs.length=16)(h:k<16)(w:AS):(alY 94 (a9 (arr xs)) (U O (k:Int))).run Gz.prog w=.ok (U O (xs[k]?.getD 0)) w:=by have h1:(0<=(k:Int)/\(k:Int)<((16:Nat):Int)):=aa;have b:=nQ xs k aa;have d:¬16<=k:=aa;simp[alY,run_underlying (Gz.gu underlying94),asIntOf,h1,go_sem,part,b,d]
def aS(xs:List Int)(M:Int):Bool:=xs.all λy=>decide (-M<=y/\y<=M)
def PT(xs:List Int)(M:Int)(k:Nat)(h:k<xs.length):aS (xs.drop k) M=(decide (-M<=xs[k]?.getD 0/\xs[k]?.getD 0<=M)&&aS (xs.drop (k+1)) M):=by unfold aS;rw[List.drop_eq_getElem_cons h,List.all_cons,List.getElem?_eq_getElem h];rfl
def nM{M:Int}(h:aS xs M=AT)(k:Nat)(hk:k<xs.length): -M<=xs[k]?.getD 0/\xs[k]?.getD 0<=M:=by exact Mh
def zE{M:Int}(j:xs.length=16)(C:0<=M)(s:M<=100000)(m:Hid (aS xs M=t)):
  aiK Gz.prog 170 #[a9 (arr xs),U O M] w λe w'=>e=be (a5 t)/\Q w w':=by
 have D:=Bl.new w xs j;have q:Q w (w.alloc (ac (arr xs) 94)):=aU;go_enter Gz.gf func170,ntmps170;go_wp2_with(first|refine fw rfl rfl rfl aG ?_|refine fq aD rfl rfl aG ?_);go_loop[8] (λi=>∃k:Nat,k<=16/\i=U O k/\Hid (aS xs M=aS (xs.drop k) M)) (λi=>16-(intOf i).toNat)
 case atStart=>exact⟨0,aa,rfl,rfl⟩
 case round=>
  obtain⟨k,E,rfl,hr⟩:=hrel;by_cases r:k<16
  ·have d:(k:Int)<16:=by omega
   have he:=λw=>si xs j r w;have b:=PT xs M k aa;generalize xs[k]?.getD 0=y at he b;by_cases u:y< -M
   ·rw[decide_eq_false λh=>aa,alX] at b;have jt:=af b;clear b;go_wp2;go_ret;exact⟨by rw[<-m.out,hr.out,jt.out];rfl,q⟩
   ·by_cases z:M<y
    ·rw[decide_eq_false λh=>aa,alX] at b;have jt:=af b;go_wp2;go_ret;exact⟨by rw[<-m.out,hr.out,jt.out];rfl,q⟩
    ·rw[decide_eq_true aa,Bool.true_and] at b;have jt:=af b;exact Dn
  ·have d:k=16:=by omega
   subst d;go_wp2;go_ret;exact⟨by rw[<-m.out,hr.out,aln (Nat.le_of_eq j)];rfl,q⟩
end
section
open Go.RowKit
def fL(w:AS)(lo hi:Nat)(v:so)(n:Nat)(xs:List Int):Prop:=Own w lo v n xs/\∀k,v.ownBlock=an k->k<hi
section
variable{w w':AS}{lo hi lm kw n n' g:Nat}{v v':so}{A:Option ajF}{c:Nat}{xs ys:List Int}{t:TO}{cs:Array so}
def Own.i(h:Own w lo v n xs):fL w lo w.heap.size v n xs:=⟨h,λk b=>(h.2.lt k b).2⟩
def fL.nil(w:AS)(lo hi:Nat):fL w lo hi (Y ns 0 0) 0 []:=⟨Own.nil _ _,λk b=>by simp[Value.ownBlock] at b⟩
def fL.q(h:fL w lo hi v n xs)(hq:Q w w'):fL w' lo hi v n xs:=⟨h.1.q hq,h.2⟩
def fL.rd(h:fL w lo hi (Y A n c) n xs):Rd w w.heap.size A xs:=h.1.rd
def fL.len(h:fL w lo hi v n xs):xs.length=n:=h.1.1
def fL.form(h:fL w lo hi v n xs):∃A c,v=Y A n c:=h.1.form
def fL.other(h:fL w lo hi v n xs)(b:fL w lm kw v' n' ys)(i:w.grownBy w' v'.ownBlock)(hd:hi<=lm\/kw<=lo):fL w' lo hi v n xs:=by
 refine⟨h.1.other i ?_,h.2⟩;cases d:v.ownBlock with
 |none=>exact .inl rfl
 |some k=>refine .inr λe=>?_;have h1:=(h.1.2.lt k d).1;have j:=h.2 k d;have m:=(b.1.2.lt k e.symm).1;have q:=b.2 k e.symm;omega
def ak.mark(h:ak w g t cs)(b:fL w lm kw v' n' ys)(d:w.grownBy w' v'.ownBlock)(hd:g<lm\/kw<=g):ak w' g t cs:=
 h.grown d (λe=>by have i:=(b.1.2.lt g e.symm).1;have j:=b.2 g e.symm;omega)
def Rd.mark{B:Nat}(h:Rd w B A xs)(b:fL w lm kw v' n' ys)(d:w.grownBy w' v'.ownBlock)(i:B<=w.heap.size)(hd:B<=lm):Rd w' B A xs:=
 h.grown d i (λg e=>by have j:=(b.1.2.lt g e).1;omega)
def Q.mark{a:AS}(h:Q a w)(b:fL w lm kw v' n' ys)(d:w.grownBy w' v'.ownBlock)(hd:a.heap.size<=lm):Q a w':=b.1.Tm h hd d
def fL.marked(d:fL w lm kw v' n' ys){b:List Int}(o:Own w' lm v' n' b):fL w' lm kw v' n' b:=⟨o,d.2⟩
end
end
end Go.Proofs.Q0
