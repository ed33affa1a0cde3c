import Derived.Test.YtjjdeakghpmpfaaGreatDoorK1
import Derived.WalkSpells
import Derived.WalkLawsBesides
import Derived.Lib.Hide
import Derived.Deep.QuietTactic
import Derived.BigQuiet
import Derived.ChangeSame
import Derived.Maps.AppendAt
import Derived.Deep.AppendLies
import Derived.Deep.RegionHeld3
import Derived.StillTail
set_option maxRecDepth 100000
set_option maxHeartbeats 8000000
set_option linter.all false
open Go.Value renaming int->U,slice->Y,bool->a9,agg->a5,pointer->ci,tuple->dl,iface->em
open Go.IntKind renaming i64->O
open Go.Obj renaming cells->ac
open Go.Ending renaming returned->be
open Bool renaming and_eq_true->OF
open Go renaming Addr->aiI,Calls->UL,Oper->aku,Operand->ajd,Program->Kx,TypeId->EV,Value->rl,World->ns,byteOf->akF,viewAt->akY,wpList->aja
open Go.Instr renaming field->ajR,index->akG,loadAt->ajF
open Go.Region renaming Mode->aki,binds->ajX,ready->aiz,wanted->aiu
open Go.Sem renaming run->aiF,runT_fst->ajf,run_bind->aiC
open List renaming range->aiB
namespace Go.Proofs
def Cu{p:Prop}(h:p:=by simp only[World.shape?,h]):p:=h
def JQ{p:Prop}(h:p:=by simp only[bind,Sem.bind,Sem.runT,hs,Option.isSome_none,Bool.false_eq_true,if_false,h];cases o<;>first|rfl|exact absurd rfl (hn _ _ _)|exact absurd rfl (hv _ _)):p:=h
def LG{p:Prop}(h:p:=by have ih:P.two.alikeButTags P.two.depth=P.alikeButTags P.depth:=funext λt=>funext λo=>Of P _ t o;rw[ih];rfl):p:=h
def JR{p:Prop}(h:p:=by simp only[hb,if_false];split<;>(split<;>first|exact .halt _ _|exact uv)):p:=h
abbrev gY:=@List.all_eq_true
abbrev fz:=@List.mem_range
abbrev de:=@Nat.lt_or_ge
abbrev iI:=@Go.RowKit.Below.heap_setCell
abbrev nN:=@Go.World.cell?_of_block
def CJ{p:Prop}(h:p:=by
  rcases h.2.2 with⟨h',hn⟩|⟨g,cap,cur,h',_⟩
  ·simp_all
  ·simp_all):p:=h
def CK{p:Prop}(h:p:=by
  rcases h.2.2 with h'|⟨g,cap,cur,h',hB,hg,hn,hm,_⟩
  ·simp_all
  ·grind):p:=h
def De{p:Prop}(h:p:=by
  rcases h.dD with⟨_,h'⟩|⟨_,_,_,_,_,h1,h2⟩
  ·omega
  ·omega):p:=h
def B8{p:Prop}(h:p:=by cases v.ownBlock<;>simp):p:=h
def aG{p:Prop}(h:p:=by assumption):p:=h
def JS{p:Prop}(h:p:=by have:=World.ownsRow.cellAt h.2 k aa;rw[this];have:=h.1;simp[show k<xs.length by omega]):p:=h
def JU{p:Prop}(h:p:=by refine⟨by rw[List.length_set];exact h.1,?_⟩;rw[List.map_set];exact(World.ownsRow.stored h.2 k _).1):p:=h
def CL{p:Prop}(h:p:=by
  obtain⟨h0,h1,h2⟩:=h;refine⟨h0,h1,?_⟩;rcases h2 with h2|⟨g,cap,cur,hv,hg,r⟩
  ·simp_all
  ·exact .inr ⟨g,cap,cur,hv,aa,r⟩):p:=h
def JV{p:Prop}(h:p:=by refine .inr λe=>?_;have h1:=(h.2.lt k hv).2;have h2:=(h'.2.lt k e.symm).1;omega):p:=h
def af{p:Prop}(h:p):Go.RowKit.Hid p:=Go.Lib.hid h
def nI{p:Prop}(h:p:=by rw[e]):p:=h
def jC{p:Prop}(h:p:=by unfold maxLen;omega):p:=h
def yo{p:Prop}(h:p:=by go_wp2;all_goals(go_ret;exact⟨by simp[*],rfl⟩)):p:=h
def LH{p:Prop}(h:p:=by
  have hm:=Int.emod_nonneg n (show d≠0 by omega);have hl:=Int.emod_lt_of_pos n hd;rw[Int.tdiv_eq_ediv,Int.tmod_eq_emod];by_cases h:0<=n\/d∣n
  ·simp_all
  ·grind):p:=h
def LI{p:Prop}(h:p:=by have b1:n.tdiv d<=1000000000001:=aa;have H:=af he;go_enter Gz.gf func58,ntmps58;go_wp2;go_ret;exact⟨by rw[<-H.out];rfl,rfl⟩):p:=h
abbrev rk:=@List.getElem_mem
def LJ{p:Prop}(h:p:=by have:=gY.1 h (xs[k]?.getD 0) (by rw[List.getElem?_eq_getElem hk];exact rk hk);exact of_decide_eq_true this):p:=h
def LK{p:Prop}(h:p:=by
  clear h;by_cases h1:8<=n
  ·by_cases h2:n<=32
   ·by_cases h3:n%8=0
    ·have h4:(n%8==0)=true:=by simp[h3]
     have h5:decide (8<=n/\n<=32/\n%8=0)=true:=decide_eq_true ⟨h1,h2,h3⟩;rw[h5];clear h5;go_enter Gz.gf func69,ntmps69;go_wp2;go_ret;exact⟨by simp[*],rfl⟩
    ·have h4:(n%8==0)=false:=by simp[h3]
     have h5:decide (8<=n/\n<=32/\n%8=0)=false:=decide_eq_false aa;rw[h5];clear h5 h3;go_enter Gz.gf func69,ntmps69;go_wp2;go_ret;exact⟨by simp[*],rfl⟩
   ·have h4:decide (n<=32)=false:=by simp;omega
    have h5:decide (8<=n/\n<=32/\n%8=0)=false:=decide_eq_false aa;clear h5 h2;go_enter Gz.gf func69,ntmps69;go_wp2;all_goals(go_ret;exact⟨by simp[*],rfl⟩)
  ·have h4:decide (8<=n)=false:=by simp;omega
   have h5:decide (8<=n/\n<=32/\n%8=0)=false:=decide_eq_false aa;rw[h5];clear h5 h1;go_enter Gz.gf func69,ntmps69;go_wp2;all_goals(go_ret;exact⟨by simp[*],rfl⟩)):p:=h
def nJ{p:Prop}(h:p:=by rw[hn.out];omega):p:=h
def xz{p:Prop}(h:p:=by rw[hn.out];exact aT):p:=h
def aH{p:Prop}(h:p:=by go_num):p:=h
def JW{p:Prop}(h:p:=by
  go_wp2;go_round;case rel=>exact⟨k+1,aa,aH,by rw[Hid,hr.out,jn.out];rfl⟩
  case measure=>simp[intOf];omega):p:=h
def aR{p:Prop}(h:p:=by repeat(first|exact Q.refl _|assumption|refine Q.drewN ?_ _|refine Q.drew ?_|refine Q.alloc ?_ _|refine Q.trans ?_ (by assumption)|refine Q.set ?_ (by first|exact Nat.le_refl _|omega|(simp;done)|(simp;omega)) _)):p:=h
def JX{p:Prop}(h:p:=by go_enter Gz.gf func43,ntmps43;go_wp2;refine(kh HW.out).mono ?_;rintro e w'⟨rfl,rfl⟩;go_wp2;refine(kh HH.out).mono ?_;rintro e w'⟨rfl,rfl⟩;go_wp2;go_ret;exact⟨by rw[HT.out];rfl,q0⟩):p:=h
def yd{p:Prop}(h:p:=by go_enter Gz.gf func33,ntmps33;go_wp2;(refine(py HW.out).mono ?_;rintro e w'⟨rfl,rfl⟩);go_wp2;(refine(py HH.out).mono ?_;rintro e w'⟨rfl,rfl⟩);go_wp2;go_ret;exact⟨by rw[HT.out];rfl,q0⟩):p:=h
abbrev yz:=@Nat.mul_le_mul_right
abbrev kS:=@Ne.symm
def tW{p:Prop}(h:p:=by rw[hr];simp):p:=h
end Go.Proofs
namespace Go.Proofs.Q0.aI
variable{α β:Type}{v v' u u':rl}{t:EV}{xs ys:Array rl}{r:Nat}{a a':aiI}
section
variable[ag]
section
variable{P:Kx}{K:aF}{φ:Ren}
def SR.ask{R:Ren->α->β->Prop}{f:Kx->Sem α}{f':Kx->Sem β}(h:SR P K R φ (f P) (f' P))(e:f' P.two=f' P:=by rfl):SR P K R φ (Go.program>>=f) (Go.program>>=f'):=.program (show SR P K R φ (f P) (f' P.two) by rw[e];exact h)
def uB:fh P (goPanic v:Sem α):=λw=>⟨.panic v,w,rfl,trivial,.refl w⟩
def eP{u:Unsupported}(hu:lf (.unsupported u):=by trivial):fh P (unsupported u:Sem α):=λw=>⟨.unsupported u,w,rfl,hu,.refl w⟩
def gI{b:String}:fh P (stuck b:Sem α):=λw=>⟨.stuck b,w,rfl,trivial,.refl w⟩
def nW{s:Sem α}(h:∀w,∃a c,s.run P w=.ok a c/\jO w c):Calm P s:=λw=>by obtain⟨a,g,d,f⟩:=h w;rw[d];exact⟨λx c e=>bw,λb c e=>(by cases e;exact f)⟩
def Mz:Calm P program:=nW λw=>⟨_,_,rfl,.refl w⟩
def yQ{q:Question}:Calm P (choose q):=nW λw=>by show∃a b,(Sem.choose q .pure).run P w=.ok a b/\jO w b;simp only[aiF];split<;>exact⟨_,_,rfl,.refl w⟩
def Yz(w:ns){o:Obj}:jO w {w with heap:=w.heap.push o}:=⟨aj,λb c=>by show(w.heap.push o)[b]?=_;rw[Array.getElem?_push_lt c,Array.getElem?_eq_getElem c]⟩
def XP:Calm P (newVar t v):=nW λw=>⟨_,_,rfl,Yz w⟩
def mO{s:Sem α}{f:α->Sem β}(h:Calm P s)(g:∀a,Calm P (f a)):Calm P (s>>=f):=λw=>by
 rw[aiC];cases i:s.run P w with
 |ok a d=>have k:=(h w).2 _ _ i;exact⟨λx c e=>⟨((g a d).1 x c e).1,k.trans ((g a d).1 x c e).2⟩,λb c e=>k.trans ((g a d).2 b c e)⟩
 |halt y d=>exact⟨λx c e=>(by cases e;exact(h w).1 _ _ i),λb c e=>bw⟩
def jI{a:α}:Calm P (pure a:Sem α):=nW λw=>⟨_,_,rfl,.refl w⟩
def Xj:Looks P (elemOf t):=(qZ t).bind λd=>by cases d<;>first|exact .ret _|exact .stuck _
def eZ{d:Type}{s:Sem α}{f:α->Sem d}(h:∀a,fh P (f a))(c:Calm P s:=by first|exact Mz|exact yQ|exact XP|exact(rj _).calm|exact(qZ _).calm|exact(Xj).calm|exact(yL _).calm):fh P (s>>=f):=by
 intro w;cases e:s.run P w with
 |ok a b=>obtain⟨x,g,i,j,k⟩:=h a b;exact⟨x,g,by rw[aiC,e];exact i,j,((c w).2 a b e).trans k⟩
 |halt x b=>exact⟨x,b,by rw[aiC,e];rfl,((c w).1 x b e).1,((c w).1 x b e).2⟩
def dB(e:RuntimeError):fh P (runtimePanic e:Sem α):=by
 refine eZ λp=>?_;cases e with
 |typeAssertion i c a m=>exact eZ λ_=>eZ λ_=>uB
 |panicNil=>exact eZ λ_=>eZ λ_=>uB
 |_=>exact uB
def aa1(b:bZ P)(t:EV):SR P K VR φ (Instr.alloc t true (.tuple #[])) (Instr.alloc t true (.tuple #[])):=
 SR.bind (pk b t) λd z e _ h=>SR.bind (Od t h) λf a a' _ c=>.pure (.ptr c)
def aeo(t:EV)(h:VR φ v v'):SR P K VR φ (Instr.box t v) (Instr.box t v'):=
 SR.bind (Od t h) λc a a' _ b=>.pure (.ptr b)
def uL(t:EV)(h:VR φ v v'):SR P K VR φ (ajF t v) (ajF t v'):=
 SR.bind (uG h) λc a a' _ b=>uH t b
def YA(t:EV)(h:VR φ v v')(hu:VR φ u u'):SR P K aY φ (Instr.storeAt t v u) (Instr.storeAt t v' u'):=
 SR.bind (uG h) λd a a' b c=>XO t c (hu.mono b)
def YB(i:Nat)(h:VR φ v v'):SR P K VR φ (Instr.extract v i) (Instr.extract v' i):=by
 cases h with
 |@tuple xs ys b c=>
  unfold Instr.extract;dsimp only;cases hi:xs[i]? with
  |none=>exact .halt _ _
  |some x=>obtain⟨y,d,e⟩:=(ax.mk b c).get hi;rw[d];exact .pure e
 |_=>exact .halt _ _
def ax.extract(h:ax φ xs ys)(a b:Nat):ax φ (xs.extract a b) (ys.extract a b):=by
 refine⟨by simp[h.size],λi x y c d=>?_⟩;rw[Array.getElem?_extract] at c d;split at c
 ·rw[if_pos tU] at d;exact h.at_ _ x y c d
 ·cases c
def kV(t:EV)(h:ax φ xs ys)(off:Nat):SR P K VR φ (part t xs off) (part t ys off):=by
 refine SR.bind (Ex t) λi b _ d e=>?_;subst e;cases b with
 |true=>refine SR.bind (eF t) λj n _ c e=>?_;subst e;have:=((h.mono d).mono c).extract off (off+n);exact .pure (.agg this.size this.at_)
 |false=>
  cases hi:xs[off]? with
  |none=>exact .halt _ _
  |some x=>obtain⟨y,f,g⟩:=h.get hi;rw[f];exact .pure (g.mono d)
def aa2(t:EV)(h:VR φ v v')(i:Nat):SR P K VR φ (ajR t v i) (ajR t v' i):=by
 refine SR.bind (dX t) λj d _ c e=>?_;subst e;cases d with
 |struct b=>
  dsimp only;cases b[i]? with
  |none=>exact .halt _ _
  |some f=>exact SR.bind (aa0 (h.mono c)) λk xs ys _ g=>kV f.type g f.offset
 |_=>exact .halt _ _
def uv{R:Ren->α->β->Prop}{k:IntKind}{x y:Int}{c:BoundsCode}{s':Sem β}:SR P K R φ (boundsPanic k x y c) s':=by
 unfold boundsPanic;split
 ·exact .dead (eZ (λ_=>dB _) (mO yQ λ_=>jI))
 ·exact .dead (eZ (λ_=>dB _) jI)
def aa3(t:EV)(h:VR φ v v')(hu:VR φ u u'):SR P K VR φ (akG t v u) (akG t v' u'):=by
 refine SR.bind (yW hu) λm x _ g e=>?_;subst e;obtain⟨k,i⟩:=x;refine SR.bind (dX t) λo d _ c e=>?_;subst e;cases h with
 |@agg xs ys j l=>
  cases d with
  |array len elem=>
   by_cases f:0<=i/\i<len
   ·simp only[f,and_self,if_true];refine SR.bind (eF elem) λp n _ b e=>?_;subst e;exact kV elem ((((ax.mk j l).mono g).mono c).mono b) _
   ·simp only[f,if_false];exact uv
  |_=>exact .halt _ _
 |string s=>
  cases d with
  |string=>
   dsimp only;split
   ·exact .pure (.int _ _)
   ·exact uv
  |_=>exact .halt _ _
 |_=>cases d<;>exact .halt _ _
def Wi(h:VR φ v v')(b:ag.np t):SR P K VR φ (Instr.makeInterface t v) (Instr.makeInterface t v'):=by refine SR.bind (dX t) λf d _ c e=>?_;subst e;cases d with|interface _=>exact .halt _ _|_=>exact .pure (.iface t (h.mono c) (.inl b))
def XQ{f:Fn}(b:fe φ f f){us vs:Array rl}(h:ax φ xs ys)(k:ax φ us vs):SR P K VR φ (Instr.makeFunc f xs us) (Instr.makeFunc f ys vs):=
 .pure (.func b h.size h.at_ k.size k.at_)
def aa4{c:Nat}(h:φ r=some c){k b:Option (EV×Nat)->Sem β}{R:Ren->β->β->Prop}(h1:∀s,SR P K R φ (k s) (b s))(d:∀s,SR P K R φ (k none) (b s)):
  SR P K R φ (shape r>>=k) (shape c>>=b):=.shape h h1 d
def ru{w:ns}{cs:Array rl}{f:Nat×Nat}(h:w.heap[r]?=some (.cells cs t f))(es:Array Event){P:Kx}:(akY r).runT P w es=(.ok none w,es):=by have b:w.shape? r=some (t,cs.size):=Cu;unfold akY shape;simp only[bind,Sem.bind,Sem.runT,b,Option.isSome_some,if_true];rfl
def pn{w:ns}{o:Obj}(h:w.heap[r]?=some o)(hn:∀cs t f,o≠.cells cs t f)(hv:∀x y,o≠.view x y)(es:Array Event){P:Kx}:(akY r).runT P w es=(.ok none w,es.push ⟨.obj r,false,o.isChan⟩):=by
 have hs:w.shape? r=none:=by unfold World.shape?;rw[h];cases o<;>first|rfl|exact absurd rfl (hn _ _ _)
 unfold akY shape getObj;exact JQ
def Og{j:Nat}(h:φ r=some j):SR P K (λ_ a b=>a=none/\b=none) φ (akY r) (akY j):=by
 refine .of_does (λ{w z c G} es hw H=>?_) (λw z hw x G e=>?_) (λw z hw x G e=>?_)
 case refine_3=>
  obtain⟨o,k,m,A,B⟩:=hw.heap.obj _ _ h
  have I:∀J:ns,J.heap[r]?=some o->(akY r).run P J=.ok none J:=by
   intro J h0;rw[<-ajf P (akY r) J #[]];rcases isCells o with⟨q,t,f,rfl⟩|hn
   ·rw[ru h0]
   ·rw[pn h0 hn (B.other hn)]
  rw[I w m] at e;cases e;exact⟨0,rfl,rfl,λT n _=>I _ m⟩
 case refine_2=>
  obtain⟨o,k,m,A,B⟩:=hw.heap.obj _ _ h;rw[<-ajf P (akY r) w #[]] at e;rcases isCells o with⟨q,t,f,rfl⟩|hn
  ·rw[ru m] at e;cases e
  ·rw[pn m hn (B.other hn)] at e;cases e
 obtain⟨o,k,m,A,B⟩:=hw.heap.obj _ _ h;have g:(akY r).runT P w #[]=(.ok c G,((akY r).runT P w #[]).2):=by rw[<-H,<-ajf P (akY r) w #[]]
 have i:∀d,c=none->G=w->(akY j).runT P.two z es=(.ok none z,es++d)->(∀e∈d,ey K φ e)->
   ∃N b C d,(akY j).runT P.two z es=(.ok b C,es++d)/\(c=none/\b=none)/\WR K N G C/\iv w G/\eH K φ N w.heap.size z C/\∀e∈d,ey K N e:=λd hc L R hd=>
  ⟨φ,none,z,d,R,⟨hc,rfl⟩,L▸hw,L▸.refl _,.refl _ _ _ _,hd⟩
 rcases isCells o with⟨q,t,f,rfl⟩|hn
 ·obtain⟨Q,X,rfl,_⟩:=B.cells;rw[ru m] at g;cases g;exact i #[] rfl rfl (by rw[ru A];simp) aj
 ·have S:=B.other hn;rw[pn m hn S] at g;cases g;cases B with
  |shut=>exact absurd rfl (hn _ _ _)
  |token s p Q t h1 M=>exact i #[] rfl rfl (by rw[ru A];simp) aj
  |blank s p h1 M=>
   have D:∀q t f,k≠.cells q t f:=λq t f e=>by subst e;exact M
   have E:∀x y,k≠.view x y:=λx y e=>by subst e;exact M
   have F:k.isChan=false:=by cases k<;>first|rfl|exact M.elim
   exact i #[⟨.obj j,false,false⟩] rfl rfl (by rw[pn A D E,F];simp) (λe he=>by simp at he;subst he;exact .inr (.inl ⟨j,r,rfl,rfl,h,λe=>by cases e⟩))
  |num l h1 M=>exact i #[⟨.obj j,false,false⟩] rfl rfl (by rw[pn A (λ_ _ _ e=>by cases e) λ_ _ e=>by cases e];simp[Obj.isChan]) (λe he=>by simp at he;subst he;exact .inr (.inl ⟨j,r,rfl,rfl,h,λe=>by cases e⟩))
  |own V W h3 _=>
   have D:∀q t f,k≠.cells q t f:=λq t f e=>by exact CI
   have E:∀x y,k≠.view x y:=λx y e=>by subst e;cases h3
   have F:k.isChan=false:=by cases h3<;>rfl
   exact i #[⟨.obj j,false,false⟩] rfl rfl (by rw[pn A D E,F];simp) (λe he=>by simp at he;subst he;exact .inr (.inl ⟨j,r,rfl,rfl,h,λ_=>⟨W,V⟩⟩))
def ZI(b:AR φ a a'):SR P K aY φ (noView a) (noView a'):=by refine SR.bind (Og b.block) λc x y _ h=>?_;obtain⟨rfl,rfl⟩:=h;exact .pure rfl
def Df(P:Kx):∀(d:Nat)(t:EV)(o:Nat),byteOfCell P.two d t o=byteOfCell P d t o
 |0,_,_=>rfl
 |d+1,t,o=>by unfold byteOfCell;have b:byteOfCell P.two d=byteOfCell P d:=funext λt=>funext λo=>Df P d t o;rw[b];rfl
def Of(P:Kx):∀(d:Nat)(t u:EV),P.two.alikeButTags d t u=P.alikeButTags d t u
 |0,_,_=>rfl
 |d+1,t,u=>by unfold Program.alikeButTags;have b:P.two.alikeButTags d=P.alikeButTags d:=funext λt=>funext λo=>Of P d t o;rw[b];rfl
def CM{P:Kx}(t:EV):P.two.stoodInHeld t=P.stoodInHeld t:=by
 have:P.two.stoodInAs t=P.stoodInAs t:=by unfold Program.stoodInAs;exact LG
 unfold Program.stoodInHeld;rw[this];rfl
def CN(P:Kx):∀(d:Nat)(t:EV),P.two.eqGuardType d t=P.eqGuardType d t
 |0,_=>rfl
 |d+1,t=>by unfold Program.eqGuardType;have b:P.two.eqGuardType d=P.eqGuardType d:=funext λt=>CN P d t;rw[b];rfl
def pv(c:AR φ a a'):SR P K aY φ (akF a) (akF a'):=by
 unfold akF;rw[c.spot];cases a.spot with
 |some s=>exact .pure rfl
 |none=>
  refine SR.ask ?_ (by simp only[Df];rfl);refine SR.bind (S:=aY) (ZI c) λd _ _ f _=>?_;refine SR.shape (f _ _ c.block) (λs=>?_) λs=>.halt _ _;cases s with
  |none=>exact .halt _ _
  |some x=>
   obtain⟨e,n⟩:=x;rw[c.off];show SR P K aY d (if P.cellsOf e=0 then(pure 0:Sem Nat) else _) (if P.cellsOf e=0 then(pure 0:Sem Nat) else _);by_cases h:P.cellsOf e=0
   ·simp only[h,if_true];exact .pure rfl
   ·simp only[h,if_false];cases byteOfCell P P.depth e (a.off%P.cellsOf e) with|none=>exact .halt _ _|some b=>exact .pure rfl
def Dp(i:AR φ a a')(f:Field):SR P K AR φ (fieldPlace a f) (fieldPlace a' f):=by
 refine SR.bind (eF _) λo n _ j e=>?_;subst e;by_cases h:n=0
 ·simp only[h,if_true];refine SR.bind (pv (i.mono j)) λm b _ k e=>?_;subst e;have d:=(i.mono j).mono k;have l:AR m {block:=a.block,off:=a.off+f.offset} {block:=a'.block,off:=a'.off+f.offset}:=⟨d.block,by simp[d.off],rfl⟩;refine SR.bind (pv l) λp c _ g e=>?_;subst e;refine .pure ?_;split
  ·exact l.mono g
  ·exact⟨g _ _ d.block,by simp[d.off],rfl⟩
 ·simp only[h,if_false];exact .pure ((i.mono j).add _)
def YC(t:EV)(h:VR φ v v')(i:Nat):SR P K VR φ (Instr.fieldAt t v i) (Instr.fieldAt t v' i):=by
 refine SR.bind (dX t) λl d _ g e=>?_;subst e;cases d with
 |struct c=>
  dsimp only;cases c[i]? with
  |none=>exact .halt _ _
  |some f=>exact SR.bind (uG (h.mono g)) λm a a' _ j=>SR.bind (Dp j f) λn b o _ k=>.pure (.ptr k)
 |_=>exact .halt _ _
def se(t:EV)(k:IntKind)(i:Int)(base:Option aiI)(len:Nat)(elem:EV):Sem rl:=do
 let d<-underlying t
 let b:=len<=1&&(match d with|.array .. =>true|_=>false)
 match base with
 |some a=>
  if 0<=i/\i<len then pure (.pointer (some (a.add (i.toNat*(<-sizeOf elem)))))
  else if b then unsupported (.noEntry "op/indexAddr.an index out of range at an array of length 0 or 1 (ledger 616)")
  else boundsPanic k i len .index
 |none=>boundsPanic k i 0 .index
def Ns(t:EV)(k:IntKind)(i:Int)(len:Nat)(elem:EV)(c:AR φ a a'):SR P K VR φ (se t k i (some a) len elem) (se t k i (some a') len elem):=by
 refine SR.bind (dX t) λg d _ f e=>?_;by_cases hb:0<=i/\i<len
 ·simp only[hb,and_self,if_true];refine SR.bind (eF elem) λh n _ b e=>?_;subst e;exact .pure (.ptr (((c.mono f).mono b).add _))
 ·exact JR
def YD(t:EV)(k:IntKind)(i:Int)(len:Nat)(elem:EV):SR P K VR φ (se t k i none len elem) (se t k i none len elem):=by refine SR.bind (dX t) λb d _ c e=>?_;exact uv
def XR(t:EV)(k:IntKind)(i:Int)(elem:EV):SR P K VR φ (se t k i (some a) 0 elem) (se t k i (some a') 0 elem):=by refine SR.bind (dX t) λb d _ c e=>?_;have hb:¬(0<=i/\i<((0:Nat):Int)):=aa;exact JR
def Nt(t:EV)(h:VR φ v v')(hu:VR φ u u'):SR P K VR φ (Instr.indexAt t v u) (Instr.indexAt t v' u'):=by
 refine SR.bind (yW hu) λj x _ g e=>?_;subst e;obtain⟨k,i⟩:=x;refine SR.bind (dX t) λl d _ b e=>?_;subst e;cases d with
 |array len elem=>exact SR.bind (uG ((h.mono g).mono b)) λm a a' _ f=>Ns t k i len elem f
 |slice elem=>cases h with|dk n c=>exact YD t k i n elem|slice n c f=>exact Ns t k i n elem ((f.mono g).mono b)|empty=>exact XR t k i elem|_=>exact .halt _ _
 |_=>exact .halt _ _
end
end
end Go.Proofs.Q0.aI
namespace Go.Proofs
def Gz.aa5{P:Kx}{n:Nat}{fn:Func}(h:P.funcs[n]?=some fn)(a:fn.body.isNone=false)(b:(fn.name== "runtime.NumGoroutine")=false)(args:Array rl)(w:ns):aiF P (callFunc n args) w=.ok (.enter n args) w:=by
 show(match P.funcs[n]? with
  |none=>_
  |some fn=>_:Sem Next).run P w=_
 rw[h];simp only[b,a,Bool.false_eq_true,if_false];rfl
@[simp] theorem Gz.toT:Gz.prog.toTables=Tryz.prog.toTables:=rfl
@[simp] theorem Gz.deep:Gz.prog.depth=Tryz.prog.depth:=aC
section
noncomputable local instance:Q0.aI.ag:={ok:=λ_=>False,fv:=λ_=>False,gl:=λ_=>False,cd:=λ_ _=>False,fs:=Gz.prog.funcs,lv:=λ_ _=>False,dH:=λ_ _=>False,home:=0,cl:=λ_=>False,np:=λ_=>False,hd:=λ_=>False,jk:=λ_=>False}
def Gz.Tx:Tryz.prog.two=Gz.prog:=aC
@[simp] theorem Gz.guards(d:Nat)(t:EV):Gz.prog.eqGuardType d t=Tryz.prog.eqGuardType d t:=by rw[<-Gz.Tx];exact Q0.aI.CN _ d t
@[simp] theorem Gz.stood(t:EV):Gz.prog.stoodInHeld t=Tryz.prog.stoodInHeld t:=by rw[<-Gz.Tx];exact Q0.aI.CM t
end
def Gz.gf{n:Nat}{f:Func}(h:Tryz.prog.funcs[n]?=some f)(a:n≠40:=by decide):Gz.prog.funcs[n]?=some f:=Gz.l8 h a
abbrev Gz.gu{t:EV}{i:TypeDesc}(h:Tryz.prog.underlying t=some i):Gz.prog.underlying t=some i:=(Gz.under t).trans h
def Gz.tp:((aiB 230).all λn=>!(decide ((1<n/\n<90)\/(95<n/\n<98)\/(98<n/\n<101)\/(102<n/\n<107)\/(108<n/\n<110)\/(111<n/\n<128)\/(131<n/\n<134)\/(134<n/\n<139)\/(139<n/\n<189)\/(204<n/\n<207)\/(218<n/\n<220)\/(222<n/\n<224)\/(228<n/\n<230)))||match Gz.prog.funcs[n]? with
  |some fn=>!fn.body.isNone&&!(fn.name== "runtime.NumGoroutine")
  |none=>false)=true:=by kernel_rfl
@[simp] theorem Gz.ahF(n:Nat)(args:Array rl)(w:ns)(h:(1<n/\n<90)\/(95<n/\n<98)\/(98<n/\n<101)\/(102<n/\n<107)\/(108<n/\n<110)\/(111<n/\n<128)\/(131<n/\n<134)\/(134<n/\n<139)\/(139<n/\n<189)\/(204<n/\n<207)\/(218<n/\n<220)\/(222<n/\n<224)\/(228<n/\n<230)):aiF Gz.prog (callFunc n args) w=.ok (.enter n args) w:=by
 have h1:=gY.1 Gz.tp n (fz.2 aa);rw[decide_eq_true h] at h1;cases hf:Gz.prog.funcs[n]? with
 |none=>rw[hf] at h1;cases h1
 |some fn=>rw[hf] at h1;simp only[Bool.not_true,Bool.false_or,OF,Bool.not_eq_true'] at h1;exact Gz.aa5 hf h1.1 h1.2 args w
def Gz.cl(n:Nat)(h:(1<n/\n<90)\/(95<n/\n<98)\/(98<n/\n<101)\/(102<n/\n<107)\/(108<n/\n<110)\/(111<n/\n<128)\/(131<n/\n<134)\/(134<n/\n<139)\/(139<n/\n<189)\/(204<n/\n<207)\/(218<n/\n<220)\/(222<n/\n<224)\/(228<n/\n<230):=by decide)(args:Array rl)(w:ns):aiF Gz.prog (callFunc n args) w=.ok (.enter n args) w:=by simp_all
end Go.Proofs
namespace Go.Proofs.Q0
open Go.Proofs.Tryz
variable{w w':ns}{p:aiI}{row:Option Nat}{xs:List Int}{A:Option aiI}{B k n i fuel:Nat}{v:rl}{Q':Exit->Act->ns->Prop}{a:Act}{o oi:aku}{rest l:List aku}{ops:Array aku}{lo hi W H:Int}{t:Bool}{f:Nat->Int}{listed:Array Bool}
section
open Go.RowKit Go.WideShapes Go.ChangeShapes
def Q(w w':ns):Prop:=Below w.heap.size w w'
def Q.refl(w:ns):Q w w:=Below.refl _ _
def Q.trans{a b c:ns}(h:Q a b)(k:Q b c):Q a c:=Below.trans h (Below.mono k h.size)
def Q.drewN{a:ns}(h:Q a w)(n:Nat):Q a (w.drewN n):=⟨h.os,h.tape,h.output,h.size,h.block⟩
def Q.drew{a:ns}(h:Q a w):Q a w.drew:=⟨h.os,h.tape,h.output,h.size,h.block⟩
def Q.alloc{a:ns}(h:Q a w)(o:Obj):Q a (w.alloc o):=Below.alloc h h.size o
def Q.set{a:ns}(h:Q a w)(b:a.heap.size<=p.block)(u:rl):Q a (w.setCell p u):=Below.setCell h b u
def Q.size{a w:ns}(h:Q a w):a.heap.size<=w.heap.size:=Below.size h
def Q.cell{a w:ns}(h:Q a w):∀b o,b<a.heap.size->w.cell? ⟨b,o,none⟩=a.cell? ⟨b,o,none⟩:=λb o d=>Below.cell (p:=⟨b,o,none⟩) h d
def Q.frozen{a:ns}(h:Q a w):∀b o,b<a.heap.size->w.frozen? ⟨b,o,none⟩=a.frozen? ⟨b,o,none⟩:=λb o d=>Below.frozen (p:=⟨b,o,none⟩) h d
def Q.jf(h:w.grownBy w' none):Q w w':=⟨h.os,h.tape,h.output,h.size,λk b=>h.block k b aj⟩
def Q.grown{a:ns}(h:Q a w)(b:w.grownBy w' row)(hr:∀k,row=some k->a.heap.size<=k):Q a w':=Below.grown h b h.size hr
def ak(w:ns)(g:Nat)(t:EV)(cs:Array rl):Prop:=w.heap[g]?=some (ac cs t (0,0))
section
variable{w w':ns}{g:Nat}{t:EV}{cs:Array rl}
def ak.lt(h:ak w g t cs):g<w.heap.size:=by
 rcases de g w.heap.size with d|b
 ·omega
 ·unfold ak at h;rw[Array.getElem?_eq_none b] at h;cases h
def ak.cell(h:ak w g t cs):∀i,w.cell? ⟨g,i,none⟩=cs[i]?:=λi=>cell_of_row w g i cs t (0,0) h
def ak.free(h:ak w g t cs):∀i,w.frozen? ⟨g,i,none⟩=false:=λi=>by unfold ak at h;simp[World.frozen?,h]
def ak.new(w:ns)(t:EV)(cs:Array rl):ak (w.alloc (ac cs t)) w.heap.size t cs:=heap_alloc_new w _
def ak.q(h:ak w g t cs)(hq:Q w w'):ak w' g t cs:=(hq.block g h.lt).trans h
def ak.oj(h:ak w g t cs)(hq:Q w w'):∀i,w'.cell? ⟨g,i,none⟩=cs[i]?:=(h.q hq).cell
def ak.drewN(h:ak w g t cs)(n:Nat):ak (w.drewN n) g t cs:=h
def ak.alloc(h:ak w g t cs)(o:Obj):ak (w.alloc o) g t cs:=h.q ((Q.refl w).alloc o)
def ak.set(h:ak w g t cs)(i:Nat)(u:rl):ak (w.setCell ⟨g,i,none⟩ u) g t (cs.setIfInBounds i u):=by unfold ak at h⊢;simp[World.setCell,Array.getElem?_modify,h]
def ak.aN(h:ak w g t cs)(b:g≠p.block)(u:rl):ak (w.setCell p u) g t cs:=(iI w p u g b).trans h
def ak.grown(h:ak w g t cs)(b:w.grownBy w' row)(d:some g≠row):ak w' g t cs:=(b.block g h.lt d).trans h
end
def Rd(w:ns)(B:Nat)(A:Option aiI)(xs:List Int):Prop:=
 0<xs.length->∃b o,A=some ⟨b,o,none⟩/\b<B/\∀i,i<xs.length->w.cell? ⟨b,o+i,none⟩=some (U O (xs[i]?.getD 0))
def Rd.nil(w:ns)(B:Nat)(A:Option aiI):Rd w B A []:=λh=>absurd h aj
def Rd.cM(h:Rd w B A xs)(e:∀b o,b<B->w'.cell? ⟨b,o,none⟩=w.cell? ⟨b,o,none⟩):Rd w' B A xs:=λj=>by obtain⟨b,o,rfl,d,hc⟩:=h j;exact⟨b,o,rfl,d,λi hi=>(e b _ d).trans (hc i hi)⟩
def Rd.more{B':Nat}(h:Rd w B A xs)(e:B<=B'):Rd w B' A xs:=λd=>by obtain⟨b,o,rfl,j,hc⟩:=h d;exact⟨b,o,rfl,aa,hc⟩
def Rd.q(h:Rd w B A xs)(hq:Q w w')(d:B<=w.heap.size):Rd w' B A xs:=
 h.cM λb o e=>hq.cell b o aa
def Rd.drewN(h:Rd w B A xs)(k:Nat):Rd (w.drewN k) B A xs:=h
def Rd.alloc(h:Rd w B A xs)(b:B<=w.heap.size)(o:Obj):Rd (w.alloc o) B A xs:=h.q ((Q.refl w).alloc o) b
def Rd.grown(h:Rd w B A xs)(d:w.grownBy w' row)(j:B<=w.heap.size)(hr:∀g,row=some g->B<=g):Rd w' B A xs:=
 h.cM λb o m=>nN (a:=⟨b,o,none⟩) (d.block b aa λe=>by have:=hr _ e.symm;omega)
def Own(w:ns)(B:Nat)(v:rl)(n:Nat)(xs:List Int):Prop:=xs.length=n/\w.ownsRow B 3 1 v n (xs.map (Value.int .i64))
section
variable{w w':ns}{B B' g c n:Nat}{v:rl}{A:Option aiI}{xs:List Int}
def Own.nil(w:ns)(B:Nat):Own w B (Y none 0 0) 0 []:=⟨rfl,World.ownsRow_nil _ _ _ _⟩
def Own.jT(w:ns)(B:Nat)(b:B<=w.heap.size):Own (w.alloc (ac #[] 3)) B (Y (some ⟨w.heap.size,0,none⟩) 0 0) 0 []:=
 ⟨rfl,World.ownsRow_lit w #[] 0 b (dC _) rfl⟩
def Own.len(h:Own w B v n xs):xs.length=n:=h.1
def Own.form(h:Own w B v n xs):∃A c,v=Y A n c:=by exact CJ
def Own.dD(h:Own w B v n xs):(v=Y none 0 0/\n=0)\/∃g c,v=Y (some ⟨g,0,none⟩) n c/\B<=g/\g<w.heap.size/\n<=c/\c<=maxLen:=by exact CK
def Own.le(h:Own w B v n xs):n<=maxLen:=by exact De
def Own.q(h:Own w B v n xs)(hq:Q w w'):Own w' B v n xs:=
 ⟨h.1,h.2.kept (w':=w') (row:=none) ⟨hq.os,hq.tape,hq.output,hq.size,λk b _=>hq.block k b⟩ B8⟩
def Own.drewN(h:Own w B v n xs)(k:Nat):Own (w.drewN k) B v n xs:=aG
def Own.alloc(h:Own w B v n xs)(o:Obj):Own (w.alloc o) B v n xs:=h.q ((Q.refl w).alloc o)
def Own.drew(h:Own w B v n xs):Own w.drew B v n xs:=aG
def Own.block(h:Own w B (Y (some ⟨g,0,none⟩) n c) n xs):B<=g/\g<w.heap.size:=by
 rcases h.dD with⟨b,_⟩|⟨_,_,b,d,e,_⟩
 ·cases b
 ·simp_all
def Own.at(h:Own w B (Y (some ⟨g,0,none⟩) n c) n xs)(k:Nat)(b:k<n):w.cell? ⟨g,k,none⟩=some (U O (xs[k]?.getD 0)):=by exact JS
def Own.free(h:Own w B (Y (some ⟨g,0,none⟩) n c) n xs)(k:Nat):w.frozen? ⟨g,k,none⟩=false:=World.ownsRow.frozenAt h.2 k
def Own.set(h:Own w B (Y (some ⟨g,0,none⟩) n c) n xs)(k:Nat)(x:Int):Own (w.setCell ⟨g,k,none⟩ (U O x)) B (Y (some ⟨g,0,none⟩) n c) n (xs.set k x):=by exact JU
def Own.rd(h:Own w B (Y A n c) n xs):Rd w w.heap.size A xs:=λm=>by
 have q:=h.1;rcases h.dD with⟨b,r⟩|⟨g,d,b,s,e,_⟩
 ·omega
 ·have j:A=some ⟨g,0,none⟩:=by injection b
  subst j;refine⟨g,0,rfl,e,λi hi=>?_⟩;rw[Nat.zero_add];exact h.at i aa
def Own.mono(h:Own w B v n xs)(b:B'<=B):Own w B' v n xs:=by exact CL
def Own.other(h:Own w B v n xs)(d:w.grownBy w' row)(b:v.ownBlock=none\/v.ownBlock≠row):Own w' B v n xs:=⟨h.1,h.2.kept d b⟩
def Own.ne{w2:ns}{b d:Nat}{v2:rl}{e:List Int}(h:Own w B v n xs)(h':Own w2 b v2 d e)(j:w.heap.size<=b):v.ownBlock=none\/v.ownBlock≠v2.ownBlock:=by
 cases hv:v.ownBlock with
 |none=>exact .inl rfl
 |some k=>exact JV
def Own.SG{a:ns}(h:Own w B v n xs)(hq:Q a w)(b:a.heap.size<=B)(d:w.grownBy w' v.ownBlock):Q a w':=
 hq.grown d λk e=>aJ b (h.2.lt k e).1
def Own.aN(h:Own w B v n xs)(b:p.block<B)(u:rl):Own (w.setCell p u) B v n xs:=⟨h.1,ownsRow_setCell_below h.2 b u⟩
end
def af{p:Prop}(h:p):Hid p:=h
def ry{a:ns}{g:Nat}(h:a.grownBy w (some g))(k:Nat)(u:rl):a.grownBy (w.setCell ⟨g,k,none⟩ u) (some g):=
 ⟨h.os,h.tape,h.output,by simpa[World.setCell] using h.size,λi hi b=>(iI w ⟨g,k,none⟩ u i λe=>b nI).trans (h.block i hi b)⟩
def Dq{a:ns}(h:a.grownBy w row)(n:Nat):a.grownBy (w.drewN n) row:=⟨h.os,h.tape,h.output,h.size,h.block⟩
def Dg(h:k<xs.length):xs.take (k+1)=xs.take k++[xs[k]?.getD 0]:=eg
end
section
open Go.RowKit
def rU:(Gz.prog.info? 3).map (λi=>(i.zero,i.size,i.bytes))=some (some (U O 0),1,8):=aC
def Own.below{w:ns}{B n:Nat}{v:rl}{xs:List Int}(h:Own w B v n xs)(k:Nat)(b:v.ownBlock=some k):B<=k:=(h.2.lt k b).1
def tX(m:o.guard=none){s x:ajd}
  (C:o.op=.call {callee:=.builtin .append,args:=#[s,x],argTypes:=#[25,25]})
  (q:ns)(B:Nat)(D:a.eval s=v)(b:Own w B v n xs)(ad:aiI){y:Int}{c:Nat}(E:a.eval x=Y (some ad) 1 c)
  (G:n<=1000000000000)(I:q.heap.size<=B)(d:B<=w.heap.size)(hq:Q q w)(hc:w.cell? ad=some (U O y))
  (h:∀v' w',Own w' B v' (n+1) (xs++[y])->Q q w'->B<=w'.heap.size->w.grownBy w' v.ownBlock->aja Gz.prog ops Q' rest (a.put o.dst v') w'):aja Gz.prog ops Q' (o::rest) a w:=by
 obtain⟨i0,hi,r,hz1,hz2⟩:=info_parts rU;refine wpList_append_own _ m s x 25 C B 3 i0 (U O 0) 1 8 (Gz.gu underlying25) hi r hz1 hz2 rfl aq v n _ D b.2 ad 1 c [U O y] E rfl ?_ ?_ ?_ ?_ d ?_
 ·intro j u e
  match j,e with
  |0,e=>simp at e;subst e;simpa[Addr.add] using hc
 ·intro u hu;simp at hu;subst hu;rfl
 ·unfold maxLen;omega
 ·omega
 ·intro v' w' h1 z _;refine h v' w' ⟨by simp[b.1],by simpa using h1⟩ (hq.grown z λk F=>?_) (aJ d z.size) z;have:=b.below k F;omega
def Wj(b:o.guard=none){l c:ajd}(m:o.op=Op.makeSlice 25 l c)
  {e:ns}(n:Nat){C:Int}(q:a.eval l=U O 0)(hc:a.eval c=U O C)(r:C=(n:Int))(s:n<=1000000000000)(hq:Q e w)
  (h:∀w',Own w' w.heap.size (Y (some ⟨w.heap.size,0,none⟩) 0 n) 0 []->Q e w'->w.heap.size<=w'.heap.size->aja Gz.prog ops Q' rest (a.put o.dst (Y (some ⟨w.heap.size,0,none⟩) 0 n)) w'):aja Gz.prog ops Q' (o::rest) a w:=by
 obtain⟨i0,hi,d,hz1,hz2⟩:=info_parts rU;refine wpList_make_own w b l c 25 m w.heap.size 3 i0 (U O 0) 1 (Gz.gu underlying25) hi d hz1 .i64 .i64 C n q hc r (by rw[hz2];omega) jC (au _) ?_;intro w' h1 j;exact h w' ⟨rfl,h1⟩ (hq.trans (Q.jf j)) j.size
def Wv(b:o.guard=none){l c:ajd}(m:o.op=Op.makeSlice 25 l c)
  (e:ns)(n:Nat){L C:Int}(q:a.eval l=U O L)(hc:a.eval c=U O C)(r:L=(n:Int))(s:C=(n:Int))(u:n<=1000000000000)(hq:Q e w)
  (h:∀w',Own w' w.heap.size (Y (some ⟨w.heap.size,0,none⟩) n n) n (List.replicate n 0)->Q e w'->w.heap.size<=w'.heap.size->aja Gz.prog ops Q' rest (a.put o.dst (Y (some ⟨w.heap.size,0,none⟩) n n)) w'):aja Gz.prog ops Q' (o::rest) a w:=by
 obtain⟨i0,hi,d,hz1,hz2⟩:=info_parts rU;refine wpList_make_full w b l c 25 m w.heap.size 3 i0 (U O 0) 1 (Gz.gu underlying25) hi d hz1 .i64 .i64 L C n q hc r s (by rw[hz2];omega) jC (au _) ?_;intro w' h1 j;exact h w' ⟨aj,by simpa[Value.cells,toList_madeCells_one] using h1⟩ (hq.trans (Q.jf j)) j.size
end
section
open Go.RowKit
def nX{n:Int}(w:ns)(h1:lo<=n)(b:n<=hi):
  UL Gz.prog 51 #[U O n,U O lo,U O hi] w λe w'=>e=be (a9 true)/\w=w':=by
 go_enter Gz.gf func51,ntmps51;go_wp2;go_ret;exact⟨by simp[*],rfl⟩
def Fg(n lo hi:Int)(w:ns)(h1:n<lo\/hi<n):
  UL Gz.prog 51 #[U O n,U O lo,U O hi] w λe w'=>e=be (a9 false)/\w=w':=by
 rcases h1 with h|h
 ·go_enter Gz.gf func51,ntmps51;go_wp2;go_ret;exact⟨aj,rfl⟩
 ·have b:decide (n<=hi)=false:=by simp;omega
  go_enter Gz.gf func51,ntmps51;exact yo
def cj{n:Int}{b:Bool}(w:ns)(h:Hid (decide (lo<=n/\n<=hi)=b)):
  UL Gz.prog 51 #[U O n,U O lo,U O hi] w λe w'=>e=be (a9 b)/\w=w':=by
 cases b
 ·exact Fg n lo hi w (by have:=of_decide_eq_false h;omega)
 ·have h:=of_decide_eq_true h;exact nX w h.1 h.2
def YE(n:Int){d:Int}(hd:0<d):(n.tmod d<0/\n.tdiv d-1=n/d)\/(0<=n.tmod d/\n.tdiv d=n/d):=by exact LH
def Fh(n d:Int)(w:ns)(hd:0<d)(b:d<=1000000)(h1: -1000000000000<=n)(h:n<=1000000000000):
  UL Gz.prog 58 #[U O n,U O d] w λe w'=>e=be (U O (n/d))/\w=w':=by
 have j:=Int.le_trans (Int.ediv_le_ediv hd h) (Int.ediv_le_self _ aa)
 have m: -1000000000000<=n/d:=by rw[Int.le_ediv_iff_mul_le hd];omega
 rcases YE n hd with⟨q,he⟩|⟨q,he⟩
 ·exact LI
 ·exact LI
def Ml{n:Int}{b:Bool}(w:ns)(h:Hid (decide (0<=n/\n<=255)=b)):
  UL Gz.prog 112 #[U O n] w λe w'=>e=be (a9 b)/\w=w':=by
 subst h;by_cases h1:0<=n
 ·by_cases d:n<=255
  ·rw[decide_eq_true ⟨h1,d⟩];go_enter Gz.gf func112,ntmps112;go_wp2;go_ret;exact⟨by simp[*],rfl⟩
  ·rw[decide_eq_false λh=>d h.2];go_enter Gz.gf func112,ntmps112;exact yo
 ·rw[decide_eq_false λh=>h1 h.1];go_enter Gz.gf func112,ntmps112;go_wp2;all_goals(go_ret;exact⟨aj,rfl⟩)
end
section
open Go.RowKit
def dL(n:Int):Bool:=decide (8<=n/\n<=32/\n%8=0)
def vJ(n:Int):Bool:=decide (0<=n/\n<=255)
def cZ(xs:List Int):Bool:=xs.all vJ
def bS(W H:Int)(xs:List Int):Bool:=dL W&&(dL H&&(decide ((xs.length:Int)=W*H)&&cZ xs))
def aa6(h:k<xs.length):xs.drop k=xs[k]?.getD 0::xs.drop (k+1):=eg
def Oh(xs:List Int)(k:Nat)(h:k<xs.length):cZ (xs.drop k)=(vJ (xs[k]?.getD 0)&&cZ (xs.drop (k+1))):=by rw[aa6 h];rfl
def pz(h:cZ xs=true)(k:Nat)(hk:k<xs.length):0<=xs[k]?.getD 0/\xs[k]?.getD 0<=255:=by exact LJ
def jH(h:bS W H xs=true):(8<=W/\W<=32/\W%8=0)/\(8<=H/\H<=32/\H%8=0)/\(xs.length:Int)=W*H/\cZ xs=true:=by unfold bS dL at h;simp only[OF,decide_eq_true_eq] at h;exact h
def Fi(h1:8<=W)(d:W<=32)(e:8<=H)(h:H<=32):64<=W*H/\W*H<=1024:=by have a:=Int.mul_le_mul h1 e aa aa;have b:=Int.mul_le_mul d h aa aa;omega
def Qw{n:Int}(h:Hid (vJ n=t)):
  UL Gz.prog 112 #[U O n] w λe w'=>e=be (a9 t)/\w=w':=Ml w h
def kh{n:Int}(h:Hid (dL n=t)):
  UL Gz.prog 69 #[U O n] w λe w'=>e=be (a9 t)/\w=w':=by
 obtain rfl:=h.out;unfold dL;exact LK
def ZJ{c:Nat}(r:Rd w B A xs)(hn:Hid (xs.length=n))(hm:n<=9223372036854775807)(q:Hid (cZ xs=t)):
  UL Gz.prog 70 #[Y A n c] w λe w'=>e=be (a9 t)/\w=w':=by
 have s:=af r;go_enter Gz.gf func70,ntmps70;go_wp2;go_loop[7] (λi=>∃k:Nat,k<=n/\i=U O k/\Hid (cZ xs=cZ (xs.drop k))) (λi=>n-(intOf i).toNat)
 case atStart=>exact⟨0,dC _,rfl,rfl⟩
 case round=>
  obtain⟨k,u,rfl,hr⟩:=hrel;by_cases aT:k<n
  ·obtain⟨b,o,rfl,y,hc⟩:=s.out nJ;have j:=hc k xz;have d:=Oh xs k xz;generalize xs[k]?.getD 0=x at j d;have z:=af hc;cases h:vJ x
   ·rw[h] at d;have m:=af h;have jn:=af d;go_wp2;refine(Qw m.out).mono ?_;rintro e w'⟨rfl,rfl⟩;go_wp2;go_ret;exact⟨by rw[<-q.out,hr.out,jn.out];rfl,rfl⟩
   ·rw[h] at d;have m:=af h;have jn:=af d;go_wp2;refine(Qw m.out).mono ?_;rintro e w'⟨rfl,rfl⟩;exact JW
  ·have:k=n:=by omega
   subst this;go_wp2;go_ret;exact⟨by rw[<-q.out,hr.out,List.drop_of_length_le (Nat.le_of_eq hn.out)];rfl,rfl⟩
def Ca(c:Nat)(u:Rd w B A xs)(y:B<=w.heap.size)(x:Hid (xs.length=n))(hm:n<=9223372036854775807)(z:Hid (bS W H xs=t)):
  UL Gz.prog 43 #[a5 #[U O W,U O H,Y A n c]] w λe w'=>e=be (a9 t)/\Q w w':=by
 have q0:Q w (w.alloc (ac #[U O W,U O H,Y A n c] 30)):=aR;have C:=af (u.alloc y (ac #[U O W,U O H,Y A n c] 30));have q:bS W H xs=(dL W&&(dL H&&(decide ((xs.length:Int)=W*H)&&cZ xs))):=rfl;rw[x.out] at q;have HT:Hid (t=(dL W&&(dL H&&(decide ((n:Int)=W*H)&&cZ xs)))):=by rw[Hid,<-z.out,q]
 clear u q;cases d:dL W
 ·have HW:=af d;rw[d] at HT;clear d;go_enter Gz.gf func43,ntmps43;go_wp2;refine(kh HW.out).mono ?_;rintro e w'⟨rfl,rfl⟩;go_wp2;go_ret;exact⟨by rw[HT.out];rfl,q0⟩
 ·have b:=of_decide_eq_true d;have HW:=af d;rw[d] at HT;clear d;cases h:dL H
  ·have HH:=af h;rw[h] at HT;clear h b;exact JX
  ·have j:=of_decide_eq_true h;have HH:=af h;rw[h] at HT;clear h;obtain⟨D,E⟩:=Fi b.1 b.2.1 j.1 j.2.1;clear b j;by_cases m:(n:Int)=W*H
   ·rw[decide_eq_true m] at HT;have r:((n:Int) !=W*H)=false:=by rw[bne_eq_false_iff_eq];exact m
    have s:Hid (cZ xs=t):=by rw[HT.out];rfl
    clear m;go_enter Gz.gf func43,ntmps43;go_wp2;refine(kh HW.out).mono ?_;rintro e w'⟨rfl,rfl⟩;go_wp2;refine(kh HH.out).mono ?_;rintro e w'⟨rfl,rfl⟩;go_wp2;refine(ZJ C.out x hm s).mono ?_;rintro e w'⟨rfl,rfl⟩;go_wp2;go_ret;exact⟨rfl,q0⟩
   ·rw[decide_eq_false m] at HT;have r:((n:Int) !=W*H)=true:=by rw[bne_iff_ne];exact m
    clear m;exact JX
def py{n:Int}(h:Hid (decide (lo<=n/\n<=hi)=t)):
  UL Gz.prog 51 #[U O n,U O lo,U O hi] w λe w'=>e=be (a9 t)/\w=w':=cj w h
def JH(c:Nat)(K:Rd w B A xs)(M:B<=w.heap.size)(hn:Hid (xs.length=n))(hm:n<=9223372036854775807)(L:Hid (bS W H xs=t)):
  UL Gz.prog 33 #[a5 #[U O W,U O H,Y A n c]] w λe w'=>e=be (a9 t)/\Q w w':=by
 have q0:Q w (w.alloc (ac #[U O W,U O H,Y A n c] 30)):=aR;have N:=af (K.alloc M (ac #[U O W,U O H,Y A n c] 30));have F:bS W H xs=(dL W&&(dL H&&(decide ((xs.length:Int)=W*H)&&cZ xs))):=rfl;rw[hn.out] at F;have HT:Hid (t=(dL W&&(dL H&&(decide ((n:Int)=W*H)&&cZ xs)))):=by rw[Hid,<-L.out,F]
 clear K F L;by_cases s:8<=W/\W<=32
 ·have HW:=af (decide_eq_true s);by_cases u:8<=H/\H<=32
  ·have HH:=af (decide_eq_true u);obtain⟨Z,a2⟩:=Fi s.1 s.2 u.1 u.2;obtain⟨R,T⟩:=s;obtain⟨h1,V⟩:=u;by_cases q:W%8=0
   ·have C:(W%8 !=0)=false:=by rw[bne_eq_false_iff_eq];exact q
    have d:dL W=true:=decide_eq_true ⟨R,T,q⟩;rw[d] at HT;clear q d;by_cases r:H%8=0
    ·have D:(H%8 !=0)=false:=by rw[bne_eq_false_iff_eq];exact r
     have j:dL H=true:=decide_eq_true ⟨h1,V,r⟩;rw[j] at HT;clear r j;by_cases y:(n:Int)=W*H
     ·rw[decide_eq_true y] at HT;have G:((n:Int) !=W*H)=false:=by rw[bne_eq_false_iff_eq];exact y
      have E:Hid (t=cZ xs):=by rw[Hid,HT.out];rfl
      clear y HT;go_enter Gz.gf func33,ntmps33;go_wp2;(refine(py HW.out).mono ?_;rintro e w'⟨rfl,rfl⟩);go_wp2;(refine(py HH.out).mono ?_;rintro e w'⟨rfl,rfl⟩);go_wp2;go_loop[3] (λi=>∃k:Nat,k<=n/\i=U O k/\Hid (cZ xs=cZ (xs.drop k))) (λi=>n-(intOf i).toNat)
      case atStart=>exact⟨0,dC _,rfl,rfl⟩
      case round=>
       obtain⟨k,hk,rfl,hr⟩:=hrel;by_cases aT:k<n
       ·obtain⟨b,o,rfl,hb,hc⟩:=N.out nJ;have I:=hc k xz;have m:=Oh xs k xz;generalize xs[k]?.getD 0=x at I m;have HC:=af hc;clear hc;cases z:vJ x
        ·rw[z] at m;have J:Hid (decide (0<=x/\x<=255)=false):=z;have jn:=af m;clear z m;go_wp2;(refine(py J.out).mono ?_;rintro e w'⟨rfl,rfl⟩);go_wp2;go_ret;exact⟨by rw[E.out,hr.out,jn.out];rfl,q0⟩
        ·rw[z] at m;have J:Hid (decide (0<=x/\x<=255)=true):=z;have jn:=af m;clear z m;go_wp2;(refine(py J.out).mono ?_;rintro e w'⟨rfl,rfl⟩);exact JW
       ·have:k=n:=by omega
        subst this;go_wp2;go_ret;exact⟨by rw[E.out,hr.out,List.drop_of_length_le (Nat.le_of_eq hn.out)];rfl,q0⟩
     ·rw[decide_eq_false y] at HT;have G:((n:Int) !=W*H)=true:=by rw[bne_iff_ne];exact y
      clear y;exact yd
    ·have D:(H%8 !=0)=true:=by rw[bne_iff_ne];exact r
     have j:dL H=false:=decide_eq_false λh=>r h.2.2;rw[j] at HT;clear r j;exact yd
   ·have C:(W%8 !=0)=true:=by rw[bne_iff_ne];exact q
    have d:dL W=false:=decide_eq_false λh=>q h.2.2;rw[d] at HT;clear q d;exact yd
  ·have HH:=af (decide_eq_false u);have j:dL H=false:=decide_eq_false λh=>u ⟨h.1,h.2.1⟩;rw[j,Bool.false_and,Bool.and_false] at HT;clear j u s;exact yd
 ·have HW:=af (decide_eq_false s);have d:dL W=false:=decide_eq_false λh=>s ⟨h.1,h.2.1⟩;rw[d] at HT;clear d s;go_enter Gz.gf func33,ntmps33;go_wp2;(refine(py HW.out).mono ?_;rintro e w'⟨rfl,rfl⟩);go_wp2;go_ret;exact⟨by rw[HT.out];rfl,q0⟩
end
section
open Go.RowKit
def XS(I:Bool)(q:Int)(v:rl){b d:Int}{v':rl}(h:Hid ((b==W&&d==H)=t)):
  UL Gz.prog 66 #[a5 #[U O W,U O H,a9 I,U O q,v],a5 #[U O b,U O d,v']] w λe w'=>e=be (a9 t)/\Q w w':=by
 obtain rfl:=h.out;go_enter Gz.gf func66,ntmps66;go_wp2;all_goals(go_ret;exact⟨by simp[*],aR⟩)
end
def a6(f:Nat->Int)(n:Nat):List Int:=(aiB n).map f
def Pp(f:Nat->Int)(n:Nat):a6 f (n+1)=a6 f n++[f n]:=by simp[a6,List.range_succ]
def DO:(a6 f n).length=n:=by simp[a6]
def nY(h:i<n):(a6 f n)[i]?.getD 0=f i:=by simp[a6,h]
def ZK(g:Nat->Int)(n:Nat)(h:∀i,i<n->f i=g i):a6 f n=a6 g n:=by apply List.map_congr_left;intro i hi;exact h i (by simpa using hi)
def aa7(xs:List Int):a6 (λi=>xs[i]?.getD 0) xs.length=xs:=by
 apply List.ext_getElem
 ·simp[a6]
 ·intro i h1 b;simp[a6,b]
def Ru(y W h x:Nat)(b:y<h)(d:x<W):y*W+x<h*W:=by have:(y+1)*W<=h*W:=yz _ b;rw[Nat.succ_mul] at this;omega
section
open Go.RowKit
section
variable{P:Kx}{ops:Array aku}{Q':Exit->Act->ns->Prop}{md:aki}{S:ns->Prop}{X:Nat->Bool}
def fQ(P:Kx)(md:aki)(ops:Array aku)(Q':Exit->Act->ns->Prop)(S:ns->Prop)(X:Nat->Bool):Nat->Array Bool->Act->ns->Prop
 |0,listed,a,w=>aiz md ops listed=[]/\Q' .normal a w
 |fuel+1,listed,a,w=>
  (aiz md ops listed=[]->Q' .normal a w)/\
  ∀i∈aiz md ops listed,wpOp P ops Q' i (λa' w'=>(X i=false->S w')/\fQ P md ops Q' S X fuel (listed.setIfInBounds i true) a' w') a w
def DQ:∀(fuel:Nat)(listed:Array Bool)(a:Act)(w:ns),fQ P md ops Q' S X fuel listed a w->wpAny P md ops Q' fuel listed a w
 |0,_,_,_,h=>h
 |fuel+1,_,_,_,h=>⟨h.1,λi hi=>wpOp_mono (λa' w' h'=>DQ fuel _ a' w' h'.2) (h.2 i hi)⟩
def Xk(hi:ops[i]?=some oi)(r:∀(j:Nat)(o:aku) cs b,ops[j]?=some o->o.op≠.select cs b)
  (R:∀j,j<ops.size->X j=true->Region.waitsFor md ops j i=true)
  (T:∀c a w,Q' (.panic c) (a.put oi.dst v) w->Q' (.panic c) a w):
  ∀(fuel:Nat)(listed:Array Bool)(a:Act)(w:ns),
   (∀j s,ops[j]?=some s->j≠i->listed.getD j true=false->(∀e∈s.after,ajX md e=true->e.on≠i)->oi.apart ops s=true)->
   i∈aiz md ops listed->YieldsIf P ops S oi v a->S w->
   fQ P md ops Q' S X fuel (listed.setIfInBounds i true) (a.put oi.dst v) w->fQ P md ops Q' S X (fuel+1) listed a w:=by
 intro fuel
 induction fuel with
 |zero=>
  intro listed a w _ u D hS H;refine⟨λh=>(by rw[h] at u;cases u),λj E=>?_⟩;by_cases d:j=i
  ·subst d;exact D.wpOp hi hS ⟨λ_=>hS,H⟩
  ·have h1:=ready_mono E d;rw[H.1] at h1;cases h1
 |succ fuel V=>
  intro listed a w m u D hS H;refine⟨λh=>(by rw[h] at u;cases u),λj E=>?_⟩;by_cases d:j=i
  ·subst d;exact D.wpOp hi hS ⟨λ_=>hS,H⟩
  ·have h1:=H.2 j (ready_mono E d);obtain⟨x,s,q,y⟩:=mem_ready.1 E
   have z:∀e∈s.after,ajX md e=true->e.on≠i:=λe he I J=>by
    have F:=y e he I;have h0:=(mem_ready.1 u).1;rw[J] at F;rcases de i listed.size with Q|Q
    ·simp_all
    ·simp[Array.getElem?_eq_none Q] at F
   have C:X j=false:=by
    cases hc:X j with
    |false=>rfl
    |true=>obtain⟨Z,K,e,he,I,L⟩:=Region.waitsFor_spec (R j (bF.1 q).1 hc);obtain rfl:Z=s:=aL (K.symm.trans q);exact absurd L (z e he I)
   have F:=wpOp_putIf q (m j s q d x z) (λcs b=>r i oi cs b hi) (λcs b=>r j s cs b q) T D h1;refine wpOp_mono (λa' w' G=>⟨λ_=>G.2.1 C,V (listed.setIfInBounds j true) a' w' (λk ok hk M hun hn=>m k ok hk M ?_ hn) (ready_mono u (kS d)) G.1 (G.2.1 C) ?_⟩) F
   ·by_cases N:j=k
    ·subst N;exact x
    ·simp_all
   ·rw[Array.setIfInBounds_comm _ _ d];exact G.2.2
def SH(md:aki)(ops:Array aku)(X:Nat->Bool)(i:Nat):Bool:=(aiB ops.size).all λj=>!X j||Region.waitsFor md ops j i
def po(hi:l[i]?=some oi)
  (e:Region.noSelect l.toArray=true)(m:Region.free md l.toArray listed i=true)(hr:(aiz md l.toArray listed).contains i=true)(q:SH md l.toArray X i=true)
  (r:∀c a w,Q' (.panic c) (a.put oi.dst v) w->Q' (.panic c) a w)(s:YieldsIf P l.toArray S oi v a)(hS:S w)
  (h:fQ P md l.toArray Q' S X fuel (listed.setIfInBounds i true) (a.put oi.dst v) w):fQ P md l.toArray Q' S X (fuel+1) listed a w:=
 have b:l.toArray[i]?=some oi:=eg
 Xk b (Region.noSelect_spec e) (λj u d=>by have h1:=gY.1 q j (fz.2 u);simpa[d] using h1) r fuel listed a w (Region.free_spec b m) (by simpa using hr) s hS h
def ah(i:Nat){a':Act}(hS:S w:=by assumption)(hi:l[i]?=some oi:=by rfl)
  (b:(Region.noSelect l.toArray&&Region.free md l.toArray listed i&&(aiz md l.toArray listed).contains i&&SH md l.toArray X i)=true:=by kernel_rfl)
  (e:∀c a w,Q' (.panic c) (a.put oi.dst v) w->Q' (.panic c) a w:=by exactλ_ _ _ h=>h)
  (j:YieldsIf P l.toArray S oi v a:=by exact Or.inl ⟨by rfl,by intro q d;(try dsimp only at d);go_split_ands;go_simp;try with_reducible rfl⟩)
  (m:a.put oi.dst v=a':=by first|(simp only[Act.put,List.setIfInBounds_toArray,List.set_cons_zero,List.set_cons_succ];done)|(simp only[Act.put,List.setIfInBounds_toArray,List.set_cons_zero,List.set_cons_succ];exact rfl)|exact rfl)
  (h:fQ P md l.toArray Q' S X fuel (listed.setIfInBounds i true) a' w):fQ P md l.toArray Q' S X (fuel+1) listed a w:=by
 simp only[OF] at b;subst m;exact po hi b.1.1.1 b.1.1.2 b.1.2 b.2 e j hS h
def YF(hr:aiz md l.toArray listed=[k])(b:l[k]?=some o)
  (h:∀K:Act->ns->Prop,Shut (∀a' w',(X k=false->S w')->((X k=false->S w')->fQ P md l.toArray Q' S X fuel (listed.setIfInBounds k true) a' w')->K a' w')->
   if aiu o (yielded l.toArray a.tmps)=true then Oper.wp P o a w K Q' else K (a.put o.dst undef) w):fQ P md l.toArray Q' S X (fuel+1) listed a w:=
 ⟨λh0=>(by rw[hr] at h0;cases h0),λi hi=>by rw[hr] at hi;obtain rfl:i=k:=eg;exact wpOp_step (by simpa using b) λd hK=>h d λa' w' hS e=>hK a' w' ⟨hS,e hS⟩⟩
def bh(hr:aiz md l.toArray listed=[k])(e:X k=false)(b:l[k]?=some o)
  (h:∀K:Act->ns->Prop,Shut (∀a' w',S w'->(S w'->fQ P md l.toArray Q' S X fuel (listed.setIfInBounds k true) a' w')->K a' w')->
   if aiu o (yielded l.toArray a.tmps)=true then Oper.wp P o a w K Q' else K (a.put o.dst undef) w):fQ P md l.toArray Q' S X (fuel+1) listed a w:=
 YF hr b (λK hK=>h K λa' w' hS d=>hK.out a' w' (λ_=>hS) λ_=>d hS)
def rA{j:Nat}{b:aku}(hr:aiz md l.toArray listed=[i,j])(m:X i=false)(q:X j=false)(hi:l[i]?=some oi)(r:l[j]?=some b)
  (h1:∀K:Act->ns->Prop,Shut (∀a' w',S w'->(S w'->fQ P md l.toArray Q' S X fuel (listed.setIfInBounds i true) a' w')->K a' w')->
   if aiu oi (yielded l.toArray a.tmps)=true then Oper.wp P oi a w K Q' else K (a.put oi.dst undef) w)
  (s:∀K:Act->ns->Prop,Shut (∀a' w',S w'->(S w'->fQ P md l.toArray Q' S X fuel (listed.setIfInBounds j true) a' w')->K a' w')->
   if aiu b (yielded l.toArray a.tmps)=true then Oper.wp P b a w K Q' else K (a.put b.dst undef) w):fQ P md l.toArray Q' S X (fuel+1) listed a w:=
 ⟨λh0=>(by rw[hr] at h0;cases h0),λk d=>by
  rw[hr] at d;simp only[List.mem_cons,List.not_mem_nil,or_false] at d;rcases d with rfl|rfl
  ·exact wpOp_step (by simpa using hi) (λe hK=>h1 e λa' w' hS h=>hK a' w' ⟨λ_=>hS,h hS⟩)
  ·exact wpOp_step (by simpa using r) λe hK=>s e λa' w' hS h=>hK a' w' ⟨λ_=>hS,h hS⟩⟩
def kg{listed:Array Bool}{a:Act}{w:ns}(hr:aiz md ops listed=[])(h:Q' .normal a w):∀fuel,fQ P md ops Q' S X fuel listed a w
 |0=>⟨hr,h⟩
 |_+1=>⟨λ_=>h,by rw[hr];simp⟩
def sT(md:aki)(ops:Array aku)(X:Nat->Bool):List Nat->Array Bool->Bool
 |[],l=>(aiz md ops l).isEmpty
 |k::b,l=>decide (aiz md ops l=[k])&&X k&&sT md ops X b (l.setIfInBounds k true)
def Nu:∀(d:List Nat)(n:Nat)(l:Array Bool)(a:Act)(w:ns),sT md ops X d l=true->d.length<=n->
  aja P ops Q' (d.filterMap (ops[·]?)) a w->fQ P md ops Q' S X n l a w
 |[],0,l,a,w,b,_,h=>⟨by simpa[sT] using b,h⟩
 |[],n+1,l,a,w,b,_,h=>kg (by simpa[sT] using b) h _
 |k::d,n+1,l,a,w,b,j,h=>by
  simp only[sT,OF,decide_eq_true_eq] at b;obtain⟨⟨hr,m⟩,b⟩:=b;have q:k∈aiz md ops l:=tW;obtain⟨_,o,e,_⟩:=mem_ready.1 q;rw[List.filterMap_cons,e] at h;refine⟨λh1=>(by rw[hr] at h1;cases h1),λi hi=>?_⟩;rw[hr] at hi;obtain rfl:i=k:=by simpa using hi
  have hw:wpOp P ops Q' i (aja P ops Q' (d.filterMap (ops[·]?))) a w:=by unfold wpOp;simp only[e];exact h
  exact wpOp_mono (λr w' s=>⟨λh0=>(by rw[m] at h0;cases h0),Nu d n _ r w' b (by simp at j;omega) s⟩) hw
def iu(b:List Nat)(m:Nat){t:Array Bool}(d:sT md l.toArray X b t=true)(e:b.length<=n)(hr:b.filterMap (l[·]?)=l.drop m)
  (h:aja P l.toArray Q' (l.drop m) a w):fQ P md l.toArray Q' S X n t a w:=
 Nu b n t a w d e (by
  rw[<-hr] at h;simpa using h)
def et{id:Nat}(S:ns->Prop)(X:Nat->Bool)(hm:P.follows .mixedOrders=true)(hS:S w.drew)
  (h:S w.drew->fQ P .any l.toArray Q' S X l.toArray.size (Array.replicate l.toArray.size false) a w.drew):(Code.region id l.toArray true).wp P Q' a w:=
 wp_region_any hm (DQ _ _ _ _ (h hS))
end
end
end Go.Proofs.Q0
