import Derived.Test.YtjjdeakghpmpfaaGreatDoorK0
import Derived.WalkKit
set_option maxRecDepth 100000
set_option maxHeartbeats 8000000
set_option linter.all false
open Go.Value renaming int->U,slice->Y,bool->a9,agg->a5,pointer->ci,tuple->dl,iface->em
open Go.IntKind renaming i64->O
open Array renaming append_empty->akW,getElem?_setIfInBounds_ne->ahM,getElem?_setIfInBounds_self_of_lt->aiT
open Go renaming Addr->aiI,Code->ajP,Oper->aku,Program->Kx,TypeId->EV,Value->rl,World->ns,underlying->ajg,zeroValue->ajS
open Go.Mode renaming plain->akB
open Go.Result renaming andThen->ajs
open Go.Sem renaming run->aiF,runT->akf,runT_fst->ajf,run_bind->aiC
open Go.World renaming cell?->aiW,frozen?->ais,setCell->alj,shape?->ajQ
open Nat renaming add_assoc->akL
namespace Go.Proofs
def yb{p:Prop}(h:p:=by
  rcases isCells o with⟨cs,t,f,rfl⟩|hn
  ·simp
  ·exact h3.other hn):p:=h
abbrev yw:=@Array.ext_getElem?
abbrev jc:=@Array.mem_append
def LF{p:Prop}(h:p:=by rw[hc] at hr;simp only[show(Mode.plain==Mode.atomic)=false from rfl,he] at hr;cases hr):p:=h
def CB{p:Prop}(h:p:=by
  rw[show a=⟨a.block,a.off,a.spot⟩ from rfl,yx g1] at hc;cases hq:a.spot with
  |none=>rfl
  |some z=>simp[hq] at hc):p:=h
def CC{p:Prop}(h:p:=by rw[show a=⟨a.block,a.off,a.spot⟩ from rfl,yx g1,Id] at hc;simp at hc;exact(bF.1 hc).1):p:=h
def CH{p:Prop}(h:p:=by exfalso;apply N';simp[World.frozen?,g1];omega):p:=h
def CI{p:Prop}(h:p:=by
  subst e;cases h3 with
  |cells t f h=>exact hn _ _ _ rfl):p:=h
def JN{p:Prop}(h:p:=by simp at he;subst he;exact .inr (.inl ⟨r',r,rfl,rfl,RC,λ_=>⟨n2,n1⟩⟩)):p:=h
abbrev nL:=@Go.Room.Sem.runT_bind
def JO{p:Prop}(h:p:=by refine⟨?_,hw.tape⟩;rw[nQ g1 Id,nQ g2 (ha.spot.trans Id),ha.off];exact hw.heap.put ha.block (.cells t _ (E'.set _ hv)) Tu ht AC):p:=h
def JP{p:Prop}(h:p:=by simp[Sem.run,g1] at e;obtain⟨rfl,rfl⟩:=e;exact⟨trivial,φ,w'.heap,Ren.le_refl _,hw.heap⟩):p:=h
def yc{p:Prop}(h:p:=by exact⟨hf,φ,w'.heap,Ren.le_refl _,hw.heap.cM hk⟩):p:=h
abbrev nM:=@ajf
def bw{p:Prop}(h:p:=by cases e):p:=h
def tU{p:Prop}(h:p:=by rw[<-h.size];assumption):p:=h
def lV{p:Prop}(h:p:=by simpa using h):p:=h
def tV{p:Prop}(h:p:=by simpa using hb):p:=h
def aD{p:Prop}(h:p:=by rfl):p:=h
end Go.Proofs
namespace Go.Proofs.Q0.aI
variable{cs:Array rl}{w w':ns}{a a':aiI}{v v':rl}{α β:Type}
section
variable[ag]
section
variable{P:Kx}{K:aF}
def yx{b:Nat}{t:EV}{f:Nat×Nat}(h:w.heap[b]?=some (.cells cs t f))(off:Nat)(c:Option Nat):
  w.cell? ⟨b,off,c⟩=if c.isSome then none else cs[off]?:=by simp[aiW,h]
def za{o:Obj}(h:w.heap[a.block]?=some o)(b:∀cs t f,o≠.cells cs t f):w.cell? a=none:=by unfold aiW;rw[h];cases o<;>first|rfl|exact absurd rfl (b _ _ _)
def HO.cells{φ:Ren}{b:Nat}{cs:Array rl}{t:EV}{f:Nat×Nat}{o':Obj}(h:HO K φ b (.cells cs t f) o'):∃cs' f',o'=.cells cs' t f'/\ax φ cs cs'/\¬K.tok b/\((¬K.ro b/\f'=f/\(K.strict=true->f=(0,0)))\/(K.ro b/\∃n,f=(0,n)/\cs.size<=n)):=by
 cases h with
 |own h1 c e d=>cases e with|cells t f h=>exact⟨_,_,rfl,h,c,.inl ⟨h1,rfl,d⟩⟩
 |shut t h1 c d=>exact⟨_,_,rfl,d,c,.inr ⟨h1,_,rfl,au _⟩⟩
def HO.other{φ:Ren}{b:Nat}{o o':Obj}(h:HO K φ b o o')(c:∀cs t f,o≠.cells cs t f):∀x y,o≠.view x y:=by intro x y e;subst e;cases h with|own _ _ h _=>cases h
def isCells(o:Obj):(∃cs t f,o=.cells cs t f)\/∀cs t f,o≠.cells cs t f:=eO
def HR.cell{φ:Ren}{w w':ns}(H:HR K φ w.heap w'.heap){a a':aiI}(c:AR φ a a'){v:rl}(b:w.cell? a=some v):∃v',w'.cell? a'=some v'/\VR φ v v'/\¬K.tok a.block:=by
 obtain⟨o,o',h1,d,e⟩:=H.obj _ _ c.block;rcases isCells o with⟨cs,t,f,rfl⟩|g
 ·obtain⟨h,m,rfl,hc,i,_⟩:=e.cells;rw[show a=⟨a.block,a.off,a.spot⟩ from rfl,yx h1] at b;split at b
  ·cases b
  ·rename_i j;obtain⟨y,k,l⟩:=hc.get b;refine⟨y,?_,l,i⟩;rw[show a'=⟨a'.block,a'.off,a'.spot⟩ from rfl,yx d,c.spot,if_neg j,c.off];exact k
 ·rw[za h1 g] at b;cases b
def HR.Rs{φ:Ren}(H:HR K φ w.heap w'.heap)(b:AR φ a a')(m:Bool):∃e,w.farLoad P a m=.error e:=by
 obtain⟨o,o',h1,d,h3⟩:=H.obj _ _ b.block
 have c:∀x y,o≠.view x y:=by exact yb
 unfold World.farLoad;rw[h1];cases o<;>first|exact⟨_,rfl⟩|exact absurd rfl (c _ _)
def HR.acI{φ:Ren}(H:HR K φ w.heap w'.heap)(b:AR φ a a')(v:rl)(m:Bool):∃e,w.farStore P a v m=.error e:=by
 obtain⟨o,o',h1,d,h3⟩:=H.obj _ _ b.block
 have c:∀x y,o≠.view x y:=by exact yb
 unfold World.farStore;rw[h1];cases o<;>first|exact⟨_,rfl⟩|exact absurd rfl (c _ _)
def HR.acJ{φ:Ren}(H:HR K φ w.heap w'.heap){r b:Nat}(h:φ r=some b):w'.shape? b=w.shape? r\/w.shape? r=none:=by
 obtain⟨o,o',h1,c,d⟩:=H.obj _ _ h;rcases isCells o with⟨cs,t,f,rfl⟩|e
 ·obtain⟨g,i,rfl,hc,_⟩:=d.cells;exact .inl (by simp[ajQ,h1,c,hc.size])
 ·refine .inr ?_;unfold ajQ;rw[h1];cases o<;>first|rfl|exact absurd rfl (e _ _ _)
def nQ{t:EV}{f:Nat×Nat}(h:w.heap[a.block]?=some (.cells cs t f))(c:a.spot=none):
  (w.setCell a v).heap=w.heap.setIfInBounds a.block (.cells (cs.setIfInBounds a.off v) t f):=by
 apply yw;intro i;have b:=(bF.1 h).1;by_cases e:a.block=i
 ·subst e;rw[aiT b];simp[alj,Array.getElem?_modify,h,c]
 ·rw[ahM e];simp[alj,Array.getElem?_modify,e]
def Does.after{R:Ren->α->β->Prop}{φ j f:Ren}{w2 i:ns}{BT c:ns}{a:α}{b:β}{s':Sem β}{es d d0:Array Event}
  (l:iv w w2)(n:eH K φ j w.heap.size w' BT)(k:∀e∈d0,ey K j e)
  (g:s'.runT P.two w' es=(.ok b c,(es++d0)++d))(o:R f a b)(p:WR K f i c)(q:iv w2 i)(m:eH K j f w2.heap.size BT c)(r:∀e∈d,ey K f e):
  ∃f b c d,s'.runT P.two w' es=(.ok b c,es++d)/\R f a b/\WR K f i c/\iv w i/\eH K φ f w.heap.size w' c/\∀e∈d,ey K f e:=
 ⟨f,b,c,d0++d,by rw[g];simp,o,p,l.trans q,n.trans m l.size,λe he=>(jc.1 he).elim (λh=>(k e h).mono m.le) (r e)⟩
def SR.run{α β:Type}{R:Ren->α->β->Prop}{φ:Ren}{s:Sem α}{s':Sem β}(h:SR P K R φ s s'):Does P K R φ s s':=by
 induction h with
 |pure h=>intro w w' a E es hw hr;simp only[aiF,Result.ok.injEq] at hr;obtain⟨rfl,rfl⟩:=hr;exact⟨_,_,w',#[],by simp[akf],h,hw,.refl _,.refl _ _ _ _,aj⟩
 |@load φ a a' k k' F _ D=>
  intro w w' x E es hw hr;simp only[aiF] at hr;cases hc:w.cell? a with
  |none=>obtain⟨e,he⟩:=HR.Rs (P:=P) hw.heap F false;exact LF
  |some v=>
   rw[hc] at hr;obtain⟨v',T,Z,N⟩:=hw.heap.cell F hc;obtain⟨ψ,b,j,d,h1,A,h3,B,z,C⟩:=D v v' Z (es.push ⟨.cell a',false,false⟩) hw hr;refine Does.after (.refl w) (.refl _ _ _ _) (d0:=#[⟨.cell a',false,false⟩]) (λe he=>?_) ?_ A h3 B z C
   ·simp at he;subst he;exact .inl ⟨a',a.block,rfl,rfl,F.block,N,λe=>by cases e⟩
   ·simp only[akf,T,show(akB==Mode.atomic)=false from rfl];rw[h1];simp
 |@store φ a a' v v' k k' F Z _ D=>
  intro w w' x E es hw hr
  have M:(∀xs,v≠.agg xs)/\(∀xs,v≠.tuple xs):=by constructor<;>(intro xs e;subst e;simp[aiF] at hr)
  have Q:(∀xs,v'≠.agg xs)/\(∀xs,v'≠.tuple xs):=by
   constructor
   ·intro xs e;subst e;cases Z with|agg h _=>exact M.1 _ rfl|aX _ h=>exact h.1 _ rfl
   ·intro xs e;subst e;cases Z with|tuple h _=>exact M.2 _ rfl|aX _ h=>exact h.2.1 _ rfl
  have e1:(Sem.store akB a v k).run P w=match w.cell? a with
    |some _=>if w.frozen? a then .halt (.unsupported (.unsafePointer "a write to bytes that a string shares")) w else k.run P (w.setCell a v)
    |none=>match w.farStore P a v (akB==Mode.atomic) with
     |.ok (w,_)=>k.run P w
     |.error h=>.halt h w:=by
   cases v<;>first|rfl|exact absurd rfl (M.1 _)|exact absurd rfl (M.2 _)
  rw[e1] at hr;cases hc:w.cell? a with
  |none=>obtain⟨e,he⟩:=HR.acI (P:=P) hw.heap F v false;exact LF
  |some u=>
   rw[hc] at hr;obtain⟨u',T,_,N⟩:=hw.heap.cell F hc;simp only at hr;split at hr
   ·cases hr
   ·rename_i N';obtain⟨o,o',g1,S,g3⟩:=hw.heap.obj _ _ F.block;rcases isCells o with⟨cs,t,f,rfl⟩|hn;case inr=>rw[za g1 hn] at hc;cases hc
    obtain⟨cs',f',rfl,E',_,V⟩:=g3.cells
    have Id:a.spot=none:=by exact CB
    have G:=F.spot.trans Id
    have Be:a.off<cs.size:=by exact CC
    rcases V with⟨I,rfl,J⟩|⟨_,n,rfl,k2⟩
    case inr=>exact CH
    have ags:w'.frozen? a'=false:=by
     cases hq:w'.frozen? a' with
     |false=>rfl
     |true=>exfalso;apply N';simp[ais,S,F.off] at hq;simp[ais,g1,hq]
    have cC:(w.setCell a v).heap.size=w.heap.size:=by rw[nQ g1 Id];simp
    have Tv:(w'.setCell a' v').heap.size=w'.heap.size:=by rw[nQ S G];simp
    have L:WR K φ (w.setCell a v) (w'.setCell a' v'):=by refine⟨?_,hw.tape⟩;rw[nQ g1 Id,nQ S G,F.off];exact hw.heap.put F.block (.cells t _ (E'.set _ Z)) I N J
    obtain⟨ψ,b,j,d,h1,A,h3,B,z,C⟩:=D (es.push ⟨.cell a',true,false⟩) L hr
    have hk:eH K φ φ w.heap.size w' (w'.setCell a' v'):=⟨⟨rfl,rfl,rfl,au _,by rw[Tv];exact au _⟩,Ren.le_refl _,λ_ _ h=>.inl h,λc hc hn=>by have e:a'.block≠c:=λe=>(hn _ (e▸F.block)).elim I N;rw[nQ S G,ahM e]⟩
    refine Does.after (w2:=w.setCell a v) ⟨rfl,rfl,rfl,au _,by rw[cC];exact au _⟩ hk (d0:=#[⟨.cell a',true,false⟩]) (λe he=>?_) ?_ A h3 B z C
    ·simp at he;subst he;exact .inl ⟨a',a.block,rfl,rfl,F.block,N,λ_=>I⟩
    ·have W:(Sem.store akB a' v' k').runT P.two w' es=k'.runT P.two (w'.setCell a' v') (es.push ⟨.cell a',true,false⟩):=by cases v'<;>first|(simp only[akf,T,ags];rfl)|exact absurd rfl (Q.1 _)|exact absurd rfl (Q.2 _)
     rw[W,h1];simp
 |@new φ o o' k k' ho J _ D=>
  intro w w' x E es hw hr;simp only[aiF] at hr;obtain⟨le,H⟩:=hw.heap.push ho λ_=>J;obtain⟨ψ,b,j,d,h1,A,h3,B,z,C⟩:=D _ w.heap.size w'.heap.size le (Ren.add_same _ _ _) (w:={w with heap:=w.heap.push o}) (w':={w' with heap:=w'.heap.push o'}) es ⟨H,hw.tape⟩ hr
  have hk:eH K φ (Ren.add φ w.heap.size w'.heap.size) w.heap.size w' {w' with heap:=w'.heap.push o'}:=⟨⟨rfl,rfl,rfl,au _,aj⟩,le,λb c hb=>by
   by_cases e:b=w.heap.size
   ·subst e;rw[Ren.add_same] at hb;cases hb;exact .inr ⟨au _,au _⟩
   ·exact .inl (by simpa[Ren.add,e] using hb),λc hc _=>by
   show(w'.heap.push o')[c]?=_;rw[Array.getElem?_push_lt hc];simp[Array.getElem?_eq_getElem hc]⟩
  refine Does.after (w2:={w with heap:=w.heap.push o}) ⟨rfl,rfl,rfl,au _,aj⟩ hk (d0:=#[]) (λe he=>by simp at he) ?_ A h3 B z C;simp only[akf,akW];exact h1
 |@shape φ r r' k k' RC _ _ D Ht=>
  intro w w' x E es hw hr;simp only[aiF] at hr;rcases hw.heap.acJ RC with he|he
  ·obtain⟨ψ,b,j,d,h1,A,h3,B,z,C⟩:=D _ es hw hr;exact⟨ψ,b,j,d,by simp only[akf,he];exact h1,A,h3,B,z,C⟩
  ·rw[he] at hr;obtain⟨ψ,b,j,d,h1,A,h3,B,z,C⟩:=Ht (w'.shape? r') es hw hr;exact⟨ψ,b,j,d,by simp only[akf];exact h1,A,h3,B,z,C⟩
 |@getObj φ r r' k k' RC _ hd Hu D=>
  intro w w' x E es hw hr;obtain⟨o,o',g1,S,g3⟩:=hw.heap.obj _ _ RC;rcases isCells o with⟨cs,t,f,rfl⟩|hn
  ·simp[aiF,g1] at hr
  have g:(k o).run P w=.ok x E:=by simp only[aiF,g1] at hr;cases o<;>first|exact hr|exact absurd rfl (hn _ _ _)
  cases g3 with
  |shut=>exact absurd rfl (hn _ _ _)
  |token s p cs' t=>obtain⟨h,w2,e,_⟩:=hd s p w;rw[e] at g;cases g
  |blank s p=>obtain⟨h,w2,e,_⟩:=hd s p w;rw[e] at g;cases g
  |num l=>obtain⟨h,w2,e,_⟩:=Hu _ l w;rw[e] at g;cases g
  |own n1 n2 h3 _=>
  have qx:∀cs t f,o'≠.cells cs t f:=λcs t f e=>by exact CI
  have X:o'.isChan=false:=by cases h3<;>rfl
  obtain⟨ψ,b,j,d,h1,A,h3,B,z,C⟩:=D o o' h3 n1 n2 (es.push ⟨.obj r',false,false⟩) hw g;refine Does.after (.refl w) (.refl _ _ _ _) (d0:=#[⟨.obj r',false,false⟩]) (λe he=>?_) ?_ A h3 B z C
  ·exact JN
  ·have W:(Sem.getObj r' k').runT P.two w' es=(k' o').runT P.two w' (es.push ⟨.obj r',false,false⟩):=by simp only[akf,S];rw[<-X]
   rw[W,h1];simp
 |@setObj φ r r' o o' k k' RC n1 n2 ho J _ D=>
  intro w w' x E es hw hr;obtain⟨p,p',g1,S,g3⟩:=hw.heap.obj _ _ RC;rcases isCells p with⟨cs,t,f,rfl⟩|hn
  ·simp[aiF,g1] at hr
  have g:k.run P {w with heap:=w.heap.setIfInBounds r o}=.ok x E:=by simp only[aiF,g1] at hr;cases p<;>first|exact hr|exact absurd rfl (hn _ _ _)
  cases g3 with
  |shut=>exact absurd rfl (hn _ _ _)
  |token _ _ _ _ h _=>exact absurd h n2
  |blank _ _ h _=>exact absurd h n2
  |num _ h _=>exact absurd h n2
  |own _ _ h3 _=>
  have qx:∀cs t f,p'≠.cells cs t f:=λcs t f e=>by exact CI
  have X:o'.isChan=false:=by cases ho<;>rfl
  have L:WR K φ {w with heap:=w.heap.setIfInBounds r o} {w' with heap:=w'.heap.setIfInBounds r' o'}:=⟨hw.heap.put RC ho n1 n2 λ_=>J,hw.tape⟩;obtain⟨ψ,b,j,d,h1,A,h3,B,z,C⟩:=D (w:={w with heap:=w.heap.setIfInBounds r o}) (es.push ⟨.obj r',true,false⟩) L g
  have hk:eH K φ φ w.heap.size w' {w' with heap:=w'.heap.setIfInBounds r' o'}:=⟨⟨rfl,rfl,rfl,au _,aj⟩,Ren.le_refl _,λ_ _ h=>.inl h,λc hc hn=>by have e:r'≠c:=λe=>(hn _ (e▸RC)).elim n1 n2;show(w'.heap.setIfInBounds r' o')[c]?=_;rw[ahM e]⟩
  refine Does.after (w2:={w with heap:=w.heap.setIfInBounds r o}) ⟨rfl,rfl,rfl,au _,aj⟩ hk (d0:=#[⟨.obj r',true,false⟩]) (λe he=>?_) ?_ A h3 B z C
  ·exact JN
  ·have W:(Sem.setObj r' o' k').runT P.two w' es=k'.runT P.two {w' with heap:=w'.heap.setIfInBounds r' o'} (es.push ⟨.obj r',true,false⟩):=by simp only[akf,S];rw[<-X]
   rw[W,h1];simp
 |@choose φ q k k' _ D=>
  intro w w' x E es hw hr;simp only[aiF] at hr;by_cases hq:q.forced=true
  ·rw[if_pos hq] at hr;obtain⟨ψ,b,j,d,h1,A,h3,B,z,C⟩:=D 0 es hw hr;exact⟨ψ,b,j,d,by simp only[akf,if_pos hq];exact h1,A,h3,B,z,C⟩
  ·rw[if_neg hq] at hr;have N:=hw.tape 0 q;simp only[Nat.add_zero] at N
   have L:WR K φ {w with drawn:=w.drawn+1} {w' with drawn:=w'.drawn+1}:=⟨hw.heap,λi q=>by have:=hw.tape (1+i) q;simpa[akL] using this⟩
   obtain⟨ψ,b,j,d,h1,A,h3,B,z,C⟩:=D _ (w:={w with drawn:=w.drawn+1}) es L hr;refine Does.after (w2:={w with drawn:=w.drawn+1}) (BT:={w' with drawn:=w'.drawn+1}) ⟨rfl,rfl,rfl,aj,au _⟩ ⟨⟨rfl,rfl,rfl,aj,au _⟩,Ren.le_refl _,λ_ _ h=>.inl h,λ_ _ _=>rfl⟩ (d0:=#[]) (λe he=>by simp at he) ?_ A h3 B z C;simp only[akf,if_neg hq,akW];rw[<-N];exact h1
 |@program φ k k' _ D=>intro w w' x E es hw hr;simp only[aiF] at hr;obtain⟨ψ,b,j,d,h1,A,h3,B,z,C⟩:=D es hw hr;exact⟨ψ,b,j,d,by simp only[akf];exact h1,A,h3,B,z,C⟩
 |@quiet φ m k k' hq _ D=>
  intro w w' x E es hw hr;simp only[aiF] at hr;obtain⟨ψ,b,j,d,h1,A,h3,B,z,C⟩:=D (es.push ⟨.mark m,false,true⟩) hw hr;refine Does.after (.refl w) (.refl _ _ _ _) (d0:=#[⟨.mark m,false,true⟩]) (λe he=>?_) ?_ A h3 B z C
  ·simp at he;subst he;exact .inr (.inr ⟨m,rfl,hq⟩)
  ·simp only[akf];rw[h1];simp
 |@oE φ γ δ vI s s' k k' hd _ _ _ D=>
  intro w w' x E es hw hr;have g:(s>>=k).run P w=.ok x E:=hr;rw[aiC] at g;cases hs:s.run P w with
  |halt h w2=>rw[hs] at g;simp[ajs] at g
  |ok c w2=>rw[hs] at g;simp only[ajs] at g;obtain⟨ψ,b,BT,d,h1,A,h3,B,z,C⟩:=hd es hw hs;obtain⟨χ,b',j,d',k1,k2,k3,k4,k5,k6⟩:=D ψ c b z.le A (es++d) h3 g;refine Does.after B z (d0:=d) C ?_ k2 k3 k4 k5 k6;have W:(s'>>=k').runT P.two w' es=_:=nL P.two s' k' w' es;show(s'>>=k').runT P.two w' es=_;rw[W,h1];exact k1
 |dead h=>intro w w' x E es hw hr;obtain⟨y,w2,e,_⟩:=h w;rw[e] at hr;cases hr
def HR.noCell{φ:Ren}(H:HR K φ w.heap w'.heap)(c:AR φ a a')(b:String):lf (w.noCell a b):=by obtain⟨o,o',h1,e,d⟩:=H.obj _ _ c.block;unfold World.noCell;rw[h1];cases d with|shut=>trivial|token=>trivial|blank=>trivial|num=>trivial|own _ _ h _=>cases h<;>trivial
def HR.farLoad{φ:Ren}(H:HR K φ w.heap w'.heap)(b:AR φ a a')(m:Bool):w.farLoad P a m=.error (w.noCell a "load: no such cell"):=by
 obtain⟨o,o',h1,d,h3⟩:=H.obj _ _ b.block
 have c:∀x y,o≠.view x y:=by exact yb
 unfold World.farLoad;rw[h1];cases o<;>first|rfl|exact absurd rfl (c _ _)
def HR.farStore{φ:Ren}(H:HR K φ w.heap w'.heap)(b:AR φ a a')(v:rl)(m:Bool):w.farStore P a v m=.error (w.noCell a "store: no such cell"):=by
 obtain⟨o,o',h1,d,h3⟩:=H.obj _ _ b.block
 have c:∀x y,o≠.view x y:=by exact yb
 unfold World.farStore;rw[h1];cases o<;>first|rfl|exact absurd rfl (c _ _)
def SR.pR{R:Ren->α->β->Prop}{φ:Ren}{s:Sem α}{s':Sem β}(h:SR P K R φ s s'):Gc P K φ s:=by
 induction h with
 |pure h=>intro w w' hw x g e;cases e
 |@load φ a a' k k' ha _ j=>
  intro w w' hw x g e;simp only[aiF] at e;cases hc:w.cell? a with
  |none=>rw[hc] at e;simp only[hw.heap.farLoad ha] at e;cases e;exact⟨hw.heap.noCell ha _,φ,w'.heap,Ren.le_refl _,hw.heap⟩
  |some v=>rw[hc] at e;obtain⟨v',L,hv,ht⟩:=hw.heap.cell ha hc;exact j v v' hv w w' hw x g e
 |@store φ a a' v v' k k' ha hv _ j=>
  intro w w' hw x g e;by_cases B:(∃xs,v=.agg xs)\/∃xs,v=.tuple xs
  ·rcases B with⟨xs,rfl⟩|⟨xs,rfl⟩<;>(cases e;exact⟨trivial,φ,w'.heap,Ren.le_refl _,hw.heap⟩)
  ·have k1:∀xs,v≠.agg xs:=λxs e=>B (.inl ⟨xs,e⟩);have k2:∀xs,v≠.tuple xs:=λxs e=>B (.inr ⟨xs,e⟩)
   have e1:(Sem.store akB a v k).run P w=match w.cell? a with
     |some _=>if w.frozen? a then .halt (.unsupported (.unsafePointer "a write to bytes that a string shares")) w else k.run P (w.setCell a v)
     |none=>match w.farStore P a v (akB==Mode.atomic) with
      |.ok (w,_)=>k.run P w
      |.error h=>.halt h w:=by
    cases v<;>first|rfl|exact absurd rfl (k1 _)|exact absurd rfl (k2 _)
   rw[e1] at e;cases hc:w.cell? a with
   |none=>rw[hc] at e;simp only[hw.heap.farStore ha] at e;cases e;exact⟨hw.heap.noCell ha _,φ,w'.heap,Ren.le_refl _,hw.heap⟩
   |some u=>
    rw[hc] at e;simp only at e;split at e
    ·cases e;exact⟨trivial,φ,w'.heap,Ren.le_refl _,hw.heap⟩
    ·rename_i N';obtain⟨u',L,_,ht⟩:=hw.heap.cell ha hc;obtain⟨o,o',g1,g2,I⟩:=hw.heap.obj _ _ ha.block;rcases isCells o with⟨cs,t,f,rfl⟩|D;case inr=>rw[za g1 D] at hc;cases hc
     obtain⟨M,f',rfl,E',_,C⟩:=I.cells
     have Id:a.spot=none:=by exact CB
     have Be:a.off<cs.size:=by exact CC
     rcases C with⟨Tu,rfl,AC⟩|⟨_,n,rfl,k2⟩
     case inr=>exact CH
     have N:WR K φ (w.setCell a v) (w'.setCell a' v'):=by exact JO
     exact j _ _ N x g e
 |@new φ o o' k k' Q AC _ j=>intro w w' hw x g e;simp only[aiF] at e;obtain⟨le,H⟩:=hw.heap.push Q λ_=>AC;obtain⟨hf,ψ,S,T,F⟩:=j _ w.heap.size w'.heap.size le (Ren.add_same _ _ _) {w with heap:=w.heap.push o} {w' with heap:=w'.heap.push o'} ⟨H,hw.tape⟩ x g e;exact⟨hf,ψ,S,Ren.le_trans le T,F⟩
 |@shape φ r r' k k' A _ _ j Ht=>intro w w' hw x g e;simp only[aiF] at e;exact j _ w w' hw x g e
 |@getObj φ r r' k k' A _ hd V j=>
  intro w w' hw x g e;obtain⟨o,o',g1,g2,I⟩:=hw.heap.obj _ _ A;rcases isCells o with⟨cs,t,f,rfl⟩|D
  ·exact JP
  have z:(k o).run P w=.halt x g:=by simp only[aiF,g1] at e;cases o<;>first|exact e|exact absurd rfl (D _ _ _)
  cases I with
  |shut=>exact absurd rfl (D _ _ _)
  |token s p M t=>obtain⟨h,E,G,hf,hk⟩:=hd s p w;rw[G] at z;cases z;exact yc
  |blank s p=>obtain⟨h,E,G,hf,hk⟩:=hd s p w;rw[G] at z;cases z;exact yc
  |num l=>obtain⟨h,E,G,hf,hk⟩:=V _ l w;rw[G] at z;cases z;exact yc
  |own W X Z _=>exact j o o' Z W X w w' hw x g z
 |@setObj φ r r' o o' k k' A W X Q AC _ j=>
  intro w w' hw x g e;obtain⟨p,p',g1,g2,I⟩:=hw.heap.obj _ _ A;rcases isCells p with⟨cs,t,f,rfl⟩|D
  ·exact JP
  have z:k.run P {w with heap:=w.heap.setIfInBounds r o}=.halt x g:=by simp only[aiF,g1] at e;cases p<;>first|exact e|exact absurd rfl (D _ _ _)
  exact j {w with heap:=w.heap.setIfInBounds r o} {w' with heap:=w'.heap.setIfInBounds r' o'} ⟨hw.heap.put A Q W X λ_=>AC,hw.tape⟩ x g z
 |@choose φ q k k' _ j=>
  intro w w' hw x g e;simp only[aiF] at e;split at e
  ·exact j 0 w w' hw x g e
  ·exact j _ {w with drawn:=w.drawn+1} {w' with drawn:=w'.drawn+1} ⟨hw.heap,λi q=>by have:=hw.tape (1+i) q;simpa[akL] using this⟩ x g e
 |@program φ k k' _ j=>intro w w' hw x g e;simp only[aiF] at e;exact j w w' hw x g e
 |@quiet φ m k k' hq _ j=>intro w w' hw x g e;simp only[aiF] at e;exact j w w' hw x g e
 |@oE φ γ δ vI s s' k k' hd F _ _ j=>
  intro w w' hw x g e;have z:(s>>=k).run P w=.halt x g:=e;rw[aiC] at z;cases J:s.run P w with
  |halt h E=>rw[J] at z;simp only[ajs] at z;cases z;exact F w w' hw _ _ J
  |ok c E=>rw[J] at z;simp only[ajs] at z;obtain⟨ψ,b,BT,d,h1,h2,Z,h4,h5,h6⟩:=hd #[] hw J;obtain⟨hf,χ,S,T,F⟩:=j ψ c b h5.le h2 E BT Z x g z;exact⟨hf,χ,S,Ren.le_trans h5.le T,F⟩
 |@dead φ s s' h=>intro w w' hw x g e;obtain⟨y,E,z,hf,hk⟩:=h w;rw[z] at e;cases e;exact yc
omit [ag] in
def Qu(w:ns)(T:Tape)(n:Nat)(a:aiI):(w.on T n).cell? a=w.cell? a:=rfl
def SR.Tw{R:Ren->α->β->Prop}{φ:Ren}{s:Sem α}{s':Sem β}(h:SR P K R φ s s'):GO P K φ s:=by
 induction h with
 |pure h=>intro w w' hw a z g;cases g;exact⟨0,rfl,rfl,λT n _=>rfl⟩
 |@load φ a a' k k' ha _ B=>
  intro w w' hw x z g;simp only[aiF] at g;cases hc:w.cell? a with
  |none=>rw[hc] at g;simp only[hw.heap.farLoad ha] at g;cases g
  |some v=>rw[hc] at g;obtain⟨v',hc',hv,ht⟩:=hw.heap.cell ha hc;obtain⟨A,X,e2,C⟩:=B v v' hv w w' hw x z g;refine⟨A,X,e2,λT n D=>?_⟩;have:=C T n D;simp only[aiF,Qu,hc];exact this
 |@store φ a a' v v' k k' ha hv _ B=>
  intro w w' hw x z g
  have S:(∀xs,v≠.agg xs)/\(∀xs,v≠.tuple xs):=by constructor<;>(intro xs e;subst e;simp[aiF] at g)
  have X:∀w:ns,(Sem.store akB a v k).run P w=match w.cell? a with
    |some _=>if w.frozen? a then .halt (.unsupported (.unsafePointer "a write to bytes that a string shares")) w else k.run P (w.setCell a v)
    |none=>match w.farStore P a v (akB==Mode.atomic) with
     |.ok (w,_)=>k.run P w
     |.error h=>.halt h w:=by
   intro w;cases v<;>first|rfl|exact absurd rfl (S.1 _)|exact absurd rfl (S.2 _)
  rw[X] at g;cases hc:w.cell? a with
  |none=>rw[hc] at g;simp only[hw.heap.farStore ha] at g;cases g
  |some u=>
   rw[hc] at g;simp only at g;split at g
   ·cases g
   ·rename_i N';obtain⟨u',hc',_,ht⟩:=hw.heap.cell ha hc;obtain⟨o,o',g1,g2,Z⟩:=hw.heap.obj _ _ ha.block;rcases isCells o with⟨cs,t,f,rfl⟩|Q;case inr=>rw[za g1 Q] at hc;cases hc
    obtain⟨cs',f',rfl,E',_,M⟩:=Z.cells
    have Id:a.spot=none:=by exact CB
    have Be:a.off<cs.size:=by exact CC
    rcases M with⟨Tu,rfl,AC⟩|⟨_,n,rfl,k2⟩
    case inr=>exact CH
    have Bf:WR K φ (w.setCell a v) (w'.setCell a' v'):=by exact JO
    obtain⟨A,F,E,C⟩:=B _ _ Bf x z g;refine⟨A,F,E,λT n D=>?_⟩;rw[X,Qu,hc];have I:w.frozen? a=false:=by simpa using N'
    have I:(w.on T n).frozen? a=false:=I;simp only[I,Bool.false_eq_true,if_false];exact C T n D
 |@new φ o o' k k' ho AC _ B=>intro w w' hw x z g;simp only[aiF] at g;obtain⟨le,H⟩:=hw.heap.push ho λ_=>AC;obtain⟨A,F,E,C⟩:=B _ w.heap.size w'.heap.size le (Ren.add_same _ _ _) {w with heap:=w.heap.push o} {w' with heap:=w'.heap.push o'} ⟨H,hw.tape⟩ x z g;exact⟨A,F,E,λT n D=>C T n D⟩
 |@shape φ r r' k k' J _ _ B Ht=>intro w w' hw x z g;simp only[aiF] at g;obtain⟨A,F,E,C⟩:=B _ w w' hw x z g;exact⟨A,F,E,λT n D=>C T n D⟩
 |@getObj φ r r' k k' J _ hd Hu B=>
  intro w w' hw x z g;obtain⟨o,o',g1,g2,Z⟩:=hw.heap.obj _ _ J;rcases isCells o with⟨cs,t,f,rfl⟩|Q
  ·simp[aiF,g1] at g
  have V:∀L:ns,L.heap[r]?=some o->(Sem.getObj r k).run P L=(k o).run P L:=by intro L h0;cases o<;>first|(simp only[aiF,h0];done)|exact absurd rfl (Q _ _ _)
  rw[V w g1] at g;cases Z with
  |shut=>exact absurd rfl (Q _ _ _)
  |token s p cs' t=>obtain⟨h,N,W,hf⟩:=hd s p w;rw[W] at g;cases g
  |blank s p=>obtain⟨h,N,W,hf⟩:=hd s p w;rw[W] at g;cases g
  |num l=>obtain⟨h,N,W,hf⟩:=Hu _ l w;rw[W] at g;cases g
  |own n1 n2 C _=>obtain⟨A,F,E,C⟩:=B o o' C n1 n2 w w' hw x z g;exact⟨A,F,E,λT n D=>by rw[V (w.on T n) g1];exact C T n D⟩
 |@setObj φ r r' o o' k k' J n1 n2 ho AC _ B=>
  intro w w' hw x z g;obtain⟨p,p',g1,g2,Z⟩:=hw.heap.obj _ _ J;rcases isCells p with⟨cs,t,f,rfl⟩|Q
  ·simp[aiF,g1] at g
  have V:∀L:ns,L.heap[r]?=some p->(Sem.setObj r o k).run P L=k.run P {L with heap:=L.heap.setIfInBounds r o}:=by intro L h0;cases p<;>first|(simp only[aiF,h0];done)|exact absurd rfl (Q _ _ _)
  rw[V w g1] at g;obtain⟨A,F,E,C⟩:=B {w with heap:=w.heap.setIfInBounds r o} {w' with heap:=w'.heap.setIfInBounds r' o'} ⟨hw.heap.put J ho n1 n2 λ_=>AC,hw.tape⟩ x z g;exact⟨A,F,E,λT n D=>by rw[V (w.on T n) g1];exact C T n D⟩
 |@choose φ q k k' _ B=>
  intro w w' hw x z g;simp only[aiF] at g;by_cases hq:q.forced=true
  ·rw[if_pos hq] at g;obtain⟨A,F,E,C⟩:=B 0 w w' hw x z g;exact⟨A,F,E,λT n D=>by simp only[aiF,if_pos hq];exact C T n D⟩
  ·rw[if_neg hq] at g
   obtain⟨A,F,E,C⟩:=B _ {w with drawn:=w.drawn+1} {w' with drawn:=w'.drawn+1} ⟨hw.heap,λi q=>by have:=hw.tape (1+i) q;simpa[akL] using this⟩ x z g
   refine⟨A+1,by rw[F];simp;omega,E,λT n D=>?_⟩;have h0:=D 0 aa q;simp only[Nat.add_zero] at h0
   have:=C T (n+1) (λj hj q=>by have:=D (j+1) aa q;rw[show n+1+j=n+(j+1) by omega,this,show w.drawn+(j+1)=w.drawn+1+j by omega])
   simp only[aiF,if_neg hq];show(k (q.cut (T n q))).run P (w.on T (n+1))=_;rw[h0,show n+(A+1)=n+1+A by omega];exact this
 |@program φ k k' _ B=>intro w w' hw x z g;simp only[aiF] at g;exact B w w' hw x z g
 |@quiet φ m k k' hq _ B=>intro w w' hw x z g;simp only[aiF] at g;exact B w w' hw x z g
 |@oE φ γ δ vI s s' k k' hd hh AC _ B=>
  intro w w' hw x z g;have G:(s>>=k).run P w=.ok x z:=g;rw[aiC] at G;cases hs:s.run P w with
  |halt h N=>rw[hs] at G;simp[ajs] at G
  |ok c N=>rw[hs] at G;simp only[ajs] at G;obtain⟨ψ,b,BT,d,h1,h2,C,h4,h5,h6⟩:=hd #[] hw hs;obtain⟨A,F,E,x3⟩:=AC w w' hw c N hs;obtain⟨k2,y1,y2,y3⟩:=B ψ c b h5.le h2 N BT C x z G;refine⟨A+k2,aa,y2.trans E,λT n D=>?_⟩;show(s>>=k).run P (w.on T n)=_;rw[aiC,x3 T n λj hj q=>D j aa q];simp only[ajs];rw[show n+(A+k2)=n+A+k2 by omega];exact y3 T (n+A) (λj hj q=>by rw[akL,D (A+j) aa,F,E,akL])
 |dead h=>intro w w' hw x z g;obtain⟨y,N,e2,hf⟩:=h w;rw[e2] at g;cases g
end
end
section
variable[ag]
def bind_pure'(s:Sem α):s.bind .pure=s:=by exact JM
abbrev aY{α:Type}:Ren->α->α->Prop:=λ_ a b=>a=b
section
variable{P:Kx}{K:aF}{φ:Ren}
def SR.of_does{R:Ren->α->β->Prop}{s:Sem α}{s':Sem β}(h:Does P K R φ s s')(d:Gc P K φ s)(c:GO P K φ s):SR P K R φ s s':=by rw[<-bind_pure' s,<-bind_pure' s'];exact .oE h d c λψ a b _ e=>.pure e
def SR.of_run{R:Ren->α->β->Prop}{s:Sem α}{s':Sem β}{a:α}{b:β}(h:∀w,s.run P w=.ok a w)(h':∀w es,s'.runT P.two w es=(.ok b w,es))(hr:R φ a b):SR P K R φ s s':=
 .of_does (λ{w w' c f} es hw d=>by
  rw[h] at d;cases d;exact⟨φ,b,w',#[],by rw[h'];simp,hr,hw,.refl _,.refl _ _ _ _,aj⟩) (λw w' _ x f e=>by rw[h] at e;cases e) (λw w' _ x f e=>by
  rw[h] at e;cases e;exact⟨0,rfl,rfl,λT n _=>h _⟩)
def Looks(P:Kx){α:Type}(s:Sem α):Prop:=(∃a,∀w es,s.runT P w es=(.ok a w,es)/\s.runT P.two w es=(.ok a w,es))\/∃x,lf x/\∀w es,s.runT P w es=(.halt x w,es)/\s.runT P.two w es=(.halt x w,es)
def Looks.calm{s:Sem α}(h:Looks P s):Calm P s:=λw=>by
 have c:=nM P s w #[];rcases h with⟨a,h⟩|⟨y,f,h⟩
 ·rw[(h _ _).1] at c;rw[<-c];exact⟨λx d e=>bw,λb d e=>(by cases e;exact .refl w)⟩
 ·rw[(h _ _).1] at c;rw[<-c];exact⟨λx d e=>(by cases e;exact⟨f,.refl w⟩),λb d e=>bw⟩
def Looks.sr'{R:Ren->α->α->Prop}{s:Sem α}(h:Looks P s)(hr:∀a,(∀w es,s.runT P w es=(.ok a w,es))->R φ a a):SR P K R φ s s:=by
 rcases h with⟨a,h⟩|⟨x,b,h⟩
 ·exact .of_run (λw=>by rw[<-ajf P s w #[],(h _ _).1]) (λw es=>(h w es).2) (hr a λw es=>(h w es).1)
 ·exact .dead λw=>⟨x,w,by rw[<-ajf P s w #[],(h _ _).1],b,.refl w⟩
def Looks.sr{s:Sem α}(h:Looks P s):SR P K aY φ s s:=h.sr' λ_ _=>rfl
def Looks.ask{f:Kx->Sem α}(h:Looks P (f P))(e:f P.two=f P:=by rfl):Looks P (program>>=f):=by
 rcases h with⟨a,h⟩|⟨x,b,h⟩
 ·exact .inl ⟨a,λw es=>⟨(h w es).1,show(f P.two).runT P.two w es=_ by rw[e];exact(h w es).2⟩⟩
 ·exact .inr ⟨x,b,λw es=>⟨(h w es).1,show(f P.two).runT P.two w es=_ by rw[e];exact(h w es).2⟩⟩
def Looks.ret(a:α):Looks P (pure a:Sem α):=.inl ⟨a,λ_ _=>⟨rfl,rfl⟩⟩
def Looks.stuck(b:String):Looks P (stuck b:Sem α):=.inr ⟨.stuck b,trivial,λ_ _=>⟨rfl,rfl⟩⟩
def Looks.unsupported(u:Unsupported)(hu:lf (.unsupported u):=by trivial):Looks P (unsupported u:Sem α):=.inr ⟨.unsupported u,hu,λ_ _=>⟨rfl,rfl⟩⟩
def Looks.bind{s:Sem α}{f:α->Sem β}(h:Looks P s)(c:∀a,Looks P (f a)):Looks P (s>>=f):=by
 rcases h with⟨a,h⟩|⟨x,d,h⟩
 ·rcases c a with⟨b,k⟩|⟨y,e,k⟩
  ·exact .inl ⟨b,λw es=>⟨by have:=nL P s f w es;rw[(h _ _).1] at this;exact this.trans (k w es).1,by have:=nL P.two s f w es;rw[(h _ _).2] at this;exact this.trans (k w es).2⟩⟩
  ·exact .inr ⟨y,e,λw es=>⟨by have:=nL P s f w es;rw[(h _ _).1] at this;exact this.trans (k w es).1,by have:=nL P.two s f w es;rw[(h _ _).2] at this;exact this.trans (k w es).2⟩⟩
 ·exact .inr ⟨x,d,λw es=>⟨by have:=nL P s f w es;rw[(h _ _).1] at this;exact this,by have:=nL P.two s f w es;rw[(h _ _).2] at this;exact this⟩⟩
def qZ(t:EV):Looks P (ajg t):=by refine Looks.ask ?_;cases P.underlying t with|none=>exact .stuck _|some d=>exact .ret d
def rj(t:EV):Looks P (typeInfo t):=by refine Looks.ask ?_;cases P.info? t with|none=>exact .stuck _|some d=>exact .ret d
def yL(t:EV):Looks P (sizeOf t):=(rj t).bind λ_=>.ret _
def MT(t:EV):Looks P (isAgg t):=(qZ t).bind λd=>by cases d<;>exact .ret _
def Wu(t:EV):Looks P (ajS t):=(rj t).bind λd=>by cases d.zero with|none=>exact .unsupported _|some v=>exact .ret v
def dX(t:EV):SR P K aY φ (ajg t) (ajg t):=(qZ t).sr
def l6(t:EV):SR P K aY φ (typeInfo t) (typeInfo t):=(rj t).sr
def eF(t:EV):SR P K aY φ (sizeOf t) (sizeOf t):=(yL t).sr
def Ex(t:EV):SR P K aY φ (isAgg t) (isAgg t):=(MT t).sr
def bZ(P:Kx):Prop:=∀t i v,P.info? t=some i->i.zero=some v->∀φ,VR φ v v
def My(t:EV):SR P K (λ_ a b=>a=b/\P.info? t=some a) φ (typeInfo t) (typeInfo t):=by refine SR.program ?_;show SR P K _ φ (match P.info? t with|some i=>(pure i:Sem TypeInfo)|none=>stuck "no such type") (match P.info? t with|some i=>(pure i:Sem TypeInfo)|none=>stuck "no such type");cases P.info? t with|none=>exact .halt _ _|some i=>exact .pure ⟨rfl,rfl⟩
def pk(b:bZ P)(t:EV):SR P K VR φ (ajS t) (ajS t):=by refine SR.bind (My t) ?_;rintro c i _ _⟨rfl,hi⟩;cases h:i.zero with|none=>exact .halt _ _|some v=>exact .pure (b t i v hi h _)
def VR.cells{v v':rl}(h:VR φ v v'):ax φ v.cells v'.cells:=by
 have one:∀x y,VR φ x y->ax φ #[x] #[y]:=λx y f=>⟨rfl,λi a b g j=>by
  cases i with
  |zero=>simp at g j;subst g;subst j;exact f
  |succ i=>simp at g⟩
 cases h with
 |agg m o=>exact⟨m,o⟩
 |bool b=>exact one _ _ (.bool b)
 |int k n=>exact one _ _ (.int k n)
 |string s=>exact one _ _ (.string s)
 |nilFunc=>exact one _ _ .nilFunc
 |nilIface=>exact one _ _ .nilIface
 |nilPtr=>exact one _ _ .nilPtr
 |hQ=>exact one _ _ .hQ
 |gZ=>exact one _ _ .gZ
 |ptr h=>exact one _ _ (.ptr h)
 |dk n c=>exact one _ _ (.dk n c)
 |slice n c h=>exact one _ _ (.slice n c h)
 |empty=>exact one _ _ .empty
 |iface t h p=>exact one _ _ (.iface t h p)
 |@aX v' q l=>
  have e:v'.cells=#[v']:=by cases v'<;>first|rfl|exact absurd rfl (l.1 _)
  rw[e];exact one _ _ (.aX q l)
 |tuple h k=>exact one _ _ (.tuple h k)
 |func a b c d e=>exact one _ _ (.func a b c d e)
def AR.add{a a':aiI}(h:AR φ a a')(n:Nat):AR φ (a.add n) (a'.add n):=by
 unfold Addr.add;split
 ·exact h
 ·exact⟨h.block,by simp[h.off],rfl⟩
def ax.push{xs ys:Array rl}(h:ax φ xs ys){x y:rl}(e:VR φ x y):ax φ (xs.push x) (ys.push y):=by
 refine⟨by simp[h.size],λi a b d c=>?_⟩;rw[Array.getElem?_push] at d c;split at d
 ·rw[if_pos tU] at c;cases d;cases c;exact e
 ·rw[if_neg tU] at c;exact h.at_ i a b d c
def ax.empty:ax φ #[] #[]:=⟨rfl,λi x y b _=>by simp at b⟩
def Qv(h:AR φ a a'):SR P K VR φ (load a) (load a'):=.load h λv v' b=>.pure b
def aaZ(h:AR φ a a')(b:VR φ v v'):SR P K aY φ (store a v) (store a' v'):=.store h b (.pure rfl)
def Wh(n:Nat):∀(φ:Ren)(i:Nat)(acc b:Array rl),AR φ a a'->ax φ acc b->SR P K ax φ (loadCellsFrom a i n acc) (loadCellsFrom a' i n b):=by
 induction n with
 |zero=>exactλφ i acc b _ h=>.pure h
 |succ n e=>intro φ i acc b c h;refine SR.bind (Qv (c.add i)) λf v v' d g=>?_;exact e f (i+1) _ _ (c.mono d) ((h.mono d).push g)
def Dv(h:AR φ a a')(n:Nat):SR P K ax φ (loadCells a n) (loadCells a' n):=Wh n φ 0 #[] #[] h .empty
inductive gU(φ:Ren):List rl->List rl->Prop
 |nil:gU φ [] []
 |cons {x y:rl} {xs ys:List rl}:VR φ x y->gU φ xs ys->gU φ (x::xs) (y::ys)
def gU.mono{b:Ren}{xs ys:List rl}(h:gU φ xs ys)(k:Ren.le φ b):gU b xs ys:=by induction h with|nil=>exact .nil|cons h _ c=>exact .cons (h.mono k) c
def gU.of:∀{xs ys:List rl},xs.length=ys.length->(∀(i:Nat) x y,xs[i]?=some x->ys[i]?=some y->VR φ x y)->gU φ xs ys
 |[],[],_,_=>.nil
 |[],_::_,h,_=>by simp at h
 |_::_,[],h,_=>by simp at h
 |x::xs,y::ys,h,k=>.cons (k 0 x y rfl rfl) (gU.of lV λi a b c hb=>k (i+1) a b (by simpa using c) tV)
def ax.toList{xs ys:Array rl}(h:ax φ xs ys):gU φ xs.toList ys.toList:=gU.of (by simpa using h.size) λi x y b c=>h.at_ i x y (by simpa using b) (by simpa using c)
def gU.toArray{xs ys:List rl}(h:gU φ xs ys):ax φ xs.toArray ys.toArray:=by
 have d:xs.length=ys.length:=by induction h with
  |nil=>rfl
  |cons _ _ b=>simp[b]
 refine⟨by simpa using d,λi x y c e=>?_⟩;simp only[List.getElem?_toArray] at c e
 induction h generalizing i with|nil=>simp at c|cons h _ b=>grind
def yy:∀{vs b:List rl}(φ:Ren){a a':aiI}(i:Nat),gU φ vs b->AR φ a a'->SR P K aY φ (storeCells a vs i) (storeCells a' b i)
 |[],[],_,_,_,_,_,_=>.pure rfl
 |_::_,_::_,φ,_,_,i,.cons h hr,c=>SR.bind (aaZ (c.add i) h) λe _ _ d _=>yy e (i+1) (hr.mono d) (c.mono d)
def uH(t:EV)(d:AR φ a a'):SR P K VR φ (loadVar t a) (loadVar t a'):=by
 refine SR.bind (Ex t) λg b _ f e=>?_;subst e;cases b with
 |true=>refine SR.bind (eF t) λi n _ c e=>?_;subst e;refine SR.bind (Dv ((d.mono f).mono c) n) λj xs k _ h=>.pure (.agg h.size h.at_)
 |false=>exact Qv (d.mono f)
def XO(t:EV)(c:AR φ a a')(d:VR φ v v'):SR P K aY φ (storeVar t a v) (storeVar t a' v'):=by
 refine SR.bind (eF t) λf n _ b e=>?_;subst e;have hc:=d.cells.mono b;by_cases h:v.cells.size=n
 ·have g:v'.cells.size=n:=by rw[<-hc.size];exact h
  simp only[h,g,ne_eq,not_true_eq_false,if_false];exact yy f 0 hc.toList (c.mono b)
 ·simp only[h,ne_eq,not_false_eq_true,if_true];exact .halt _ _
def zb(t:EV){cs':Array rl}(h:ax φ cs cs'):SR P K AR φ (newRow t cs) (newRow t cs'):=
 SR.new (.cells t (0,0) h) rfl λc r d _ b=>.pure ⟨b,rfl,rfl⟩
def Od(t:EV)(h:VR φ v v'):SR P K AR φ (newVar t v) (newVar t v'):=zb t h.cells
def uG(h:VR φ v v'):SR P K AR φ (Instr.sureAddr v) (Instr.sureAddr v'):=by cases h with|ptr h=>exact .pure h|_=>exact .halt _ _
def yW(h:VR φ v v'):SR P K aY φ (asIntOf v) (asIntOf v'):=by cases h with|int k n=>exact .pure rfl|_=>exact .halt _ _
def uV(h:VR φ v v'):SR P K aY φ (asInt v) (asInt v'):=
 SR.bind (yW h) λb x _ _ e=>by subst e;exact .pure rfl
def Oe(h:VR φ v v'):SR P K aY φ (asBool v) (asBool v'):=by cases h with|bool b=>exact .pure rfl|_=>exact .halt _ _
def aa0(h:VR φ v v'):SR P K ax φ (asAgg v) (asAgg v'):=by cases h with|agg h k=>exact .pure ⟨h,k⟩|_=>exact .halt _ _
def eG{b:Type}{s:Sem α}{f:α->Sem b}(h:fh P s):fh P (s>>=f):=yu h
end
end
end Go.Proofs.Q0.aI
namespace Go.Proofs
section
open Go.Proofs.Q0.Open Go.Proofs.Q0
namespace Q0.Open
def aP(d:Option Nat)(t:EV)(o:Op):aku:={dst:=d,op:=o,type:=t,pos:= "",after:=#[],guard:=none}
def ei(n:Int):Operand:=.const (U O n)
def gA:Array aku:=#[
 aP (some 13) 33 (.load 33 (.tmp 1)),aP (some 15) 22 (.field 33 (.tmp 13) 4),
 aP (some 20) 3 (.field 33 (.tmp 13) 0),aP (some 21) 3 (.binOp .quo 3 (.tmp 20) (ei 8) 3),
 aP (some 20) 3 (.field 33 (.tmp 13) 1),aP (some 5) 3 (.binOp .quo 3 (.tmp 20) (ei 8) 3),
 aP (some 20) 3 (.field 33 (.tmp 13) 3),aP (some 5) 3 (.binOp .quo 3 (.tmp 20) (ei 8) 3),
 aP (some 24) 4 (.field 33 (.tmp 13) 2),aP (some 5) 4 (.unOp .not 4 (.tmp 24)),
 aP (some 16) 3 (.call {callee:=.builtin .len,args:=#[.tmp 15],argTypes:=#[22]}),
 aP (some 25) 4 (.binOp .lss 3 (.tmp 16) (ei 5) 3),aP (some 5) 4 (.binOp .lss 3 (ei 0) (.tmp 16) 3),aP (some 22) 3 (.move (ei 0)),
 aP (some 17) 143 (.load 143 (.global 0)),aP (some 18) 233 (.typeAssert (.tmp 17) 143 233 false),
 aP (some 19) 143 (.load 143 (.global 1)),aP (some 20) 233 (.typeAssert (.tmp 19) 143 233 false)]
def SE:ajP:=.block 987654 .skip
def nA:ajP:=.seq (.region 60 #[aP (some 5) 3 (.binOp .add 3 (.const (.bool true)) (ei 0) 3)] false) (.rangeFunc (.const .nilFunc) #[] SE .skip)
def Bg:Array aku:=#[aP (some 25) 4 (.binOp .lss 3 (.tmp 22) (.tmp 16) 3)]
def Hv:Array aku:=#[aP (some 26) 0 (.indexAddr 22 (.tmp 15) (.tmp 22)),aP (some 27) 52 (.load 52 (.tmp 26)),aP (some 6) 3 (.call {callee:=.builtin .len,args:=#[.tmp 27],argTypes:=#[52]}),
 aP (some 5) 9 (.convert 52 9 (.tmp 27)),aP (some 17) 3 (.call {callee:=.builtin .len,args:=#[.tmp 5],argTypes:=#[9]}),aP (some 18) 4 (.binOp .eql 3 (.tmp 6) (.tmp 17) 3),
 aP (some 19) 3 (.binOp .add 3 (.tmp 6) (ei 0) 3),aP (some 14) 4 (.binOp .eql 3 (.tmp 19) (.tmp 6) 3),
 aP (some 28) 3 (.call {callee:=.builtin .cap,args:=#[.tmp 27],argTypes:=#[52]}),aP (some 20) 4 (.binOp .leq 3 (.tmp 6) (.tmp 28) 3),aP (some 5) 3 (.binOp .add 3 (.tmp 28) (ei 0) 3),aP (some 17) 4 (.binOp .eql 3 (.tmp 5) (.tmp 28) 3)]
def Hw:Array aku:=#[aP (some 19) 3 (.binOp .add 3 (.tmp 22) (ei 1) 3),aP (some 22) 3 (.move (.tmp 19))]
def gB:ajP:=.seq (.region 62 Bg false) (.seq (.cond (.tmp 25) .skip (.exit 50)) (.seq (.region 63 Hv false) (.seq (.cond (.tmp 18) .skip nA) (.seq (.cond (.tmp 14) .skip nA) (.seq (.cond (.tmp 20) .skip nA) (.seq (.cond (.tmp 17) .skip nA) (.region 67 Hw false)))))))
def gM:Array aku:=#[aP (some 17) 64 (.makeSlice 64 (.tmp 16) (.tmp 16)),
 aP (some 18) 66 (.build 66 #[(0,.tmp 13),(1,.tmp 17)]),aP (some 4) 0 (.alloc 66),aP none 0 (.store 66 (.tmp 4) (.tmp 18)),aP (some 22) 3 (.move (ei 0))]
def wh:Array aku:=#[aP (some 26) 0 (.indexAddr 22 (.tmp 15) (.tmp 22)),aP (some 27) 52 (.load 52 (.tmp 26)),
 aP (some 28) 0 (.call {callee:=.value (.func 64),args:=#[.tmp 27,.tmp 21,.tmp 24],argTypes:=#[52,3,4]}),
 aP (some 5) 53 (.extract (.tmp 28) 0),aP (some 6) 0 (.indexAddr 64 (.tmp 17) (.tmp 22)),aP none 0 (.store 53 (.tmp 6) (.tmp 5)),
 aP (some 19) 3 (.binOp .add 3 (.tmp 22) (ei 1) 3),aP (some 22) 3 (.move (.tmp 19))]
def gD:ajP:=.seq (.region 65 Bg false) (.seq (.cond (.tmp 25) .skip (.exit 51)) (.region 66 wh false))
noncomputable def iL:ajP:=.seq (.region 61 gA false) (.seq (.cond (.tmp 25) .skip nA) (.seq (.cond (.tmp 5) .skip nA) (.seq (.block 50 (.loop gB)) (.seq (.region 64 gM false) (.seq (.block 51 (.loop gD)) du)))))
noncomputable def lh:ajP:=.seq ld.sl (.seq ld.sr.sl iL)
end Q0.Open
noncomputable def Gz.f40:Func:={Tryz.f40 with body:=some lh}
noncomputable def Gz.prog:Kx:={Tryz.prog with funcs:=Tryz.prog.funcs.setIfInBounds 40 Gz.f40}
def Gz.funcs:Gz.prog.funcs=Tryz.prog.funcs.setIfInBounds 40 Gz.f40:=aC
def Gz.l8{n:Nat}{f:Func}(h:Tryz.prog.funcs[n]?=some f)(a:n≠40):Gz.prog.funcs[n]?=some f:=by rw[Gz.funcs];rw[ahM (Ne.symm a)];exact h
def Gz.func40:Gz.prog.funcs[40]?=some Gz.f40:=by rw[Gz.funcs];rw[aiT];exact(bF.1 Tryz.func40).1
def Gz.size:Gz.prog.funcs.size=Tryz.prog.funcs.size:=aD
@[simp] theorem Gz.info(t:EV):Gz.prog.info? t=Tryz.prog.info? t:=aC
@[simp] theorem Gz.under(t:EV):Gz.prog.underlying t=Tryz.prog.underlying t:=aC
section
noncomputable local instance:aI.ag:={ok:=λ_=>False,fv:=λ_=>False,gl:=λ_=>False,cd:=λ_ _=>False,fs:=Gz.prog.funcs,lv:=λ_ _=>False,dH:=λ_ _=>False,home:=0,cl:=λ_=>False,np:=λ_=>False,hd:=λ_=>False,jk:=λ_=>False}
def Gz.two:Tryz.prog.two=Gz.prog:=aC
def Gz.looks{α:Type}{s:Sem α}(h:aI.Looks Tryz.prog s)(w:ns):aiF Gz.prog s w=aiF Tryz.prog s w:=by
 have e:∀(P:Kx)(w:ns),aiF P s w=(s.runT P w #[]).1:=λP w=>(nM P s w #[]).symm;rw[e,e];rcases h with⟨a,h⟩|⟨x,_,h⟩
 ·rw[(h w #[]).1,<-Gz.two,(h w #[]).2]
 ·rw[(h w #[]).1,<-Gz.two,(h w #[]).2]
@[simp] theorem Gz.Ey(t:EV)(w:ns):aiF Gz.prog (ajg t) w=aiF Tryz.prog (ajg t) w:=Gz.looks (aI.qZ t) w
@[simp] theorem Gz.ahC(t:EV)(w:ns):aiF Gz.prog (typeInfo t) w=aiF Tryz.prog (typeInfo t) w:=Gz.looks (aI.rj t) w
@[simp] theorem Gz.ahD(t:EV)(w:ns):aiF Gz.prog (sizeOf t) w=aiF Tryz.prog (sizeOf t) w:=Gz.looks (aI.yL t) w
@[simp] theorem Gz.Rt(t:EV)(w:ns):aiF Gz.prog (isAgg t) w=aiF Tryz.prog (isAgg t) w:=Gz.looks (aI.MT t) w
@[simp] theorem Gz.ahE(t:EV)(w:ns):aiF Gz.prog (ajS t) w=aiF Tryz.prog (ajS t) w:=Gz.looks (aI.Wu t) w
end
end
end Go.Proofs
