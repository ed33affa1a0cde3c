import Derived.Test.YtnbpokndlaebbaaGreatDoorK12
set_option maxRecDepth 100000
set_option maxHeartbeats 8000000
set_option linter.all false
open Go.Value renaming int->U,slice->Y,bool->ci,agg->bi,pointer->d9,tuple->em,iface->gc
open Go.IntKind renaming i64->O
open Go.Obj renaming cells->ap
open Go.Ending renaming returned->dl
open Array renaming forIn_toList->ajt
open Bool renaming and_eq_true->Uy,eq_iff_iff->ajM,false->Ba,false_eq_true->air,or_eq_true->ajO,true->AT
open Go renaming Addr->aic,Event->aiK,Program->OF,TypeId->SL,Value->AS,World->rl,behindNumber->aiF,byteOf->ajK,numberAt->ajn,sameAddr->aja,underlying->aiy
open Go.Builtin renaming unsafeAdd_->aiN
open Go.Op renaming equalIn->aim
open Go.Sem renaming bind->aki,pure->ajw,runT->akd,runT_fst->aiI
open Go.World renaming frozen?->ahV,shape?->ajh
open Option renaming none->ns,some->an
open Std.Legacy.Range renaming forIn_eq_forIn_range'->aiA
namespace Go.Proofs
def CJ{p:Prop}(h:p:=by unfold sameAddr;rw[e1];rfl):p:=h
def Ko{p:Prop}(h:p:=by subst e;have h1:=ha.block;rw[hb.block] at h1;obtain⟨ab,ao,UQ⟩:=a';obtain⟨bb,bo,bsp⟩:=b';have h2:=ha.off;have h3:=ha.spot;have h4:=hb.off;have h5:=hb.spot;simp only[Option.some.injEq] at h1 h2 h3 h4 h5;rw[h1,h2,h3,h4,h5]):p:=h
abbrev jw:=@Array.mem_toList_iff
end Go.Proofs
namespace Go.Proofs.Q0.aM
variable{o:Obj}{a b a' b':aic}{w w':rl}{t:SL}{r:Nat}{x y x' y':AS}{op:BinOp}
section
variable[ah]
section
variable{P:OF}{K:aI}{φ:Ren}
def nD{α β:Type}(x:Sem α)(f:α->Sem β)(w:rl)(es:Array aiK):
  (x>>=f).runT P w es=match x.runT P w es with
   |(.ok a w',c)=>(f a).runT P w' c
   |(.halt h w',c)=>(.halt h w',c):=ou P x f w es
def jh(w:rl)(a:aic):Bool:=w.frozen? a||(match w.shape? a.block with|some (_,n)=>w.frozen? {block:=a.block,off:=n}|none=>Ba)
def Mf(w:rl)(a:aic)(es:Array aiK):(stringish a).runT P w es=(.ok (jh w a) w,es):=by
 show(if w.frozen? a=AT then _ else _:Sem Bool).runT P w es=_;unfold jh;cases c:w.frozen? a with
 |true=>rfl
 |false=>show(match w.shape? a.block with|some (_,n)=>frozen {block:=a.block,off:=n}|none=>pure Ba:Sem Bool).runT P w es=_;cases w.shape? a.block with|none=>rfl|some x=>rfl
def qo(w:rl)(a:aic):Bool:=(w.shape? a.block) matches an (_,0)
def ji(w:rl)(a b:aic):Bool:=(jh w a&&jh w b)||(jh w a&&qo w a)||(jh w b&&qo w b)
def Xp(w:rl)(a b:aic)(es:Array aiK):(mayBeOne a b).runT P w es=(.ok (ji w a b) w,es):=by unfold mayBeOne;rw[nD,Mf];dsimp only;rw[nD,Mf];rfl
def NB(h:w.heap[a.block]?=an o)(g:∀x y,o≠.view x y):∃d:Array aiK,(∀es,(noView a).runT P w es=(.ok () w,es++d))/\∀e∈d,(∀cs t f,o≠.cells cs t f)/\e=⟨.obj a.block,Ba,o.isChan⟩:=by
 rcases isCells o with⟨cs,t,f,rfl⟩|c
 ·refine⟨#[],λes=>?_,au⟩;unfold noView;rw[nD,sd h];rfl
 ·refine⟨#[⟨.obj a.block,Ba,o.isChan⟩],λes=>?_,λe he=>⟨c,by simpa using he⟩⟩;unfold noView;rw[nD,pR h c g];rfl
def NC(w:rl)(a:aic)(es:Array aiK):(frozen a).runT P w es=(.ok (w.frozen? a) w,es):=rfl
def zn(i:a.block≠b.block){c g:Obj}(h1:w.heap[a.block]?=an c)(j:w.heap[b.block]?=an g)(v1:∀x y,c≠.view x y)(v2:∀x y,g≠.view x y):
  ∃d:Array aiK,(∀es,(aja a b).runT P w es=if(w.frozen? a&&w.frozen? b)=AT then(.halt (.unsupported .addressObserved) w,es) else
    if ji w a b=AT then(choose (.extern "sameAddr.stringBytes" 2)>>=λn=>pure (n==1)).runT P w (es++d) else(.ok Ba w,es++d))/\
   ∀e∈d,((∀cs t f,c≠.cells cs t f)/\e=⟨.obj a.block,Ba,c.isChan⟩)\/((∀cs t f,g≠.cells cs t f)/\e=⟨.obj b.block,Ba,g.isChan⟩):=by
 obtain⟨d1,k,l⟩:=NB (P:=P) h1 v1;obtain⟨d2,m,p⟩:=NB (P:=P) j v2;refine⟨d1++d2,λes=>?_,λe he=>(jv.1 he).elim (λh=>.inl (l e h)) λh=>.inr (p e h)⟩;unfold aja;have q:(a.block==b.block)=Ba:=eN;rw[q];simp only[air,if_false];rw[nD];rw[NC];dsimp only;rw[nD,NC];dsimp only;cases s:(w.frozen? a&&w.frozen? b) with
 |true=>rfl
 |false=>simp only[air,if_false];rw[nD,k];dsimp only;rw[nD,m];dsimp only;rw[nD,Xp,Array.append_assoc];cases ji w a b<;>rfl
def HR.DQ(H:HR K φ w.heap w'.heap)(q:K.strict=AT)(e:ah.cl a.block)(u:AR φ a a'):w'.frozen? a'=Ba/\(w.frozen? a=AT->K.ro a.block/\∃t n,w.shape? a.block=an (t,n)/\0<n):=by
 obtain⟨o,o',c,d,v⟩:=H.obj _ _ u.block;cases v with
 |@shut z i t B h1 g k A=>obtain rfl:=A e;refine⟨by simp[ahV,d],λm=>⟨h1,t,z.size,by simp only[ajh,c],?_⟩⟩;simp[ahV,c] at m;exact Nat.lt_of_le_of_lt (ez _) m
 |token s p i t h1 g j=>obtain rfl:=j e;exact⟨by simp[ahV,d],λh=>by simp[ahV,c] at h⟩
 |@blank _ s p h1 g=>exact⟨by unfold ahV;rw[d];cases o'<;>first|rfl|exact g.elim,λh=>by simp[ahV,c] at h⟩
 |num l h1 g=>exact⟨by simp[ahV,d],λh=>by simp[ahV,c] at h⟩
 |own h1 g j k=>
  cases j with
  |cells t f hc=>have:f=(0,0):=k q;subst this;exact⟨by simp[ahV,d],λh=>by simp[ahV,c] at h⟩
  |loop _=>exact⟨by simp[ahV,d],λh=>by simp[ahV,c] at h⟩
  |deferred=>exact⟨by simp[ahV,d],λh=>by simp[ahV,c] at h⟩
  |taken=>exact⟨by simp[ahV,d],λh=>by simp[ahV,c] at h⟩
  |number _ _=>exact⟨by simp[ahV,d],λh=>by simp[ahV,c] at h⟩
def HR.Ru(H:HR K φ w.heap w'.heap)(d:K.strict=Ba){b c:Nat}(e:φ b=an c):∃o o',w.heap[b]?=an o/\w'.heap[c]?=an o'/\OR φ o o':=by obtain⟨o,o',f,g,h⟩:=H.obj _ _ e;cases h with|shut t h1 _ _=>have:=(H.below b (.inl h1)).2;rw[d] at this;cases this|token s p i t h1 _=>have:=(H.below b (.inr h1)).2;rw[d] at this;cases this|blank s p h1 _=>have:=(H.below b (.inr h1)).2;rw[d] at this;cases this|num l h1 _=>have:=(H.below b (.inr h1)).2;rw[d] at this;cases this|own h1 k j m=>exact⟨o,o',f,g,j⟩
def HR.zv(H:HR K φ w.heap w'.heap)(e:K.strict=Ba)(g:φ a.block=an a'.block)(h:a'.off=a.off):w'.frozen? a'=w.frozen? a:=by obtain⟨o,o',c,d,i⟩:=H.Ru e g;cases i with|cells t f hc=>simp[ahV,c,d,h]|loop _=>simp[ahV,c,d]|deferred=>simp[ahV,c,d]|taken=>simp[ahV,c,d]|number _ _=>simp[ahV,c,d]
def HR.YQ(H:HR K φ w.heap w'.heap)(g:K.strict=Ba){b c:Nat}(h:φ b=an c):w'.shape? c=w.shape? b:=by obtain⟨o,o',d,e,i⟩:=H.Ru g h;cases i with|cells t f hc=>simp[ajh,d,e,hc.size]|loop _=>simp[ajh,d,e]|deferred=>simp[ajh,d,e]|taken=>simp[ajh,d,e]|number _ _=>simp[ajh,d,e]
def HR.Pz(H:HR K φ w.heap w'.heap)(d:K.strict=Ba)(c:AR φ a a'):jh w' a'=jh w a/\qo w' a'=qo w a:=by
 unfold jh qo;rw[H.zv d c.block c.off,H.YQ d c.block];refine⟨?_,rfl⟩;cases w.shape? a.block with
 |none=>rfl
 |some x=>obtain⟨t,n⟩:=x;dsimp only;rw[H.zv d (a:=⟨a.block,n,ns⟩) (a':=⟨a'.block,n,ns⟩) c.block rfl]
def HR.Ot(H:HR K φ w.heap w'.heap)(j:K.strict=AT)(e:ah.cl a.block)(k:AR φ a a'):jh w' a'=Ba/\(jh w a=AT->w.frozen? a=AT/\qo w a=Ba):=by
 have g:=H.DQ j e k;constructor
 ·unfold jh;rw[g.1];cases w'.shape? a'.block with
  |none=>rfl
  |some x=>obtain⟨t,n⟩:=x;have:=(H.DQ j (a:=⟨a.block,n,ns⟩) (a':=⟨a'.block,n,ns⟩) e ⟨k.block,rfl,rfl⟩).1;simp[this]
 ·intro h;unfold jh at h;cases m:w.frozen? a with
  |true=>obtain⟨_,t,n,c,A⟩:=g.2 m;refine⟨rfl,?_⟩;unfold qo;rw[c];cases n with|zero=>omega|succ n=>rfl
  |false=>
   rw[m,Bool.false_or] at h;cases c:w.shape? a.block with
   |none=>rw[c] at h;cases h
   |some x=>
    obtain⟨t,n⟩:=x;rw[c] at h;obtain⟨o,o',d,B,u⟩:=H.obj _ _ k.block;cases u with
    |shut t h1 i q=>simp only[ajh,d,Option.some.injEq,Prod.mk.injEq] at c;simp[ahV,d] at h;omega
    |token s p v t h1 i=>simp[ahV,d] at h
    |blank s p h1 i=>simp[ahV,d] at h
    |num l h1 i=>simp[ahV,d] at h
    |own h1 i z q=>
     cases z with
     |cells t f hc=>have:f=(0,0):=q j;subst this;simp[ahV,d] at h
     |loop _=>simp[ahV,d] at h
     |deferred=>simp[ahV,d] at h
     |taken=>simp[ahV,d] at h
     |number _ _=>simp[ahV,d] at h
def HO.noView{b:Nat}{o':Obj}(h:HO K φ b o o'):(∀x y,o≠.view x y)/\(∀x y,o'≠.view x y)/\o'.isChan=Ba:=by cases h with|shut=>exact⟨λ_ _ e=>bG,λ_ _ e=>bG,rfl⟩|token=>exact⟨λ_ _ e=>bG,λ_ _ e=>bG,rfl⟩|blank s p _ h=>exact⟨λ_ _ e=>bG,λ_ _ e=>(by subst e;exact h),by cases o'<;>first|rfl|exact h.elim⟩|num=>exact⟨λ_ _ e=>bG,λ_ _ e=>bG,rfl⟩|own c d h _=>cases h<;>exact⟨λ_ _ e=>bG,λ_ _ e=>bG,rfl⟩
def MR(R:ah.cl a.block)(cb:ah.cl b.block)(q:AR φ a a')(s:AR φ b b'):SR P K aZ φ (aja a b) (aja a' b'):=by
 refine .of_does (λ{w w' c M} es hw J=>?_) (λw w' hw x M e=>?_) (λw w' hw x M e=>?_)
 case refine_3=>
  by_cases g:a.block=b.block
  ·have e1:(a.block==b.block)=AT:=by simpa using g
   have H:∀i:rl,(aja a b).run P i=.ok (a==b) i:=by intro i;have:(aja a b).runT P i #[]=(.ok (a==b) i,#[]):=CJ;rw[<-aiI P (aja a b) i #[],this]
   rw[H] at e;cases e;exact⟨0,rfl,rfl,λT n _=>H _⟩
  ·obtain⟨S,p1,z,V,q1⟩:=hw.heap.obj _ _ q.block;obtain⟨W,p2,A,X,B⟩:=hw.heap.obj _ _ s.block
   have C:∀i:rl,i.heap[a.block]?=an S->i.heap[b.block]?=an W->(aja a b).run P i=if(i.frozen? a&&i.frozen? b)=AT then .halt (.unsupported .addressObserved) i else
     if ji i a b=AT then(choose (.extern "sameAddr.stringBytes" 2)>>=λn=>pure (n==1):Sem Bool).run P i else .ok Ba i:=by
    intro i h1 N;obtain⟨d,r,_⟩:=zn (P:=P) g h1 N q1.noView.1 B.noView.1;rw[<-aiI P (aja a b) i #[],r];split
    ·rfl
    ·split
     ·rw[aiI]
     ·rfl
   rw[C w z A] at e;cases j:(w.frozen? a&&w.frozen? b) with
   |true=>rw[j,if_pos rfl] at e;cases e
   |false=>
    rw[j] at e;simp only[air,if_false] at e;have v:∀T n,((w.on T n).frozen? a&&(w.on T n).frozen? b)=Ba:=λT n=>j;cases hm:ji w a b with
    |false=>rw[hm] at e;simp only[air,if_false] at e;cases e;refine⟨0,rfl,rfl,λT n _=>?_⟩;have D:ji (w.on T n) a b=Ba:=hm;rw[C (w.on T n) z A,v,D];rfl
    |true=>rw[hm] at e;simp only[if_true] at e;have Q:∀i:rl,(choose (.extern "sameAddr.stringBytes" 2)>>=λn=>pure (n==1):Sem Bool).run P i=.ok (i.tape i.drawn (.extern "sameAddr.stringBytes" 2)%2==1) {i with drawn:=i.drawn+1}:=λi=>rfl;rw[Q] at e;cases e;refine⟨1,rfl,rfl,λT n hT=>?_⟩;have D:ji (w.on T n) a b=AT:=hm;have h0:=hT 0 aa (.extern "sameAddr.stringBytes" 2);simp only[Nat.add_zero] at h0;rw[C (w.on T n) z A,v,D];simp only[air,if_false,if_true];rw[Q];show Result.ok (T n (.extern "sameAddr.stringBytes" 2)%2==1) _=_;rw[h0];rfl
 case refine_2=>
  rw[<-aiI P (aja a b) w #[]] at e;by_cases g:a.block=b.block
  ·have e1:(a.block==b.block)=AT:=by simpa using g
   have H:(aja a b).runT P w #[]=(.ok (a==b) w,#[]):=CJ;rw[H] at e;cases e
  ·obtain⟨S,p1,z,V,q1⟩:=hw.heap.obj _ _ q.block;obtain⟨W,p2,A,X,B⟩:=hw.heap.obj _ _ s.block;obtain⟨d,r,_⟩:=zn (P:=P) g z A q1.noView.1 B.noView.1;rw[r] at e;split at e
   ·cases e;exact⟨trivial,φ,w'.heap,Ren.le_refl _,hw.heap⟩
   ·split at e
    ·rw[aiI] at e;have:=(pT zu (λ_=>kG) w).1 x M e;exact⟨this.1,φ,w'.heap,Ren.le_refl _,hw.heap.bK this.2⟩
    ·cases e
 have f:((aja a b).runT P w #[]).1=.ok c M:=by rw[aiI];exact J
 by_cases g:a.block=b.block
 ·have k:a'.block=b'.block:=by have:=q.block;rw[g,s.block] at this;exact(aH this).symm
  have e1:(a.block==b.block)=AT:=by simpa using g
  have Q:(a'.block==b'.block)=AT:=by simpa using k
  have H:(aja a b).runT P w #[]=(.ok (a==b) w,#[]):=CJ;have r2:(aja a' b').runT P.two w' es=(.ok (a'==b') w',es):=by unfold aja;rw[Q];rfl
  rw[H] at f;cases f;refine⟨φ,a'==b',w',#[],by rw[r2,Array.append_empty],?_,hw,.refl _,.refl _ _ _ _,au⟩;show(a==b)=(a'==b');obtain⟨ab,ao,UQ⟩:=a;obtain⟨bb,bo,bsp⟩:=b;obtain⟨ab',ao',ahv⟩:=a';obtain⟨bb',bo',ahw⟩:=b';have h1:=q.off;have N:=q.spot;have h3:=s.off;have h4:=s.spot;simp only at h1 N h3 h4 g k;subst h1;subst N;subst h3;subst h4;subst g;subst k;rw[ajM,beq_iff_eq,beq_iff_eq];simp
 ·have k:a'.block≠b'.block:=λe=>(hw.heap.inj _ _ _ q.block (by rw[e];exact s.block)).elim g λm=>m.2.2.1 ⟨R,cb⟩;obtain⟨S,p1,z,V,q1⟩:=hw.heap.obj _ _ q.block;obtain⟨W,p2,A,X,B⟩:=hw.heap.obj _ _ s.block;obtain⟨d,r,_⟩:=zn (P:=P) g z A q1.noView.1 B.noView.1;obtain⟨L,Z,ev⟩:=zn (P:=P.two) k V X q1.noView.2.1 B.noView.2.1
  have E:∀F,Ren.le φ F->∀e∈L,fp K F e:=λF hl e he=>by
   rcases ev e he with⟨hn,rfl⟩|⟨hn,rfl⟩
   ·exact .inr (.inl ⟨_,_,rfl,q1.noView.2.2,hl _ _ q.block,λe=>by cases e⟩)
   ·exact .inr (.inl ⟨_,_,rfl,B.noView.2.2,hl _ _ s.block,λe=>by cases e⟩)
  rw[r] at f;cases j:(w.frozen? a&&w.frozen? b) with
  |true=>rw[j,if_pos rfl] at f;cases f
  |false=>
   rw[j] at f;simp only[air,if_false] at f;cases l:K.strict with
   |true=>
    have sa:=hw.heap.Ot l R q;have I:=hw.heap.Ot l cb s
    have hm:ji w a b=Ba:=by
     unfold ji;cases hA:jh w a<;>cases hB:jh w b
     ·rfl
     ·simp[(I.2 hB).2]
     ·simp[(sa.2 hA).2]
     ·rw[(sa.2 hA).1,(I.2 hB).1] at j;cases j
    have py:ji w' a' b'=Ba:=by unfold ji;rw[sa.1,I.1];rfl
    have p:(w'.frozen? a'&&w'.frozen? b')=Ba:=by rw[(hw.heap.DQ l R q).1];rfl
    rw[hm] at f;simp only[air,if_false] at f;cases f;exact⟨φ,Ba,w',L,by rw[Z,p,py];rfl,rfl,hw,.refl _,.refl _ _ _ _,E φ (Ren.le_refl _)⟩
   |false=>
    have sa:=hw.heap.Pz l q;have I:=hw.heap.Pz l s;have hm:ji w' a' b'=ji w a b:=by unfold ji;rw[sa.1,sa.2,I.1,I.2]
    have p:(w'.frozen? a'&&w'.frozen? b')=Ba:=by rw[hw.heap.zv l q.block q.off,hw.heap.zv l s.block s.off];exact j
    cases u:ji w a b with
    |false=>rw[u] at f;simp only[air,if_false] at f;cases f;exact⟨φ,Ba,w',L,by rw[Z,p,hm,u];rfl,rfl,hw,.refl _,.refl _ _ _ _,E φ (Ren.le_refl _)⟩
    |true=>
     rw[u] at f;simp only[if_true] at f;rw[aiI] at f;have G:SR P K aZ φ (choose (.extern "sameAddr.stringBytes" 2)>>=λn=>pure (n==1)) (choose (.extern "sameAddr.stringBytes" 2)>>=λn=>pure (n==1)):=SR.bind zH λF n _ _ e=>by subst e;exact .pure rfl
     obtain⟨F,b1,Pi,dd,x1,x2,x3,x4,x5,x6⟩:=G.run (es++L) hw f;exact⟨F,b1,Pi,L++dd,by rw[Z,p,hm,u];simp only[air,if_false,if_true];rw[x1];simp,x2,x3,x4,x5,λe he=>(jv.1 he).elim (λh=>E F x5.le e h) (x6 e)⟩
end
end
section
variable[ah]
section
variable{P:OF}{K:aI}{φ:Ren}
def SR.test{c f:Bool}(h:∀w w',WR K φ w w'->f=c):SR P K aZ φ (ajw c) (ajw f):=
 .of_does (λ{w w' a g} es hw d=>by cases d;exact⟨φ,f,w',#[],by rw[Array.append_empty];rfl,(h w w' hw).symm,hw,.refl _,.refl _ _ _ _,au⟩) (λw w' _ x g e=>by cases e) (λw w' _ x g e=>by cases e;exact⟨0,rfl,rfl,λT n _=>rfl⟩)
def SR.aeX{c d:Bool}(h:c=AT->d=AT):SR P K (λ_ c d=>c=AT->d=AT) φ (ajw c) (ajw d):=.pure h
def AR.af9(ha:AR φ a a')(hb:AR φ b b')(e:(a==b)=AT):(a'==b')=AT:=by rw[beq_iff_eq] at e⊢;exact Ko
def AR.beq(ha:AR φ a a')(hb:AR φ b b')(hw:WR K φ w w')(h:ah.cl a.block)(cb:ah.cl b.block):(a'==b')=(a==b):=by
 rw[ajM,beq_iff_eq,beq_iff_eq];constructor
 ·intro e;have h1:=(hw.heap.inj _ _ _ ha.block (by rw[e];exact hb.block)).elim id λm=>absurd ⟨h,cb⟩ m.2.2.1;obtain⟨k,l,i⟩:=a;obtain⟨n,p,j⟩:=b;have c:=ha.off;have d:=ha.spot;have f:=hb.off;have g:=hb.spot;rw[e] at c d;simp only at h1 c d f g;rw[h1,<-c,<-d,<-f,<-g]
 ·intro e;exact Ko
def yW{cs:Array AS}{f:Nat×Nat}(h:w.heap[r]?=an (.cells cs t f))(es:Array aiK){P:OF}:(ajn r).runT P w es=(.ok ns w,es):=by have c:w.shape? r=an (t,cs.size):=C4;unfold ajn shape;simp only[bind,aki,akd,c,Option.isSome_some,if_true];rfl
def yX(h:w.heap[r]?=an o)(hn:∀cs t f,o≠.cells cs t f)(hv:∀x y,o≠.number x y)(es:Array aiK){P:OF}:(ajn r).runT P w es=(.ok ns w,es.push ⟨.obj r,Ba,o.isChan⟩):=by
 have hs:w.shape? r=ns:=by unfold ajh;rw[h];cases o<;>first|rfl|exact absurd rfl (hn _ _ _)
 unfold ajn shape getObj;exact Kj
def yO{l:Bool}(h:w.heap[r]?=an (.number a l))(es:Array aiK){P:OF}:(ajn r).runT P w es=(.ok (an (a,l)) w,es.push ⟨.obj r,Ba,Ba⟩):=by have c:w.shape? r=ns:=C4;unfold ajn shape getObj;simp only[bind,aki,akd,c,Option.isSome_none,air,if_false,h];rfl
def GW(c:Ren)(a b:Option (aic×Bool)):Prop:=(a=ns/\b=ns)\/∃x y l,a=an (x,l)/\b=an (y,l)/\AR c x y
def MT{m:Nat}(h:φ r=an m):SR P K GW φ (ajn r) (ajn m):=by
 refine .of_does (λ{w w' c q} es hw C=>?_) (λw w' hw x q e=>?_) (λw w' hw x q e=>?_)
 case refine_3=>
  obtain⟨o,A,i,D,L⟩:=hw.heap.obj _ _ h
  have j:∃u,∀k:rl,k.heap[r]?=an o->(ajn r).run P k=.ok u k:=by
   rcases isCells o with⟨E,t,f,rfl⟩|B
   ·exact⟨ns,λk h0=>by rw[<-aiI P (ajn r) k #[],yW h0]⟩
   ·by_cases F:∃x y,o=.number x y
    ·obtain⟨x,y,rfl⟩:=F;exact⟨_,λk h0=>by rw[<-aiI P (ajn r) k #[],yO h0]⟩
    ·exact⟨ns,λk h0=>by rw[<-aiI P (ajn r) k #[],yX h0 B λx y e=>F ⟨x,y,e⟩]⟩
  obtain⟨u,j⟩:=j;rw[j w i] at e;cases e;exact⟨0,rfl,rfl,λT n _=>j _ i⟩
 case refine_2=>
  obtain⟨o,A,i,D,L⟩:=hw.heap.obj _ _ h;rw[<-aiI P (ajn r) w #[]] at e;rcases isCells o with⟨E,t,f,rfl⟩|B
  ·rw[yW i] at e;cases e
  ·by_cases F:∃x y,o=.number x y
   ·obtain⟨x,y,rfl⟩:=F;rw[yO i] at e;cases e
   ·rw[yX i B λx y e=>F ⟨x,y,e⟩] at e;cases e
 obtain⟨o,A,i,D,L⟩:=hw.heap.obj _ _ h;have g:((ajn r).runT P w #[]).1=.ok c q:=by rw[aiI];exact C
 have v:∀d M,GW φ c M->q=w->(ajn m).runT P.two w' es=(.ok M w',es++d)->(∀e∈d,fp K φ e)->
   ∃N b z d,(ajn m).runT P.two w' es=(.ok b z,es++d)/\GW N c b/\WR K N q z/\jG w q/\gw K φ N w.heap.size w' z/\∀e∈d,fp K N e:=λd M hc G Q hd=>
  ⟨φ,M,w',d,Q,hc,G▸hw,G▸.refl _,.refl _ _ _ _,hd⟩
 have H:(∀E t f,A≠.cells E t f)->∀e∈#[(⟨.obj m,Ba,Ba⟩:aiK)],fp K φ e:=λB e he=>by simp at he;subst he;exact .inr (.inl ⟨m,r,rfl,rfl,h,λe=>by cases e⟩)
 have I:(∃x y l,o=.number x l/\A=.number y l/\AR φ x y)\/((∀x y,o≠.number x y)/\∀x y,A≠.number x y):=by
  cases L with
  |shut=>exact .inr ⟨λ_ _ e=>bG,λ_ _ e=>bG⟩
  |token=>exact .inr ⟨λ_ _ e=>bG,λ_ _ e=>bG⟩
  |blank s p _ h=>exact .inr ⟨λ_ _ e=>bG,λ_ _ e=>(by subst e;exact h)⟩
  |num l _ h=>exact .inl ⟨_,_,l,rfl,rfl,h⟩
  |own S V h _=>cases h with|number l h=>exact .inl ⟨_,_,l,rfl,rfl,h⟩|_=>exact .inr ⟨λ_ _ e=>bG,λ_ _ e=>bG⟩
 rcases I with⟨x,y,l,rfl,rfl,R⟩|⟨v1,v2⟩
 ·rw[yO i] at g;cases g;exact v #[⟨.obj m,Ba,Ba⟩] (an (y,l)) (.inr ⟨x,y,l,rfl,rfl,R⟩) rfl (by rw[yO D];rfl) (H λ_ _ _ e=>by cases e)
 ·have hc:c=ns/\q=w:=by
   rcases isCells o with⟨E,t,f,rfl⟩|B
   ·rw[yW i] at g;cases g;exact⟨rfl,rfl⟩
   ·rw[yX i B v1] at g;cases g;exact⟨rfl,rfl⟩
  rcases isCells A with⟨E,t,f,rfl⟩|J
  ·exact v #[] ns (.inl ⟨hc.1,rfl⟩) hc.2 (by rw[yW D,Array.append_empty]) au
  ·exact v #[⟨.obj m,Ba,Ba⟩] ns (.inl ⟨hc.1,rfl⟩) hc.2 (by rw[yX D J v2,L.noView.2.2];rfl) (H J)
def ot(c:AR φ a a'):SR P K (λd x y=>AR d x.1 y.1/\x.2=y.2) φ (aiF a) (aiF a'):=by
 refine SR.bind (MT c.block) λd x y e h=>?_;rcases h with⟨rfl,rfl⟩|⟨x,y,l,rfl,rfl,h⟩
 ·exact .pure ⟨c.mono e,rfl⟩
 ·exact .pure ⟨h,rfl⟩
def A0(t:SL)(a b:aic)(c:Bool)(n:Bool):Sem Bool:=do
 if c then return (<-ajK a)==(<-ajK b)
 let .named "sync.copyChecker" _:=(<-typeInfo t).desc|unsupported .addressObserved
 if n then pure AT else unsupported .addressObserved
def abm(t:SL)(h:AR φ a a')(i:AR φ b b')(c:Bool){n d:Bool}(j:n=AT->d=AT):SR P K aZ φ (A0 t a b c n) (A0 t a' b' c d):=by
 cases c with
 |true=>refine SR.bind (pU h) λf x _ g e=>?_;subst e;refine SR.bind (pU (i.mono g)) λf y _ _ e=>?_;subst e;exact .pure rfl
 |false=>
  refine SR.bind (mC t) λf k _ g e=>?_;subst e;split
  ·cases n
   ·exact .dead eX
   ·rw[j rfl];exact .pure rfl
  ·exact .halt _ _
def Ou(hG:K.G=P.globals.size)(t:SL)(l:AR φ a a')(p:AR φ b b'):
  SR P K aZ φ (do
   let(a,b):=((<-aiF a).1,(<-aiF b).1)
   if a.block==b.block&&a.block<(<-program).globals.size then return (<-ajK a)==(<-ajK b)
   let .named "sync.copyChecker" _:=(<-typeInfo t).desc|unsupported .addressObserved
   if a==b then pure AT else unsupported .addressObserved:Sem Bool) (do
   let(a,b):=((<-aiF a').1,(<-aiF b').1)
   if a.block==b.block&&a.block<(<-program).globals.size then return (<-ajK a)==(<-ajK b)
   let .named "sync.copyChecker" _:=(<-typeInfo t).desc|unsupported .addressObserved
   if a==b then pure AT else unsupported .addressObserved:Sem Bool):=by
 refine SR.bind (ot l) λz x x' q f=>?_;obtain⟨x,A⟩:=x;obtain⟨x',s⟩:=x';refine SR.bind (ot (p.mono q)) λj y y' i g=>?_;obtain⟨y,B⟩:=y;obtain⟨y',u⟩:=y';have f:=f.1.mono i;have g:=g.1;refine SR.ask ?_
 have h1:SR P K aZ j (ajw (x.block==y.block&&decide (x.block<P.globals.size))) (ajw (x'.block==y'.block&&decide (x'.block<P.globals.size))):=.test λw w' hw=>by
  have k:=hw.heap.low _ _ f.block;rw[hG] at k;rw[ajM,Uy,Uy,decide_eq_true_eq,decide_eq_true_eq,beq_iff_eq,beq_iff_eq,<-k];constructor
  ·intro e;refine⟨(hw.heap.inj _ _ _ f.block (by rw[e.1];exact g.block)).elim id λm=>?_,e.2⟩;have h1:=m.2.2.2;omega
  ·intro e;refine⟨?_,e.2⟩;have:=f.block;rw[e.1,g.block] at this;exact(aH this).symm
 show SR P K aZ j (aki (ajw (x.block==y.block&&decide (x.block<P.globals.size))) λc=>aki (ajw (x==y)) λn=>A0 t x y c n)
  (aki (ajw (x'.block==y'.block&&decide (x'.block<P.globals.size))) λc=>aki (ajw (x'==y')) λn=>A0 t x' y' c n)
 refine SR.bind h1 λC c _ d e=>?_;subst e;refine SR.bind (SR.aeX ((f.mono d).af9 (g.mono d))) λv n D h e=>?_;exact abm t ((f.mono d).mono h) ((g.mono d).mono h) c e
end
end
section
variable[ah]
section
variable{P:OF}{K:aI}{φ:Ren}
def Xq:Calm P (typeStr t):=((rV t).bind λi=>by
 dsimp only;split
 ·exact .unsupported _
 ·exact .ret _).calm
def abn(elem:SL)(f:ah.cl a.block)(cb:ah.cl b.block)(g:AR φ a a')(h:AR φ b b'):
  SR P K aZ φ (do if(<-sizeOf elem)≠0 then aja a b else if a==b then pure AT else pure ((<-choose .zeroSizeEq)=1):Sem Bool)
   (do if(<-sizeOf elem)≠0 then aja a' b' else if a'==b' then pure AT else pure ((<-choose .zeroSizeEq)=1):Sem Bool):=by
 refine SR.bind (fF elem) λi n _ d e=>?_;subst e;split
 ·exact MR f cb (g.mono d) (h.mono d)
 ·show SR P K aZ i (aki (ajw (a==b)) λc=>if c=AT then pure AT else choose .zeroSizeEq>>=λn=>pure (decide (n=1))) (aki (ajw (a'==b')) λc=>if c=AT then pure AT else choose .zeroSizeEq>>=λn=>pure (decide (n=1)));refine SR.bind (SR.test λw w' hw=>(g.mono d).beq (h.mono d) hw f cb) λj c _ _ e=>?_;subst e;split
  ·exact .pure rfl
  ·exact SR.bind zH λk n _ _ e=>by subst e;exact .pure rfl
def zY{α d:Type}{c:Ren}{f f':α->d->Sem (ForInStep d)}(h:∀(φ:Ren),Ren.le c φ->∀a s,SR P K aZ φ (f a s) (f' a s)):∀(l:List α)(φ:Ren),Ren.le c φ->∀(s:d),SR P K aZ φ (forIn l s f) (forIn l s f')
 |[],_,_,_=>by simp only[List.forIn_nil];exact .pure rfl
 |a::l,φ,i,s=>by simp only[List.forIn_cons];refine SR.bind (h φ i a s) λj x _ g e=>?_;subst e;cases x with|done b=>exact .pure rfl|yield b=>exact zY h l j (Ren.le_trans i g) b
def zI{α d:Type}{c:Ren}{f f':α->d->Sem (ForInStep d)}{L:List α}(i:∀(φ:Ren),Ren.le c φ->∀a,a∈L->∀s,SR P K aZ φ (f a s) (f' a s)):∀(l:List α),(∀a,a∈l->a∈L)->∀(φ:Ren),Ren.le c φ->∀(s:d),SR P K aZ φ (forIn l s f) (forIn l s f')
 |[],_,_,_,_=>by simp only[List.forIn_nil];exact .pure rfl
 |a::l,hm,φ,j,s=>by simp only[List.forIn_cons];refine SR.bind (i φ j a (hm a au) s) λk x _ g e=>?_;subst e;cases x with|done b=>exact .pure rfl|yield b=>exact zI i l (λa h=>hm a (by simp[h])) k (Ren.le_trans j g) b
def flat(P:OF):Nat->SL->Bool
 |0,_=>Ba
 |n+1,t=>match P.underlying t with
  |some (.pointer _)|some .unsafePointer|some (.interface _)|some (.func ..)=>Ba
  |some (.struct fs)=>fs.all λf=>flat P n f.type
  |some (.array _ e)=>flat P n e
  |_=>AT
def zJ(hG:K.G=P.globals.size):∀(d n:Nat)(φ:Ren)(t:SL){x x' y y':AS},flat P n t=AT->VR φ x x'->VR φ y y'->SR P K aZ φ (aim d t x y) (aim d t x' y')
 |0,_,_,_,_,_,_,_,_,_,_=>.halt _ _
 |_,0,_,_,_,_,_,_,j,_,_=>by cases j
 |d+1,n+1,φ,t,x,x',y,y',j,m,l=>by
  unfold aim;refine SR.bind (na t) λF X _ V e=>?_;obtain⟨rfl,hu⟩:=e;unfold flat at j;rw[hu] at j;replace m:=m.mono V;replace l:=l.mono V;cases X with
  |bool=>cases m<;>(cases l<;>first|exact .pure rfl|exact .halt _ _)
  |int k=>
   cases m with
   |int k1 Z=>
    cases l with
    |int k2 W=>
     dsimp only;split
     ·exact .pure rfl
     ·exact .halt _ _
    |nilPtr=>exact .halt _ _
    |ptr h=>rcases Z with(_|n)|n<;>first|exact .pure rfl|exact .halt _ _
    |_=>exact .halt _ _
   |nilPtr=>cases l<;>exact .halt _ _
   |ptr h=>
    cases l with
    |ptr H=>exact Ou hG t h H
    |nilPtr=>exact .halt _ _
    |int k2 W=>rcases W with(_|n)|n<;>first|exact .pure rfl|exact .halt _ _
    |_=>exact .halt _ _
   |_=>cases l<;>exact .halt _ _
  |string=>cases m<;>(cases l<;>first|exact .pure rfl|exact .halt _ _)
  |pointer elem=>cases j
  |unsafePointer=>cases j
  |interface ms=>cases j
  |slice e=>
   cases m with
   |dU n c=>cases l<;>first|exact .pure rfl|exact .halt _ _
   |slice n c h=>cases l<;>first|exact .pure rfl|exact .halt _ _
   |empty=>cases l<;>first|exact .pure rfl|exact .halt _ _
   |_=>cases l<;>exact .halt _ _
  |func a b c=>cases j
  |struct g=>
   cases m with
   |@agg xs q v z=>
    cases l with
    |@agg M A B C=>
     have h1:aB F xs q:=⟨v,z⟩;have H:aB F M A:=⟨B,C⟩
     have N:∀f∈g.toList,flat P n f.type=AT:=λf h=>by have j:g.all (λf=>flat P n f.type)=AT:=j;rw[Array.all_eq_true_iff_forall_mem] at j;exact j f (jw.1 h)
     refine SR.ask ?_ (by simp only[Da]);split
     ·exact .dead (fu eX)
     ·rw[<-ajt,<-ajt];refine SR.bind (zI (λQ hle f I s=>?_) g.toList (λf h=>h) F (Ren.le_refl _) _) λQ r _ _ e=>?_
      ·split
       ·refine SR.bind (lF f.type (h1.mono hle) f.offset) λp a a' D S=>?_;refine SR.bind (lF f.type ((H.mono hle).mono D) f.offset) λp b b' E T=>?_;refine SR.bind (zJ hG d n p f.type (N f I) (S.mono E) T) λp c _ _ e=>?_;subst e;cases c<;>exact .pure rfl
       ·exact .pure rfl
      ·subst e;obtain⟨o,u⟩:=r;cases o<;>exact SR.pure (R:=aZ) rfl
    |_=>exact .halt _ _
   |_=>cases l<;>exact .halt _ _
  |array len elem=>
   have j:flat P n elem=AT:=j;obtain⟨L,hnF,j⟩:∃L,L=n/\flat P L elem=AT:=⟨n,rfl,j⟩;cases m with
   |@agg xs q v z=>
    cases l with
    |@agg M A B C=>
     have h1:aB F xs q:=⟨v,z⟩;have H:aB F M A:=⟨B,C⟩;refine SR.bind (fF elem) λQ n _ J e=>?_;subst e;rw[aiA,aiA];refine SR.bind (zY (λp hle i s=>?_) _ Q (Ren.le_refl _) _) λp r _ _ e=>?_
     ·refine SR.bind (lF elem ((h1.mono J).mono hle) _) λp a a' D S=>?_;refine SR.bind (lF elem (((H.mono J).mono hle).mono D) _) λp b b' E T=>?_;refine SR.bind (zJ hG d L p elem j (S.mono E) T) λp c _ _ e=>?_;subst e;cases c<;>exact .pure rfl
     ·subst e;obtain⟨o,u⟩:=r;cases o<;>exact SR.pure (R:=aZ) rfl
    |_=>exact .halt _ _
   |_=>cases l<;>exact .halt _ _
  |_=>cases m<;>(cases l<;>first|exact .halt _ _|exact .pure rfl)
def nT(P:OF):Prop:=(∀t,ah.np t->∃n,flat P n t=AT)/\∀t,ah.hd t->∀e,P.underlying t≠an (.pointer e)
def l8(P:OF)(t:SL)(x y:AS):Prop:=(∃n,flat P n t=AT)\/(∃c,P.underlying t=an (.interface c))\/((∃e,P.underlying t=an (.pointer e))/\(x=.pointer ns\/y=.pointer ns))
def l8.oK{t:SL}{x y:AS}(h:l8 P t x y){a:Array SL}{b c}:P.underlying t≠an (.func a b c):=by
 intro e;rcases h with⟨n,d⟩|⟨g,f⟩|⟨⟨i,he⟩,_⟩
 ·cases n with|zero=>cases d|succ n=>unfold flat at d;rw[e] at d;cases d
 ·simp_all
 ·simp_all
theorem zK(t:SL){xs f:Array AS}(h:aB φ xs f)(k:∀(i:Nat) x,xs[i]?=an x->Tk x)(off:Nat):SR P K (λg a b=>VR g a b/\Tk a) φ (part t xs off) (part t f off):=by
 refine SR.bind (Fe t) λg b _ j e=>?_;subst e;cases b with
 |true=>
  refine SR.bind (fF t) λp n _ c e=>?_;subst e;have:=((h.mono j).mono c).extract off (off+n);refine .pure ⟨.agg this.size this.at_,.agg λi x d=>?_⟩;rw[Array.getElem?_extract] at d;split at d
  ·grind
  ·cases d
 |false=>
  cases hi:xs[off]? with
  |none=>exact .halt _ _
  |some x=>obtain⟨y,l,m⟩:=h.get hi;rw[l];exact .pure ⟨m.mono j,k _ _ hi⟩
def FB(hG:K.G=P.globals.size):∀(d:Nat)(φ:Ren)(t:SL){x x' y y':AS},Tk x->Tk y->VR φ x x'->VR φ y y'->SR P K aZ φ (aim d t x y) (aim d t x' y')
 |0,_,_,_,_,_,_,_,_,_,_=>.halt _ _
 |d+1,φ,t,x,x',y,y',W,N,p,g=>by
  unfold aim;refine SR.bind (eB t) λC B _ Q e=>?_;subst e;replace p:=p.mono Q;replace g:=g.mono Q;cases W with
  |ptr q=>
   cases p with|ptr p=>
   cases N with
   |ptr j=>
    cases g with|ptr g=>
    cases B with|int k=>exact Ou hG t p g|pointer elem=>exact abn elem q j p g|unsafePointer=>exact MR q j p g|_=>exact .halt _ _
   |agg D=>cases g with|agg _ _=>cases B<;>exact .halt _ _
  |@agg xs S=>
   cases p with
   |@agg _ E F H=>
    cases N with
    |ptr j=>cases g with|ptr g=>cases B<;>exact .halt _ _
    |@agg X D=>
     cases g with
     |@agg _ I J L=>
      have h1:aB C xs E:=⟨F,H⟩;have T:aB C X I:=⟨J,L⟩;cases B with
      |struct l=>
       refine SR.ask ?_ (by simp only[Da]);split
       ·exact .dead (fu eX)
       ·rw[<-ajt,<-ajt];refine SR.bind (zI (λM hle f V s=>?_) l.toList (λf h=>h) C (Ren.le_refl _) _) λM r _ _ e=>?_
        ·split
         ·refine SR.bind (zK f.type (h1.mono hle) S f.offset) λm a a' v q=>?_;refine SR.bind (zK f.type ((T.mono hle).mono v) D f.offset) λm b b' z j=>?_;refine SR.bind (FB hG d m f.type q.2 j.2 (q.1.mono z) j.1) λm c _ _ e=>?_;subst e;cases c<;>exact .pure rfl
         ·exact .pure rfl
        ·subst e;obtain⟨o,u⟩:=r;cases o<;>exact SR.pure (R:=aZ) rfl
      |array len elem=>
       refine SR.bind (fF elem) λM n _ A e=>?_;subst e;rw[aiA,aiA];refine SR.bind (zY (λm hle i s=>?_) _ M (Ren.le_refl _) _) λm r _ _ e=>?_
       ·refine SR.bind (zK elem ((h1.mono A).mono hle) S _) λm a a' v q=>?_;refine SR.bind (zK elem (((T.mono A).mono hle).mono v) D _) λm b b' z j=>?_;refine SR.bind (FB hG d m elem q.2 j.2 (q.1.mono z) j.1) λm c _ _ e=>?_;subst e;cases c<;>exact .pure rfl
       ·subst e;obtain⟨o,u⟩:=r;cases o<;>exact SR.pure (R:=aZ) rfl
      |_=>exact .halt _ _
def YR(hG:K.G=P.globals.size)(C:nT P):∀(d:Nat)(φ:Ren)(t:SL){x x' y y':AS},l8 P t x y->VR φ x x'->VR φ y y'->SR P K aZ φ (aim d t x y) (aim d t x' y')
 |0,_,_,_,_,_,_,_,_,_=>.halt _ _
 |d+1,φ,t,x,x',y,y',hc,j,g=>by
  rcases hc with⟨n,D⟩|⟨M,s⟩|⟨⟨e,he⟩,u⟩
  ·exact zJ hG _ n φ t D j g
  ·unfold aim;refine SR.bind (na t) λE F _ l e=>?_;obtain⟨rfl,hu⟩:=e;rw[s] at hu;cases hu;replace j:=j.mono l;replace g:=g.mono l;cases j with
   |nilIface=>cases g<;>first|exact .pure rfl|exact .halt _ _
   |@iface k H v B hp=>
    cases g with
    |nilIface=>exact .pure rfl
    |@iface ty I z m f=>
     dsimp only;split
     ·exact .pure rfl
     ·rename_i q;simp only[ne_eq,Decidable.not_not] at q;subst q;refine SR.bind (mC k) λA N _ i e=>?_;subst e;split
      ·refine .dead (fE λp=>?_);refine fE λQ=>?_;split
       ·exact fu eX
       ·exact fE (λ_=>eG _) Xq
      ·have c:ah.np k->SR P K aZ A (aim d k H I) (aim d k v z):=λh=>by obtain⟨n,J⟩:=C.1 k h;exact zJ hG d n A k J (B.mono i) (m.mono i)
       rcases hp.or with hp|hp
       ·exact c hp
       ·rcases f.or with f|f
        ·exact c f
        ·exact FB hG d A k hp f (B.mono i) (m.mono i)
    |_=>exact .halt _ _
   |_=>cases g<;>exact .halt _ _
  ·unfold aim;refine SR.bind (na t) λE F _ l L=>?_;obtain⟨rfl,hu⟩:=L;rw[he] at hu;cases hu;replace j:=j.mono l;replace g:=g.mono l;rcases u with rfl|rfl
   ·cases j with|nilPtr=>cases g<;>first|exact .pure rfl|exact .halt _ _
   ·cases g with|nilPtr=>cases j<;>first|exact .pure rfl|exact .halt _ _
end
end
section
variable[ah]
section
variable{P:OF}{K:aI}{φ:Ren}
def Rv{u v:AS}(e:VR φ x u)(f:VR φ y v):aB φ #[x,y] #[u,v]:=by
 refine⟨rfl,λi a b c d=>?_⟩
 match i with
 |0=>simp at c d;subst c;subst d;exact e
 |1=>simp at c d;subst c;subst d;exact f
 |i+2=>simp at c
def LK(P:OF):∀(d:Nat)(t:SL)(b:Nat),cellOfByte P.two d t b=cellOfByte P d t b
 |0,_,_=>rfl
 |d+1,t,b=>by unfold cellOfByte;have c:cellOfByte P.two d=cellOfByte P d:=funext λt=>funext λo=>LK P d t o;rw[c];rfl
def Wn(P:OF)(d:Nat)(e:SL)(k o:Nat)(n:Int):cellAtBytes P.two d e k o n=cellAtBytes P d e k o n:=by unfold cellAtBytes;have h1:=funext λt=>funext λo=>Dx P d t o;have c:=funext λt=>funext λo=>LK P d t o;rw[h1,c];rfl
def PpR(φ:Ren)(z c:AS):Prop:=∃a a',z=.pointer (an a)/\c=.pointer (an a')/\AR φ a a'
def Mg(t:SL)(k:VR φ x x')(j:VR φ y y'):SR P K PpR φ (aiN #[] t #[x,y]) (aiN #[] t #[x',y']):=by
 cases k with
 |nilPtr=>
  refine SR.bind (vE j) λl n _ c e=>?_;refine .dead ?_;dsimp only;by_cases d:n=0
  ·rw[if_pos d];exact fu eX
  ·rw[if_neg d];split
   ·exact fu eX
   ·exact eX
 |@ptr a a' g=>
  refine SR.bind (vE j) λl n _ c e=>?_;subst e;dsimp only;by_cases d:n=0
  ·rw[if_pos d,if_pos d];refine SR.bind (Oq (g.mono c).block) λm v p i h=>?_;obtain⟨rfl,rfl⟩:=h;exact .pure ⟨_,_,rfl,rfl,(g.mono c).mono i⟩
  ·rw[if_neg d,if_neg d];split
   ·exact .dead (fu eX)
   ·refine SR.shape (g.mono c).block (λs=>?_) λs=>.halt _ _;cases s with
    |none=>exact .halt _ _
    |some x=>obtain⟨e,f⟩:=x;refine SR.ask ?_ (by simp only[Wn];rfl);rw[(g.mono c).off];cases cellAtBytes P P.depth e (f/P.cellsOf e) a.off n with|none=>exact .halt _ _|some off=>exact .pure ⟨_,_,rfl,rfl,(g.mono c).block,rfl,(g.mono c).spot⟩
 |_=>exact .halt _ _
def DT(t:SL){v v' u c:AS}(h:VR φ v v')(d:VR φ u c):SR P K VR φ (aiN #[] t #[v,u]) (aiN #[] t #[v',c]):=
 (Mg t h d).mono λe a b h=>by obtain⟨_,_,rfl,rfl,h⟩:=h;exact .ptr h
def XY(c:AR φ a a')(l:Bool):SR P K VR φ (asNumber a l) (asNumber a' l):=
 SR.new (.number l c) trivial λe r f _ d=>.pure (.ptr ⟨d,rfl,rfl⟩)
def Ov{α:Type}{f:TypeDesc->Sem α}(h:∀d,P.underlying t=an d->fB P (f d)):fB P (aiy t>>=f):=by intro w;have e:(aiy t>>=f).run P w=((match P.underlying t with|some d=>pure d|none=>stuck "no such type" :Sem TypeDesc).bind f).run P w:=rfl;rw[e];cases hq:P.underlying t with|none=>exact⟨_,_,rfl,trivial,.refl w⟩|some d=>exact h d hq w
def Bs(P:OF)(t:SL):Prop:=∀a b c,P.underlying t≠an (.func a b c)
def abo{t:SL}(e:Bs P t):∀(d:Nat)(x:AS),fB P (aim d t x aX)
 |0,_=>eX
 |d+1,x=>by unfold aim;refine Ov λf c=>?_;split<;>first|exact iq|exact eX|contradiction|exact absurd c (e _ _ _)
def abp{t:SL}(e:Bs P t):∀(d:Nat)(y:AS),fB P (aim d t aX y)
 |0,_=>eX
 |d+1,y=>by unfold aim;refine Ov λf c=>?_;split<;>first|exact iq|exact eX|contradiction|exact absurd c (e _ _ _)
def sA(c:op=.eql\/op=.neq->Bs P t):fB P (binOp op t x aX):=by unfold binOp;split<;>first|exact iq|exact eX|contradiction|exact fu (abo (c au) _ _)
def Ow(c:op=.eql\/op=.neq->Bs P t):fB P (binOp op t aX y):=by unfold binOp;split<;>first|exact iq|exact eX|contradiction|exact fu (abp (c au) _ _)
def sB(t:SL)(x y:AS):Sem AS:=do
 let .pointer (an n):=x|aiN #[] t #[x,y]
 let(a,c)<-aiF n
 match<-aiN #[] t #[.pointer (an a),y] with
 |.pointer (an b)=>asNumber b c
 |v=>pure v
def Xt(t:SL)(d:VR φ x x')(e:VR φ y y'):SR P K VR φ (sB t x y) (sB t x' y'):=by
 have other:SR P K VR φ (aiN #[] t #[x,y]) (aiN #[] t #[x',y']):=DT t d e;cases d with
 |@ptr a a' g=>refine SR.bind (ot g) λn u f c h=>?_;obtain⟨u,i⟩:=u;obtain⟨f,j⟩:=f;obtain⟨h1,k⟩:=h;subst k;refine SR.bind (Mg t (.ptr h1) (e.mono c)) λp z q _ l=>?_;obtain⟨_,_,rfl,rfl,m⟩:=l;exact XY m i
 |aX _ _=>exact .dead iq
 |_=>exact other
def uV(t:SL)(f:VR φ x x')(g:VR φ y y'):SR P K VR φ (movedNumber t x y) (movedNumber t x' y'):=by
 show SR P K VR φ (aiy t>>=λd=>if(d matches .unsafePointer) then(unsupported (.unsafePointer "arithmetic at a pointer's type")>>=λ(_:Unit)=>sB t x y) else sB t x y)
  (aiy t>>=λd=>if(d matches .unsafePointer) then(unsupported (.unsafePointer "arithmetic at a pointer's type")>>=λ(_:Unit)=>sB t x' y') else sB t x' y')
 refine SR.bind (eB t) λh d _ c e=>?_;subst e;split
 ·exact .dead (fu eX)
 ·exact Xt t (f.mono c) (g.mono c)
def Wo(t:SL)(d:VR φ x x')(e:VR φ y y'):SR P K VR φ (movedPointer t x y) (movedPointer t x' y'):=by
 have other:=DT (P:=P) (K:=K) t d e;cases d with
 |@ptr a a' f=>
  refine SR.bind (MT f.block) λg u i c h=>?_;rcases h with⟨rfl,rfl⟩|⟨x,y,l,rfl,rfl,h⟩
  ·exact DT t (.ptr (f.mono c)) (e.mono c)
  ·exact .dead (fu eX)
 |aX _ _=>exact .dead iq
 |_=>exact other
def My(hG:K.G=P.globals.size)(d:AR φ a a')(g:AR φ b b'):SR P K aZ φ (Op.twoPlaces a b) (Op.twoPlaces a' b'):=by
 refine SR.ask ?_
 have rest:∀f,Ren.le φ f->SR P K aZ f (ajK a>>=λx=>ajK b>>=λy=>pure (x,y)) (ajK a'>>=λx=>ajK b'>>=λy=>pure (x,y)):=λf h=>
  SR.bind (pU (d.mono h)) λk x _ i e=>by subst e;exact SR.bind (pU ((g.mono h).mono i)) λl y _ _ e=>by subst e;exact .pure rfl
 show SR P K aZ φ (aki (ajw (a.block !=b.block||decide (a.block>=P.globals.size))) λc=>if c=AT then(unsupported .addressObserved>>=λ_=>ajK a>>=λx=>ajK b>>=λy=>pure (x,y)) else ajK a>>=λx=>ajK b>>=λy=>pure (x,y))
  (aki (ajw (a'.block !=b'.block||decide (a'.block>=P.globals.size))) λc=>if c=AT then(unsupported .addressObserved>>=λ_=>ajK a'>>=λx=>ajK b'>>=λy=>pure (x,y)) else ajK a'>>=λx=>ajK b'>>=λy=>pure (x,y))
 refine SR.bind (SR.test λw w' hw=>?_) λf c _ h e=>?_
 ·have m:=hw.heap.low _ _ d.block;rw[ajM,ajO,ajO,decide_eq_true_eq,decide_eq_true_eq,bne_iff_ne,bne_iff_ne];constructor
  ·rintro(e|e)
   ·refine .inl λj=>e ?_;have:=d.block;rw[j,g.block] at this;exact(aH this).symm
   ·omega
  ·rintro(e|e)
   ·by_cases j:a'.block=b'.block
    ·refine .inr ?_;have h1:=((hw.heap.inj _ _ _ d.block (by rw[j];exact g.block)).resolve_left e).2.2.2;omega
    ·omega
   ·omega
 ·subst e;split
  ·exact .dead (fu eX)
  ·simp_all
def YS(hG:K.G=P.globals.size){k:IntKind}(c:AR φ a a')(d:AR φ b b'):SR P K VR φ (Op.addrSub k a b) (Op.addrSub k a' b'):=
 SR.bind (My hG c d) λf x _ _ e=>by subst e;exact .pure (.int _ _)
def YT(hG:K.G=P.globals.size)(c:AR φ a a')(d:AR φ b b'):SR P K VR φ (Op.addrCmp op a b) (Op.addrCmp op a' b'):=
 SR.bind (My hG c d) λf x _ _ e=>by subst e;cases op<;>first|exact .pure (.bool _)|exact .halt _ _
def Ee(k:IntKind)(c:AR φ a a')(n:Int):SR P K VR φ (Op.addrMod k a n) (Op.addrMod k a' n):=by
 refine abj c.block (λs=>?_) λs=>.halt _ _;cases s with
 |none=>exact .halt _ _
 |some x=>
  obtain⟨e,f⟩:=x;refine SR.bind (mC e) λg h _ d e=>?_;subst e;dsimp only;split
  ·exact .dead (fu eX)
  ·exact SR.bind (pU (c.mono d)) λi b _ _ e=>by subst e;exact .pure (.int _ _)
def PC(hG:K.G=P.globals.size)(c:nT P)(hc:l8 P t x y)(d:VR φ x x')(e:VR φ y y'):SR P K aZ φ (Op.equal t x y) (Op.equal t x' y'):=YR hG c _ φ t hc d e
def abq(hG:K.G=P.globals.size)(hc:op=.eql\/op=.neq->nT P/\l8 P t x y)(B:VR φ x x')(m:VR φ y y'):SR P K VR φ (binOp op t x y) (binOp op t x' y'):=by
 have eqv:op=.eql\/op=.neq->SR P K VR φ (Op.equal t x y>>=λb=>pure (.bool b)) (Op.equal t x' y'>>=λb=>pure (.bool b)):=λh=>SR.bind (PC hG (hc h).1 (hc h).2 B m) λi b _ _ e=>by subst e;exact .pure (.bool _)
 have g:op=.eql\/op=.neq->SR P K VR φ (Op.equal t x y>>=λb=>pure (.bool (!b))) (Op.equal t x' y'>>=λb=>pure (.bool (!b))):=λh=>SR.bind (PC hG (hc h).1 (hc h).2 B m) λi b _ _ e=>by subst e;exact .pure (.bool _)
 have p:SR P K VR φ (aiy t>>=λd=>if(d matches .unsafePointer) then movedPointer t x y else movedNumber t x y) (aiy t>>=λd=>if(d matches .unsafePointer) then movedPointer t x' y' else movedNumber t x' y'):=
  SR.bind (eB t) λi d _ j e=>by
   subst e;split
   ·exact Wo t (B.mono j) (m.mono j)
   ·exact uV t (B.mono j) (m.mono j)
 have H:∀{a a':aic}{β:Type}{R:Ren->β->β->Prop}{f L:aic->Sem β},AR φ a a'->(∀i c C,Ren.le φ i->AR i c C->SR P K R i (f c) (L C))->SR P K R φ (aiF a>>=λz=>f z.1) (aiF a'>>=λz=>L z.1):=λq M=>SR.bind (ot q) λi z T j h=>M i _ _ j h.1
 cases B with
 |@int k n=>
  cases m with
  |@int F l=>
   have D:SR P K VR φ (if k≠F then stuck "BinOp: operands of different kinds" else
     match op with
     |.add|.sub|.mul=>Op.intArith op k n l
     |.quo|.rem=>Op.intDiv op k n l
     |.and|.or|.xor|.andNot=>Op.intBits op k n l
     |_=>Op.intCmp op n l) (if k≠F then stuck "BinOp: operands of different kinds" else
     match op with
     |.add|.sub|.mul=>Op.intArith op k n l
     |.quo|.rem=>Op.intDiv op k n l
     |.and|.or|.xor|.andNot=>Op.intBits op k n l
     |_=>Op.intCmp op n l):=by
    split
    ·exact .halt _ _
    ·cases op<;>first|exact MQ _ _ _ _|exact ZT|exact Nz _ _ _|exact ZS
   cases op<;>first|exact Pw .shl k n F l|exact Pw .shr k n F l|exact D
  |nilPtr=>cases op<;>first|exact uV t .nilPtr (.int k n)|exact eqv (.inl rfl)|exact g (.inr rfl)|exact .halt _ _
  |@ptr b b' E=>cases op<;>first|exact uV t (.ptr E) (.int k n)|exact H E (λi c C _ hc=>Ee k hc (n+1))|exact eqv (.inl rfl)|exact g (.inr rfl)|exact .halt _ _
  |aX _ _=>exact .dead (sA λh _ _ _=>(hc h).2.oK)
  |_=>cases op<;>first|exact eqv (.inl rfl)|exact g (.inr rfl)|exact .halt _ _
 |@string s=>
  cases m with
  |@string s2=>have str:SR P K VR φ (Op.stringOp op s s2) (Op.stringOp op s s2):=MO op s s2;cases op<;>exact str
  |aX _ _=>exact .dead (sA λh _ _ _=>(hc h).2.oK)
  |_=>cases op<;>first|exact eqv (.inl rfl)|exact g (.inr rfl)|exact .halt _ _
 |@ptr a a' q=>
  cases m with
  |@int k n=>cases op<;>first|exact p|exact uV t (.ptr q) (.int k (-n))|exact H q (λi c C _ hc=>Ee k hc n)|exact H q (λi c C _ hc=>Ee k hc (n+1))|exact eqv (.inl rfl)|exact g (.inr rfl)|exact .halt _ _
  |@ptr b b' E=>
   have sub:SR P K VR φ (aiF a>>=λu=>aiF b>>=λv=>Op.addrSub .u64 u.1 v.1) (aiF a'>>=λu=>aiF b'>>=λv=>Op.addrSub .u64 u.1 v.1):=
    SR.bind (ot q) λi u N j h=>SR.bind (ot (E.mono j)) λQ v S A I=>YS hG (h.1.mono A) I.1
   have J:SR P K VR φ (aiF a>>=λu=>aiF b>>=λv=>Op.addrCmp op u.1 v.1) (aiF a'>>=λu=>aiF b'>>=λv=>Op.addrCmp op u.1 v.1):=
    SR.bind (ot q) λi u N j h=>SR.bind (ot (E.mono j)) λQ v S A I=>YT hG (h.1.mono A) I.1
   cases op<;>first|exact sub|exact J|exact eqv (.inl rfl)|exact g (.inr rfl)|exact .halt _ _
  |aX _ _=>exact .dead (sA λh _ _ _=>(hc h).2.oK)
  |_=>cases op<;>first|exact eqv (.inl rfl)|exact g (.inr rfl)|exact .halt _ _
 |nilPtr=>
  cases m with
  |@int k n=>cases op<;>first|exact p|exact uV t .nilPtr (.int k (-n))|exact eqv (.inl rfl)|exact g (.inr rfl)|exact .halt _ _
  |aX _ _=>exact .dead (sA λh _ _ _=>(hc h).2.oK)
  |_=>cases op<;>first|exact eqv (.inl rfl)|exact g (.inr rfl)|exact .halt _ _
 |aX _ _=>exact .dead (Ow λh _ _ _=>(hc h).2.oK)
 |_=>cases m<;>first|exact .dead (sA λh _ _ _=>(hc h).2.oK)|(cases op<;>first|exact eqv (.inl rfl)|exact g (.inr rfl)|exact .halt _ _)
end
end
end Go.Proofs.Q0.aM
