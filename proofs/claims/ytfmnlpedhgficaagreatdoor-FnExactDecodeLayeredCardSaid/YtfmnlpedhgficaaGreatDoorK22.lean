import Derived.Test.YtfmnlpedhgficaaGreatDoorK21
set_option maxRecDepth 100000
set_option maxHeartbeats 8000000
set_option linter.all false
open Go.Value renaming int->U,slice->Y,bool->a5,agg->a9,pointer->bi,tuple->ci,iface->em
open Go.IntKind renaming i64->O
open Go.Obj renaming cells->ac
open Go.Ending renaming returned->be
open Array renaming getElem?_eq_getElem->ajB,getElem?_push_lt->akb,replicate->ajD
open Bool renaming false->Bz,true->AT
open Go renaming Addr->ajF,Frame->ajs,FuncId->alo,Goroutine->BE,Program->NO,TypeId->TO,Value->so,World->AS,execOp->ajA,run_underlying->alP,underlying->ajV
open Go.Conc renaming stepG_region_end->Kx,stepG_skip->akE
open Go.Frame renaming enter->ajC
open Go.Instr renaming field->akI,loadAt->akB,typeAssert->akc
open Go.IntKind renaming i64->EV
open Go.Sem renaming run->akm,run_bind->ajy
open Go.World renaming cell?->ajQ
open List renaming lookup->akw
open Option renaming none->ns,some->an
namespace Go.Proofs.Q0.Open
section
open Go.Conc (G stepG_seq stepG_region stepG_region_end stepG_cond stepG_skip stepG_block stepG_loop stepG_exit stepG_inLoop stepG_inBlock)
open aL
class aC extends ag where
 two:Gz.prog.two=Tryz.prog
 nx:∀f,¬ag.cd f Tl
 fr:∀c c',ag.dM c c'<->c=jm/\c'=iG
 hm:ag.home=53
 CB:∀d,ag.lv 53 d<->((kept d=AT\/d=4)/\d<41)
variable[aC]
structure AtF(K:aH)(B:List ajs)(φ:Ren)(g:BE)(wg:AS)(a:BE)(w:AS) where
 b:ajs
 Z:Act
 Z':Act
 k:List Item
 k':List Item
 cs:List ajs
 cs':List ajs
 hg:g=G (b.at Z (.code jm::k)) (cs++[c0 Gz.prog])
 ha:a=G (b.at Z' (.code iG::k')) (cs'++B)
 fn:b.fn=53
 kind:b.kind=.normal
 tm:cT φ (ag.lv 53) Z.tmps Z'.tmps
 todo:gW Gz.prog φ 53 AT k k'
 defers:jB φ Z.defers Z'.defers
 callers:iM Gz.prog φ cs cs'
 jX:pv 53
 heap:HR K φ wg.heap w.heap
 vars:gE φ
 bot:lO (b.at Z (.code jm::k)) cs
def G7{P:NO}{f:alo}:¬eF P f ox:=λh=>aC.nx f h.2.2.2.2.1
def acU{f:alo}{a:Code}{s:Bool}(h:iz Gz.prog f s jm a):a=iG/\f=53/\s=AT:=by
 cases h with
 |same h=>exact(G7 h.2.1.2.2).elim
 |seq _ b=>
  cases b with
  |same h=>exact(G7 h.1.2.2).elim
  |seq c _=>cases c with|same h=>exact(G7 h.2.2).elim|dM h=>have:=((aC.fr _ _).1 h).1;unfold jm at this;cases this
  |dM h=>have:=((aC.fr _ _).1 h).1;unfold jm at this;cases this
 |dM h d e=>exact⟨((aC.fr _ _).1 h).2,d.trans aC.hm,e⟩
def Qy{fr:ajs}(hm:fr.mode=.run)(hr:fr.roundOf=ns):fr=fr.at ⟨fr.tmps,fr.defers⟩ fr.todo:=by obtain⟨⟩:=fr;subst hm;subst hr;rfl
theorem aeB{K:aH}{B:List ajs}{φ:Ren}{g a:BE}{wg w:AS}(t:dK Gz.prog K B φ g wg a w)(u:tu g):Nonempty (AtF K B φ g wg a w):=by
 obtain⟨fr,b,v,i,rfl,rfl,d,j,x,z,C⟩:=t;obtain⟨hm,c,D,k,e,l⟩:=u;have hm:fr.mode=.run:=hm;have e:fr.todo=.code c::k:=e;obtain⟨hc,rfl⟩:=(aC.fr _ _).1 l
 have n:b.mode=.run:=by have:=d.mode;rw[hm] at this;generalize b.mode=m at this;cases this;rfl
 have h1:=d.todo;rw[e] at h1;generalize E:b.todo=f at h1;generalize F:fr.roundOf.isNone=s at h1;cases h1 with
 |stop=>unfold jm at hc;cases hc
 |@cons _ y _ f o A=>
  cases o with
  |@code _ G o=>
   subst hc;obtain⟨rfl,h,rfl⟩:=acU o;have q:fr.roundOf=ns:=eY
   have p:b.roundOf=ns:=by have:=d.round;rw[q] at this;generalize b.roundOf=m at this;cases this;rfl
   have r:=Qy hm q;have H:=Qy n p;rw[e] at r
   have I:b.at ⟨b.tmps,b.defers⟩ (.code iG::f)=fr.at ⟨b.tmps,b.defers⟩ (.code iG::f):=by simp only[Frame.at];rw[d.fn,d.kind.1,d.kind.2]
   refine⟨⟨fr,⟨fr.tmps,fr.defers⟩,⟨b.tmps,b.defers⟩,k,f,v,i,?_,?_,h,d.kind.1,by rw[<-h];exact d.tmps,by rw[<-h];exact A,d.defers,j,by rw[<-h];exact d.jX,x,z,?_⟩⟩
   ·rw[<-r]
   ·grind
   ·grind
end
end Go.Proofs.Q0.Open
namespace Go.Proofs.Q0.aL
section
variable[ag]
section
variable{P:NO}{K:aH}{φ:Ren}{w:AS}{h':Array Obj}{a a':ajF}
def Qz(c:HR K φ w.heap h')(d:AR φ a a'){v:so}{b:AS}(hr:(load a).run P w=.ok v b):b=w/\w.cell? a=an v:=by
 replace hr:(Sem.load .plain a .pure).run P w=.ok v b:=hr;cases hc:w.cell? a<;>simp only[akm,hc,HR.farLoad (w':={w with heap:=h'}) c d] at hr<;>cases hr
 exact⟨rfl,rfl⟩
theorem Yt(g:HR K φ w.heap h')(h:AR φ a a'):∀(n i:Nat)(acc xs:Array so)(c:AS),(loadCellsFrom a i n acc).run P w=.ok xs c->c=w/\xs.size=acc.size+n/\(∀j,j<acc.size->xs[j]?=acc[j]?)/\∀j,j<n->w.cell? (a.add (i+j))=xs[acc.size+j]?:=by
 intro n
 induction n with
 |zero=>intro i acc xs c b;cases b;exact⟨rfl,rfl,λ_ _=>rfl,λj d=>absurd d (ib j)⟩
 |succ n k=>
  intro i acc xs c b;unfold loadCellsFrom at b;rw[ajy] at b;cases e:(load (a.add i)).run P w with
  |halt x l=>rw[e] at b;cases b
  |ok v l=>rw[e] at b;obtain⟨rfl,hc⟩:=Qz g (h.add i) e;obtain⟨h1,m,f,o⟩:=k (i+1) (acc.push v) xs c b;simp only[Array.size_push] at m f o;refine⟨h1,aa,λj d=>(f j aa).trans (by rw[akb d,<-ajB d]),λj d=>?_⟩;cases j with|zero=>simp_all|succ j=>grind
def MZ(c:HR K φ w.heap h')(d:AR φ a a'){n:Nat}{xs:Array so}{b:AS}(hr:(loadCells a n).run P w=.ok xs b):b=w/\xs.size=n/\∀j,j<n->w.cell? (a.add j)=xs[j]?:=by obtain⟨h1,e,_,f⟩:=Yt c d n 0 #[] xs b hr;exact⟨h1,by simpa using e,λj g=>by have:=f j g;simpa using this⟩
def abd{w:AS}{a:ajF}{v:so}(h:w.cell? a=an v):a.spot=ns:=by
 obtain⟨b,o,s⟩:=a;cases s with
 |none=>rfl
 |some x=>simp[ajQ] at h;split at h<;>cases h
end
end
end Go.Proofs.Q0.aL
namespace Go.Proofs.Q0.Open
open Go.Proofs.Tryz
variable{w1 wg w:AS}{v x x':so}{h':Array Obj}{t:TO}{P:NO}
section
open Go.Conc (G stepG_seq stepG_region stepG_region_end stepG_cond stepG_skip stepG_block stepG_loop stepG_exit stepG_inLoop stepG_inBlock)
open aL
variable[aC]
section
variable{K:aH}{φ:Ren}{Q:BE->Array Obj->Prop}{b:ajs}{Z Z':Act}{k:List Item}{cs:List ajs}{wg w:AS}
def abe(s:HR K φ wg.heap h'){v':so}(u:VR φ v v')(hr:(akB 44 v).run Gz.prog wg=.ok x w1):
  w1=wg/\∃f g x0 j l m n,v=.pointer (an f)/\v'=.pointer (an g)/\AR φ f g/\x=.agg #[x0,j,l,m,n]/\wg.cell? f=an x0/\wg.cell? (f.add 1)=an j/\wg.cell? (f.add 2)=an l/\wg.cell? (f.add 3)=an m/\wg.cell? (f.add 4)=an n:=by
 cases u with
 |@ptr f g q=>
  have e:(akB 44 (.pointer (an f))).run Gz.prog wg=((loadCells f 5).run Gz.prog wg).andThen λxs w=>.ok (.agg xs) w:=by simp[go_sem,akB,loadVar,Instr.sureAddr]
  rw[e] at hr;cases p:(loadCells f 5).run Gz.prog wg with
  |halt y z=>rw[p] at hr;cases hr
  |ok xs z=>
   rw[p] at hr;obtain⟨rfl,A,c⟩:=MZ s q p;cases hr;obtain⟨xs⟩:=xs
   match xs,A with
   |[x0,j,l,m,n],_=>refine⟨rfl,f,g,x0,j,l,m,n,rfl,rfl,q,rfl,?_,c 1 aa,c 2 aa,c 3 aa,c 4 aa⟩;have:=c 0 aa;simpa[Addr.add] using this
 |_=>exact absurd hr (λh=>by simp[akB,Instr.sureAddr,go_sem] at h)
def tM(op:BinOp)(t:TO)(x y:Operand)(a b:so):Sem so:=(eqGuard op t x y a b).bind λ_=>binOp op t a b
def Gf{p:Operand}(g:VR φ x x')(hr:(tM .quo 3 p (ey 8) x (U O 8)).run Gz.prog wg=.ok v w1):w1=wg/\∃W,x=U O W/\v=U O (EV.wrap (W.tdiv 8)):=by
 have e:(tM .quo 3 p (ey 8) x (U O 8)).run Gz.prog wg=(binOp .quo 3 x (U O 8)).run Gz.prog wg:=aD;rw[e] at hr;cases g with
 |int c n=>
  by_cases f:c=.i64
  ·subst f;cases hr;exact⟨rfl,n,rfl,rfl⟩
  ·have:(binOp .quo 3 (.int c n) (U O 8)).run Gz.prog wg=.halt (.stuck "BinOp: operands of different kinds") wg:=by unfold binOp;simp[f,go_sem,stuck]
   rw[this] at hr;cases hr
 |_=>exact absurd hr (λh=>by cases h)
def aeC(c:VR φ x x')(hr:(Op.unary .not x).run Gz.prog wg=.ok v w1):w1=wg/\∃I,x=.bool I:=by cases c with|bool t=>cases hr;exact⟨rfl,t,rfl⟩|_=>exact absurd hr (λh=>by cases h)
def RQ{e:TO}(f:Gz.prog.underlying t=an (.slice e))(g:VR φ x x'){ty:TO}(hr:(Builtin.len_ #[t] ty #[x]).run Gz.prog wg=.ok v w1):w1=wg/\∃p n c,x=.slice p n c/\v=U O n:=by have hu:∀w,(ajV t).run Gz.prog w=.ok (.slice e) w:=λw=>alP f w;unfold Builtin.len_ at hr;simp only[List.getElem?_toArray,List.getElem?_cons_zero] at hr;rw[ajy,hu] at hr;cases g with|dV n c=>cases hr;exact⟨rfl,ns,n,c,rfl,rfl⟩|slice n c h=>cases hr;exact⟨rfl,_,n,c,rfl,rfl⟩|empty=>cases hr;exact⟨rfl,_,0,0,rfl,rfl⟩|_=>exact absurd hr (λh=>by cases h)
def abf {w:AS} : ∀ (l : List so) (s e : ByteArray) (w1 : AS), (forIn l s (fun c r => do
      let .int .u8 n := c | stuck "bytesToString: byte expected"
      pure (ForInStep.yield (r.push (UInt8.ofNat n.toNat)))) : Sem ByteArray).run P w = .ok e w1 → w1 = w ∧ e.size = s.size + l.length ∧ ∀ c ∈ l, ∃ n, c = .int .u8 n := by
  intro l
  induction l with
  | nil => intro s e w1 h; simp only [List.forIn_nil] at h; cases h; exact ⟨rfl, rfl, by simp⟩
  | cons c l f =>
    intro s e w1 h;rw [List.forIn_cons, ajy] at h;cases c with
    | int g n =>
      cases g with
      | u8 =>
        obtain ⟨h1, j, m⟩ := f (s.push (UInt8.ofNat n.toNat)) e w1 h;refine ⟨h1, by rw [j, ByteArray.size_push, List.length_cons]; omega, fun c hc => ?_⟩;rcases jH.1 hc with rfl | hc
        ·simp
        ·simp_all
      | _ => cases h
    | _ => cases h
def acV(D:HR K φ wg.heap h'){p:Option ajF}{m c:Nat}(E:VR φ (.slice p m c) x')(hr:(convert 62 9 (.slice p m c)).run Gz.prog wg=.ok v w1):
  w1=wg/\∃s,v=.string s/\((p=ns/\s.size=0)\/∃e,p=an e/\s.size=m/\∀j,j<m->∃n,wg.cell? (e.add j)=an (.int .u8 n)):=by
 have h:∀w,(ajV 62).run Gz.prog w=.ok (.slice 5) w:=λw=>(Gz.Fj _ _).trans (runUnderlying62 w);have l:∀w,(ajV 9).run Gz.prog w=.ok .string w:=λw=>(Gz.Fj _ _).trans (runUnderlying9 w);have f:∀w,(ajV 5).run Gz.prog w=.ok (.int .u8) w:=λw=>(Gz.Fj _ _).trans (runUnderlying5 w);unfold convert at hr;rw[ajy,h] at hr;simp only[Result.andThen] at hr;rw[ajy,l] at hr;simp only[Result.andThen] at hr;cases E with
 |dV n c=>rw[ajy,f] at hr;cases hr;exact⟨rfl,.empty,rfl,.inl ⟨rfl,rfl⟩⟩
 |@empty e u=>rw[ajy,f] at hr;cases hr;exact⟨rfl,.empty,rfl,.inr ⟨e,rfl,rfl,λj z=>absurd z (ib _)⟩⟩
 |@slice e u _ _ G=>
  rw[ajy,f] at hr;simp only[Result.andThen] at hr;unfold Conv.bytesToString at hr;simp only at hr;rw[ajy] at hr;cases A:(loadCells e m).run Gz.prog wg with
  |halt y C=>rw[A] at hr;cases hr
  |ok xs C=>
   rw[A] at hr;obtain⟨rfl,H,g⟩:=MZ D G A;simp only[Result.andThen] at hr;rw[ajy,<-Array.forIn_toList] at hr;generalize hq:(akm Gz.prog (forIn xs.toList ByteArray.empty _) C)=q at hr;cases q with
   |halt y w3=>cases hr
   |ok s w3=>
    cases hr;obtain⟨h1,I,J⟩:=abf _ _ _ _ hq;refine⟨h1,s,rfl,.inr ⟨e,rfl,?_,λj z=>?_⟩⟩
    ·rw[I];simp[H]
    ·have B:j<xs.size:=by omega
     obtain⟨y,hm⟩:=J (xs[j]) aj;exact⟨y,by rw[g j z,ajB B,hm]⟩
end
end
section
open Go.Conc (G stepG_seq stepG_region stepG_region_end stepG_cond stepG_skip stepG_block stepG_loop stepG_exit stepG_inLoop stepG_inBlock stepG_value stepG_none)
open aL
variable[aC]
def abg(x0 c e f g:so)(w:AS):
  (akI 44 (.agg #[x0,c,e,f,g]) 0).run Gz.prog w=.ok x0 w/\(akI 44 (.agg #[x0,c,e,f,g]) 1).run Gz.prog w=.ok c w/\(akI 44 (.agg #[x0,c,e,f,g]) 2).run Gz.prog w=.ok e w/\
  (akI 44 (.agg #[x0,c,e,f,g]) 3).run Gz.prog w=.ok f w/\(akI 44 (.agg #[x0,c,e,f,g]) 4).run Gz.prog w=.ok g w:=by
 refine⟨?_,?_,?_,?_,?_⟩<;>kernel_rfl
def RU{φ:Ren}{y:so}(h:VR φ x y):aw φ #[x] #[y]:=⟨rfl,λi a b c e=>by
 cases i with
 |zero=>simp at c e;subst c;subst e;exact h
 |succ i=>simp at c⟩
def abh{K:aH}{φ:Ren}{Q:BE->Array Obj->Prop}{b:ajs}{a:Act}{k:List Item}{cs:List ajs}(hG:K.G=Gz.prog.globals.size)(f:b.kind≠.early)(g:HR K φ wg.heap w.heap)(c:bG Gz.prog Q (G (b.at a (.code ox::k)) cs) wg):False:=by obtain⟨_,c⟩:=c.to (pX λ_ e=>by cases e) stepG_seq;obtain⟨_,c⟩:=c.to (pX λ_ e=>by cases e) stepG_region;obtain⟨v,w1,j,_⟩:=c.inv f (o:=aP (an 5) 3 (.binOp .add 3 (.const (.bool AT)) (ey 0) 3)) (s:=tM .add 3 (.const (.bool AT)) (ey 0) (.bool AT) (U O 0)) rfl rfl rfl (GA hG _ _ _ _ (λh=>by simp at h) (.bool AT) (.int _ _)) g;cases j
def Ff{K:aH}{φ:Ren}(c:∀w,(isAgg t).run Gz.prog w=.ok Bz w)(f:HR K φ wg.heap h'){p p':ajF}(g:AR φ p p')(hr:(akB t (.pointer (an p))).run Gz.prog wg=.ok x w1):w1=wg/\wg.cell? p=an x:=by
 have e:(akB t (.pointer (an p))).run Gz.prog wg=(load p).run Gz.prog wg:=by show(isAgg t>>=λq=>if q=AT then _ else load p).run Gz.prog wg=_;rw[ajy,c];rfl
 rw[e] at hr;exact Qz f g hr
def SK(w:AS):(isAgg 153).run Gz.prog w=.ok Bz w:=aj
def GC:Gz.prog.underlying 240=an (.pointer 266):=aj
def acW{d:TypeDesc}{α:Type}{f:TypeDesc->Sem α}(h:P.underlying t=an d):(ajV t>>=f).run P w=(f d).run P w:=by have e:(ajV t>>=f).run P w=((match P.underlying t with|some d=>pure d|none=>stuck "no such type" :Sem TypeDesc).bind f).run P w:=rfl;rw[e,h];rfl
def Zb{φ:Ren}(g:VR φ x x')(hr:(akc x 153 240 Bz).run Gz.prog w=.ok v w1):w1=w/\x=.iface 240 v:=by
 have e:(akc x 153 240 Bz).run Gz.prog w=(match TypeDesc.pointer 266,x with
   |.interface _,.nilIface=>(runtimePanic (.typeAssertion ns ns 240 ""):Sem so)
   |.interface c,.iface t _=>typeInfo t>>=λj=>match Instr.missingMethod c j.methods with
    |none=>pure x
    |some m=>runtimePanic (.typeAssertion ns (an t) 240 m)
   |_,.nilIface=>runtimePanic (.typeAssertion (an 153) ns 240 "")
   |_,.iface t v=>if t=240 then pure v else runtimePanic (.typeAssertion (an 153) (an t) 240 "")
   |_,_=>stuck "TypeAssert: interface value expected").run Gz.prog w:=by
  exact acW GC
 rw[e] at hr
 have f:∀{u:RuntimeError},(runtimePanic u:Sem so).run Gz.prog w=.ok v w1->False:=λ{u} h=>by obtain⟨_,_,l,_⟩:=eE (P:=Gz.prog) (α:=so) u w;rw[l] at h;cases h
 cases g with
 |iface t h p=>
  by_cases n:t=240
  ·simp_all
  ·simp_all
 |nilIface=>exact(f hr).elim
 |_=>cases hr
structure EF(φ:Ren)(wg:AS)(g:Nat)(a:ajF):Prop where
 cell:wg.cell? ⟨g,0,ns⟩=an (.iface 240 (.pointer (an a)))
 cl:ag.cl a.block
 kR:∃c,φ a.block=an c
def TR{K:aH}{φ:Ren}{g:Nat}(e:oq Gz.prog)(f:VR φ x x')(hc:wg.cell? ⟨g,0,ns⟩=an x)(hr:(akc x 153 240 Bz).run Gz.prog w=.ok v w1):
  w1=w/\∃a,v=.pointer (an a)/\EF φ wg g a:=by
 obtain⟨j,rfl⟩:=Zb f hr;refine⟨j,?_⟩;cases f with
 |iface t h p=>
  rcases p with p|⟨a,rfl,p⟩|p
  ·obtain⟨n,c⟩:=e.1 _ p;cases n with|zero=>cases c|succ n=>unfold flat at c;rw[GC] at c;cases c
  ·cases h with|ptr h=>exact⟨a,rfl,hc,p,_,h.block⟩
  ·exact absurd GC (e.2 _ p.1 _)
structure CF(K:aH)(φ:Ren)(wg w:AS)(ca AC:ajF)(W H Qq:Int)(I:Bool)(sa:Option ajF)(n c:Nat):Prop where
 ar:AR φ ca AC
 cW:wg.cell? ca=an (U O W)
 cH:wg.cell? (ca.add 1)=an (U O H)
 cI:wg.cell? (ca.add 2)=an (.bool I)
 cQ:wg.cell? (ca.add 3)=an (U O Qq)
 cS:wg.cell? (ca.add 4)=an (.slice sa n c)
 rW:w.cell? AC=an (U O W)
 rH:w.cell? (AC.add 1)=an (U O H)
 rI:w.cell? (AC.add 2)=an (.bool I)
 rQ:w.cell? (AC.add 3)=an (U O Qq)
 rS:∃y,w.cell? (AC.add 4)=an y/\VR φ (.slice sa n c) y
def gl(W H e:Int)(I:Bool)(sa:Option ajF)(n c i:Nat):List (Nat×so):=[(13,.agg #[U O W,U O H,.bool I,U O e,.slice sa n c]),(15,.slice sa n c),(16,U O n),(21,U O (EV.wrap (W.tdiv 8))),(24,.bool I),(22,U O i)]
section
variable{K:aH}{φ:Ren}{Q:BE->Array Obj->Prop}{b:ajs}{Z Z' a:Act}{k it VW:List Item}{cs:List ajs}{wg w:AS}{x0:BE×AS}{F:List (Nat×so)}{ops:Array Oper}{i d:Nat}{r:List Nat}{t:TO}{o:Op}{w1:AS}
structure At(Q:BE->Array Obj->Prop)(b:ajs)(cs:List ajs)(x0:BE×AS)(Z:Act)(F:List (Nat×so))(it:List Item)(a:Act)(wg:AS):Prop where
 z:Sz Z a
 d:a.defers=Z.defers
 k:∀e,kept e=AT->a.tmps[e]?=Z.tmps[e]?
 f:∀e v,F.lookup e=an v->a.tmps[e]?=an v
 w:bG Gz.prog Q (G (b.at a it) cs) wg
 n:fP Gz.prog (G (b.at a it) cs,wg) x0
def At.to{x:Item}{es:Array Event}(h:At Q b cs x0 Z F (x::it) a wg)(f:stepG Gz.prog AT (G (b.at a (x::it)) cs) wg=.go (G (b.at a VW) cs) w1 es)(g:∀c,x≠.code (.refuse c):=by intro _ e;cases e):At Q b cs x0 Z F VW a w1:=
 have⟨n,w⟩:=h.w.to (pX g) f
 {h with w:=w,n:=h.n.next n}
def At.rg(l:List Nat){n:Nat}(h:At Q b cs x0 Z F (.code (.region n ops Bz)::it) a wg)(c:List.range ops.size=l:=by kernel_rfl):At Q b cs x0 Z F (.inRegion ops l::it) a wg:=c▸h.to stepG_region
def At.sub(h:At Q b cs x0 Z F it a wg)(c:List (Nat×so))(hF:∀p∈c,F.lookup p.1=an p.2:=by repeat(first|exact List.forall_mem_nil _|refine List.forall_mem_cons.2 ⟨rfl,?_⟩)):At Q b cs x0 Z c it a wg:=
 {h with f:=λe v g=>h.f e v (by
  induction c with
  |nil=>cases g
  |cons p c j=>
   rw[List.lookup_cons] at g;split at g
   ·simp_all
   ·exact j (λq hq=>hF q (.tail _ hq)) g)}
def At.tm(h:At Q b cs x0 Z F it a wg)(hi:(F.lookup i).isSome=AT):a.tmps[i]?=F.lookup i:=by obtain⟨v,c⟩:=pO.1 hi;rw[h.f _ _ c,c]
def At.ev(h:At Q b cs x0 Z F it a wg)(hi:(F.lookup i).isSome=AT):a.eval (.tmp i)=(F.lookup i).getD undef:=by exact LC
def At.put{z:List Item}(h:At Q b cs x0 Z F z a wg)(hd:(!kept d&&decide (d<41))=AT)(hw:bG Gz.prog Q (G (b.at (a.put (an d) v) it) cs) w1)(c:fP Gz.prog (G (b.at (a.put (an d) v) it) cs,w1) x0):∃a',At Q b cs x0 Z ((d,v)::F) it a' w1:=by
 simp only[Bool.and_eq_true,Bool.not_eq_true',decide_eq_true_eq] at hd;refine⟨a.put (an d) v,h.z.put,h.d,λe he=>(nR λx=>?_).trans (h.k e he),λe u hu=>?_,hw,c⟩
 ·simp_all
 ·exact LB
def At.kS(v:so)(w1:AS)(h:At Q b cs x0 Z F (.inRegion ops (i::r)::it) a wg)(c:b.kind≠.early)(f:ops[i]?=an (aP (an d) t o):=by exact rfl)(hd:(!kept d&&decide (d<41))=AT:=by decide)
  (hr:(ajA a.eval (aP (an d) t o)).run Gz.prog wg=.ok (.value v) w1):∃a',At Q b cs x0 Z ((d,v)::F) (.inRegion ops r::it) a' w1:=
 have⟨n,w⟩:=h.w.to (pX λ_ e=>by cases e) (stepG_value f rfl c hr)
 h.put hd w (h.n.next n)
def At.op(v:so)(h:At Q b cs x0 Z F (.inRegion ops (i::r)::it) a wg)(c:b.kind≠.early)(e:ops[i]?=an (aP (an d) t o):=by exact rfl)(hd:(!kept d&&decide (d<41))=AT:=by decide)
  (hr:(ajA a.eval (aP (an d) t o)).run Gz.prog wg=.ok (.value v) wg:=by(simp only[execOp,aP];simp[go_sem,ey,h.tm,List.lookup,gl, *])):∃a',At Q b cs x0 Z ((d,v)::F) (.inRegion ops r::it) a' wg:=h.kS v wg c e hd hr
def At.nil(w1:AS)(h:At Q b cs x0 Z F (.inRegion ops (i::r)::it) a wg)(c:b.kind≠.early)(e:ops[i]?=an (aP ns t o):=by exact rfl)(hr:(ajA a.eval (aP ns t o)).run Gz.prog wg=.ok .skip w1):At Q b cs x0 Z F (.inRegion ops r::it) a w1:=
 h.to (stepG_none e rfl c hr)
def At.inv{s f:Sem so}(h:At Q b cs x0 Z F (.inRegion ops (i::r)::it) a wg)(c:b.kind≠.early)(g:HR K φ wg.heap w.heap)(j:SR Gz.prog K VR φ s f)(he:ajA a.eval (aP (an d) t o)=s.bind λv=>.pure (.value v))(l:ops[i]?=an (aP (an d) t o):=by exact rfl)
  (hd:(!kept d&&decide (d<41))=AT:=by decide):∃v w1,s.run Gz.prog wg=.ok v w1/\(w1=wg->∃a',At Q b cs x0 Z ((d,v)::F) (.inRegion ops r::it) a' wg):=by
 obtain⟨v,w1,m,n,hw⟩:=h.w.inv c l rfl he j g;exact⟨v,w1,m,λe=>by subst e;exact h.put hd hw (h.n.next n)⟩
def At.inv1{s g:Sem so}{u:so}(x:Nat)(h:At Q b cs x0 Z F (.inRegion ops (i::r)::it) a wg)(c:b.kind≠.early)(j:HR K φ wg.heap w.heap)(l:SR Gz.prog K VR φ s g)(m:F.lookup x=an u:=by rfl)(n:ops[i]?=an (aP (an d) t o):=by exact rfl)
  (he:a.eval (.tmp x)=u->ajA a.eval (aP (an d) t o)=s.bind λv=>.pure (.value v):=by(intro e;simp only[execOp,aP,e];rfl))(hd:(!kept d&&decide (d<41))=AT:=by decide):
  ∃v w1,s.run Gz.prog wg=.ok v w1/\(w1=wg->∃a',At Q b cs x0 Z ((d,v)::F) (.inRegion ops r::it) a' wg):=h.inv c j l (he (mo (h.f _ _ m))) n hd
def At.pG(u:Bool){x y c:Code}(h:At Q b cs x0 Z F (.code (.seq (.cond (.tmp i) x y) c)::it) a wg)(e:F.lookup i=an (.bool u):=by rfl):At Q b cs x0 Z F ((if u=AT then .code x else .code y)::.code c::it) a wg:=by have h:=(h.to stepG_seq).to (stepG_cond (t:=u) (mo (h.f _ _ e)));cases u<;>exact h
def At.yes{u:Bool}{c:Code}(h:At Q b cs x0 Z F (.code (.seq (.cond (.tmp i) .skip ox) c)::it) a wg)(hG:K.G=Gz.prog.globals.size)(e:b.kind≠.early)(f:HR K φ wg.heap w.heap)(g:F.lookup i=an (.bool u):=by rfl):u=AT/\At Q b cs x0 Z F (.code c::it) a wg:=by have h:=h.pG u g;cases u with|false=>exact(abh hG e f h.w).elim|true=>exact⟨rfl,h.to akE⟩
def SL{x:Nat}{d:Option Nat}(h:a.tmps[x]?=an v):ajA a.eval (aP d 3 (.call {callee:=.builtin .len,args:=#[.tmp x],argTypes:=#[t]}))=(Builtin.len_ #[t] 3 #[v]).bind λv=>.pure (.value v):=by have e:=mo h;unfold ajA;simp only[aP,resolve];simp[e,invoke];rfl
def aeD(hG:K.G=Gz.prog.globals.size)(g:b.kind≠.early)(j:HR K φ wg.heap w.heap)(hz:Sz Z Z)(u:VR φ (Z.eval (.tmp 1)) (Z'.eval (.tmp 1)))(hv:gE φ)(L:ag.gl 2)(M:ag.gl 3)(z:cO Gz.prog)(A:oq Gz.prog)(hW:bG Gz.prog Q (G (b.at Z (.code jm::k)) cs) wg):
  ∃E p W H J I sa n c a,Z.eval (.tmp 1)=.pointer (an E)/\Z'.eval (.tmp 1)=.pointer (an p)/\CF K φ wg w E p W H J I sa n c/\1<=n/\n<=4/\(∃a1 a2,EF φ wg 2 a1/\EF φ wg 3 a2)/\
   At Q b cs (G (b.at Z (.code jm::k)) cs,wg) Z (gl W H J I sa n c 0) (.code (.seq (.block 50 (.loop gB)) (.seq (.region 64 gM Bz) (.seq (.block 51 (.loop gD)) dB)))::k) a wg:=by
 have h:At Q b cs (G (b.at Z (.code jm::k)) cs,wg) Z [] (.code jm::k) Z wg:=⟨hz,rfl,λ_ _=>rfl,λ_ _ h=>(by cases h),hW,.inl rfl⟩;replace h:=(h.to stepG_seq).rg [0,1,2,3,4,5,6,7,8,9,10,11,12,13,14,15,16,17];obtain⟨v,w1,l,h⟩:=h.inv g j (vR _ u) rfl;obtain⟨e,E,p,x0,N,R,S,x4,e1,e2,m,rfl,c0,c1,c2,c3,c4⟩:=abe j u l;obtain⟨a,h⟩:=h e;obtain⟨y0,q0,T,_⟩:=HR.cell (w:=wg) (w':=w) j m c0;obtain⟨y1,q1,V,_⟩:=HR.cell (w:=wg) (w':=w) j (m.add 1) c1;obtain⟨y2,q2,X,_⟩:=HR.cell (w:=wg) (w':=w) j (m.add 2) c2;obtain⟨y3,q3,r3,_⟩:=HR.cell (w:=wg) (w':=w) j (m.add 3) c3;obtain⟨y4,q4,r4,_⟩:=HR.cell (w:=wg) (w':=w) j (m.add 4) c4;obtain⟨f0,f1,f2,f3,f4⟩:=abg x0 N R S x4 wg;have q:∀{x y:so},VR φ x y->_:=λ{x y}(r:VR φ x y)=>GA (P:=Gz.prog) hG .quo 3 (.tmp 20) (ey 8) (λh=>by simp at h) r (.int .i64 8);obtain⟨a,h⟩:=h.op x4 g;obtain⟨a,h⟩:=h.op x0 g;obtain⟨v,w1,l,h⟩:=h.inv1 20 (s:=tM .quo 3 (.tmp 20) (ey 8) x0 (.int .i64 8)) g j (q T);obtain⟨e,W,rfl,rfl⟩:=Gf T l;obtain⟨a,h⟩:=h e;obtain⟨a,h⟩:=h.op N g;obtain⟨v,w1,l,h⟩:=h.inv1 20 (s:=tM .quo 3 (.tmp 20) (ey 8) N (.int .i64 8)) g j (q V);obtain⟨e,H,rfl,rfl⟩:=Gf V l;obtain⟨a,h⟩:=h e;obtain⟨a,h⟩:=h.op S g;obtain⟨v,w1,l,h⟩:=h.inv1 20 (s:=tM .quo 3 (.tmp 20) (ey 8) S (.int .i64 8)) g j (q r3);obtain⟨e,J,rfl,rfl⟩:=Gf r3 l;obtain⟨a,h⟩:=h e;obtain⟨a,h⟩:=h.op R g;obtain⟨v,w1,l,h⟩:=h.inv1 24 (s:=Op.unary .not R) g j (Qm .not X);obtain⟨e,I,rfl⟩:=aeC X l;obtain⟨a,h⟩:=h e;obtain⟨v,w1,l,h⟩:=h.inv g j (Gw _ _ (RU r4)) (SL (h.f _ _ rfl));obtain⟨e,sa,n,c,rfl,rfl⟩:=RQ ((Gz.under _).trans underlying34) r4 l;obtain⟨a,h⟩:=h e;obtain⟨a,h⟩:=h.op (.bool (decide ((n:Int)<5))) g;obtain⟨a,h⟩:=h.op (.bool (decide (0<(n:Int)))) g;obtain⟨a,h⟩:=h.op (.int .i64 0) g;have l1:AR φ ⟨2,0,ns⟩ ⟨2,0,ns⟩:=⟨hv _ L,rfl,rfl⟩;have l2:AR φ ⟨3,0,ns⟩ ⟨3,0,ns⟩:=⟨hv _ M,rfl,rfl⟩;obtain⟨v1,w1,l,h⟩:=h.inv g j (vR 153 (.ptr l1)) rfl;obtain⟨e,B⟩:=Ff SK j l1 l;obtain⟨a,h⟩:=h e;obtain⟨_,_,C,_⟩:=HR.cell (w:=wg) (w':=w) j l1 B;obtain⟨v,w1,l,h⟩:=h.inv1 17 g j (D6 z 153 240 Bz C);obtain⟨e,a1,rfl,yb⟩:=TR (K:=K) A C B l;obtain⟨a,h⟩:=h e;obtain⟨v2,w1,l,h⟩:=h.inv g j (vR 153 (.ptr l2)) rfl;obtain⟨e,D⟩:=Ff SK j l2 l;obtain⟨a,h⟩:=h e;obtain⟨_,_,C,_⟩:=HR.cell (w:=wg) (w':=w) j l2 D;obtain⟨v,w1,l,h⟩:=h.inv1 19 g j (D6 z 153 240 Bz C);obtain⟨e,a2,rfl,yc⟩:=TR (K:=K) A C D l;obtain⟨a,h⟩:=h e;obtain⟨h5,h⟩:=(h.to Kx).yes hG g j;obtain⟨h1,h⟩:=h.yes hG g j;have h5:=of_decide_eq_true h5;have h1:=of_decide_eq_true h1;exact⟨E,p,W,H,J,I,sa,n,c,a,e1,e2,⟨m,c0,c1,c2,c3,c4,by cases T;exact q0,by cases V;exact q1,by cases X;exact q2,by cases r3;exact q3,y4,q4,r4⟩,aa,aa,⟨_,_,yb,yc⟩,h.sub _⟩
end
end
section
open Go.Conc (G stepG_seq stepG_region stepG_region_end stepG_cond stepG_skip stepG_block stepG_loop stepG_exit stepG_inLoop stepG_inBlock stepG_value)
open aL
variable[aC]
def Xd{α:Type}(k:IntKind)(x y:Int)(c:BoundsCode):fD P (boundsPanic k x y c:Sem α):=by
 unfold boundsPanic;split
 ·exact fI (λ_=>eE _) (sJ Em λ_=>lU)
 ·exact fI (λ_=>eE _) lU
def ahT(wg:AS)(sa:ajF)(i:Nat):Prop:=∃p m c,wg.cell? (sa.add i)=an (.slice p m c)/\(m:Int)<9223372036854775808/\((p=ns/\m=0)\/∃e,p=an e/\∀j,j<m->∃x,wg.cell? (e.add j)=an (.int .u8 x))/\m<=c/\(c:Int)<9223372036854775808
section
variable{K:aH}{φ:Ren}{Q:BE->Array Obj->Prop}{b:ajs}{Z a:Act}{k:List Item}{cs:List ajs}{wg w:AS}
def aeE{W H Qq:Int}{I:Bool}{sa:Option ajF}{n c:Nat}{R:Code}{y:so}{x0:BE×AS}(hG:K.G=Gz.prog.globals.size)(g:b.kind≠.early)(q:HR K φ wg.heap w.heap)(rz:n<=4)(hS:VR φ (.slice sa n c) y):
  ∀r i,i+r=n->∀a,At Q b cs x0 Z (gl W H Qq I sa n c i) (.code gB::.inLoop gB::.inBlock 50::.code R::k) a wg->
   (∀j,i<=j->j<n->∃l,sa=an l/\ahT wg l j)/\∃a',At Q b cs x0 Z (gl W H Qq I sa n c n) (.code R::k) a' wg:=by
 intro r
 induction r with
 |zero=>intro i hi a h;obtain rfl:i=n:=aa;obtain⟨a,h⟩:=((h.to stepG_seq).rg [0]).op (.bool Bz) g;exact⟨λj h1 M=>absurd M (pR.2 h1),a,(((h.to Kx).pG Bz).to (stepG_exit rfl)).sub _⟩
 |succ r ih=>
  intro i hi a h;have N:i<n:=aa;have D:(i:Int)<(n:Int):=aa;obtain⟨a,h⟩:=((h.to stepG_seq).rg [0]).op (.bool AT) g;replace h:=((((h.to Kx).pG AT).to akE).to stepG_seq).rg [0,1,2,3,4,5,6,7,8,9,10,11];cases sa with
  |none=>
   exfalso;obtain⟨v,S,hr,_⟩:=h.inv (s:=Instr.indexAt 34 (.slice ns n c) (U O i)) g q (Oo _ hS (.int _ _)) (by simp only[ajA,aP];rw[h.ev (i:=15) rfl,h.ev (i:=22) rfl];rfl) rfl
   have e:(Instr.indexAt 34 (.slice ns n c) (U O i)).run Gz.prog wg=(boundsPanic .i64 (i:Int) 0 .index:Sem so).run Gz.prog wg:=by have h0:(0:Int)<=(i:Int):=aa;simp[Instr.indexAt,asIntOf,go_sem,N,D,h0]
   obtain⟨x,w3,J,_⟩:=Xd (P:=Gz.prog) (α:=so) .i64 (i:Int) 0 .index wg;rw[e,J] at hr;cases hr
  |some l=>
   obtain⟨a,h⟩:=h.op (.pointer (an (l.add i))) g;obtain⟨u,rfl,z⟩:∃u,y=.slice (an u) n c/\AR φ l u:=by cases hS with|slice _ _ h=>exact⟨_,rfl,h⟩|empty=>omega
   obtain⟨v,S,hr,h⟩:=h.inv1 26 g q (vR 62 (.ptr (z.add i)));obtain⟨e,J⟩:=Ff (λw=>(Gz.Sf _ _).trans (isAgg62 w)) q (z.add i) hr;obtain⟨a,h⟩:=h e;obtain⟨yv,_,L,_⟩:=HR.cell (w:=wg) (w':=w) q (z.add i) J;obtain⟨v2,S,hr,h⟩:=h.inv g q (Gw _ _ (RU L)) (SL (h.f _ _ rfl));obtain⟨e,p,m,C,rfl,rfl⟩:=RQ ((Gz.under _).trans underlying62) L hr;obtain⟨a,h⟩:=h e;obtain⟨v2,S,hr,h⟩:=h.inv1 27 g q (Ov 62 9 ah L);obtain⟨e,st,rfl,T⟩:=acV q L hr;obtain⟨a,h⟩:=h e;obtain⟨a,h⟩:=h.op (U O st.size) g;obtain⟨a,h⟩:=h.op (.bool ((m:Int)==(st.size:Int))) g;obtain⟨a,h⟩:=h.op (U O (EV.wrap (m:Int))) g;obtain⟨a,h⟩:=h.op (.bool (EV.wrap (m:Int)==(m:Int))) g;obtain⟨a,h⟩:=h.kS (U O C) wg g (hr:=by simp only[ajA,aP];simp[go_sem,h.tm,akw,Builtin.cap_,alP ((Gz.under _).trans underlying62),alP underlying62]);obtain⟨a,h⟩:=h.op (.bool (decide ((m:Int)<=(C:Int)))) g;obtain⟨a,h⟩:=h.op (U O (EV.wrap (C:Int))) g;obtain⟨a,h⟩:=h.op (.bool (EV.wrap (C:Int)==(C:Int))) g;obtain⟨hm,h⟩:=(h.to Kx).yes hG g q;obtain⟨A,h⟩:=h.yes hG g q;obtain⟨E,h⟩:=h.yes hG g q;obtain⟨B,h⟩:=h.yes hG g q;have hm:=beq_iff_eq.1 hm;have A:=beq_iff_eq.1 A;have E:=of_decide_eq_true E;have B:=beq_iff_eq.1 B;rw[IntKind.wrap_i64] at A B;have hw:EV.wrap ((i:Int)+1)=(i:Int)+1:=za;obtain⟨a,h⟩:=(h.rg [0,1]).op (U O ((i:Int)+1)) g;obtain⟨a,h⟩:=h.op (U O ((i:Int)+1)) g;obtain⟨h1,M⟩:=ih (i+1) aa a (((h.to Kx).to stepG_inLoop).sub _);refine⟨λj hj V=>?_,M⟩;by_cases e:j=i
   ·subst e;refine⟨l,rfl,p,m,C,J,aa,?_,aa,aa⟩;rcases T with⟨X,e2⟩|⟨pa,X,_,e2⟩
    ·exact .inl ⟨X,aa⟩
    ·exact .inr ⟨pa,X,e2⟩
   ·exact h1 j aa V
end
end
end Go.Proofs.Q0.Open
namespace Go.Proofs.Q0.aL
section
open Go.Conc (G)
theorem zZ(J:ag)(P:NO):@NO.two (ag.exact J P.funcs) P=P:=rfl
theorem HR.SM[ag]{K:aH}{φ:Ren}{h g h':Array Obj}(H:HR K φ h h')(d:h.size<=g.size)(e:∀b c,φ b=an c->g[b]?=h[b]?):HR K φ g h':=
 ⟨H.inj,λb c a=>let⟨o,o',h1,f,i⟩:=H.obj b c a;⟨o,o',(e b c a).trans h1,f,i⟩,λb a=>bH (H.below b a) d,H.low,⟨aI H.fZ.1 d,H.fZ.2⟩,λb a=>⟨bH (H.cl b a).1 d,(H.cl b a).2⟩⟩
theorem HR.link[ag]{K:aH}{φ:Ren}{h h':Array Obj}(H:HR K φ h h'){b c:Nat}{o o':Obj}(l:h[b]?=an o)(hc:h'[c]?=an o')(m:φ b=ns)(hi:∀x,φ x≠an c)(hr:¬K.ro b)(n:¬K.tok b)(k:Obj.loose o)(g:b<K.G<->c<K.G)(i:¬ag.cl b)
  (q:OR (φ.add b c) o o'):Ren.le φ (φ.add b c)/\HR K (φ.add b c) h h':=by
 have hle:Ren.le φ (φ.add b c):=λx y f=>by
  unfold Ren.add;split
  ·next e=>subst e;rw[m] at f;cases f
  ·exact f
 have a:∀x y,φ.add b c x=an y->(x=b/\y=c)\/φ x=an y:=λx y f=>by
  unfold Ren.add at f;split at f
  ·next e=>cases f;exact .inl ⟨e,rfl⟩
  ·exact .inr f
 refine⟨hle,λx y d f r=>?_,λx y f=>?_,H.below,λx y f=>?_,H.fZ,λx f=>⟨(H.cl x f).1,λy e=>?_⟩⟩
 ·rcases a x d f with⟨rfl,rfl⟩|h1<;>rcases a y _ r with⟨rfl,e⟩|j
  ·exact .inl rfl
  ·exact absurd j (hi _)
  ·subst e;exact absurd h1 (hi _)
  ·exact H.inj _ _ _ h1 j
 ·rcases a x y f with⟨rfl,rfl⟩|h1
  ·exact⟨o,o',l,hc,.own hr n q k⟩
  ·obtain⟨p,s,j,t,u⟩:=H.obj _ _ h1;exact⟨p,s,j,t,u.mono hle⟩
 ·rcases a x y f with⟨rfl,rfl⟩|h1
  ·exact g
  ·exact H.low _ _ h1
 ·rcases a x y e with⟨rfl,rfl⟩|h1
  ·exact absurd f i
  ·exact(H.cl x f).2 _ h1
section
variable{I J:ag}{P:NO}
structure VX(J:ag)(P:NO)(Kc:aH)(i7 φ:Ren)(f:alo)(args:Array so)(wc:AS)(y:BE×AS)(v vm:so)(hM:Array Obj)(n1:Nat):Prop where
 old:∀b,b<wc.heap.size->Kc.ro b\/Kc.tok b
 new:∀b,wc.heap.size<=b->¬Kc.ro b/\¬Kc.tok b
 VY:∀b c,i7 b=an c->b<wc.heap.size
 nx:fP P y (G (ajC P f args .normal) [c0 P],wc)
 lv:Lv P y.1
 back:jw P (λu _=>u=v) y.1 y.2.heap
 qP:∃R,bG P R (G (ajC P f args .normal) [c0 P]) wc
 rel:@HR J Kc φ y.2.heap hM
 val:@VR J φ v vm
 le:Ren.le i7 φ
 fresh:∀b c,φ b=an c->i7 b=an c\/(wc.heap.size<=b/\n1<=c)
theorem Zc(t:ag.Le J I){K Kc:aH}(H:@dA (ag.exact J P.funcs) P)(hC:@ee (ag.exact J P.funcs) P)(hz:@cO (ag.exact J P.funcs) P)(hG:Kc.G=P.globals.size)(hF:@dY (ag.exact J P.funcs) P Kc)
  {i7 φ w:Ren}{f:alo}{args:Array so}{wc j:AS}{y:BE×AS}{v L:so}{M:Array Obj}{n1:Nat}(hr:VX J P Kc i7 φ f args wc y v L M n1)
  (N:Kc.G=K.G)(Q:K.G<=wc.heap.size)(hf:J.ok f)(q:@aw (ag.exact J P.funcs) (Ren.gF i7) args args)(hH:@HR (ag.exact J P.funcs) Kc (Ren.gF i7) wc.heap j.heap)(hv:@gE (ag.exact J P.funcs) (Ren.gF i7))
  (S:@HR I K w j.heap M)(z:Ren.le i7 w)(cM:wc.heap.size<=j.heap.size)(A:∀b d,w b=an d->∀a,wc.heap.size<=a->φ a≠an d)(T:∀b,wc.heap.size<=b->¬J.cl b){b0:ajs}{B0:List ajs}(uB:0<B0.length):
  ∃i u o,fO P (G (b0.finish u) B0,o) (G (ajC P f args .normal) (b0::B0),j)/\Ren.le w i/\@HR I K i o.heap M/\@VR I i u L/\j.heap.size<=o.heap.size/\(∀b,b<j.heap.size->o.heap[b]?=j.heap[b]?)/\
   ∀b c,i b=an c->w b=an c\/(j.heap.size<=b/\∃a,wc.heap.size<=a/\φ a=an c):=by
 obtain⟨R,hW⟩:=hr.qP
 have hD:@dK (ag.exact J P.funcs) P Kc (b0::B0) (Ren.gF i7) (G (ajC P f args .normal) [c0 P]) wc (G (ajC P f args .normal) (b0::B0)) j:=by have B:=@wA (ag.exact J P.funcs) P (Ren.gF i7) H f hf args args q;rw[zZ] at B;exact⟨_,_,[],[],rfl,rfl,B,@iM.nil (ag.exact J P.funcs) P _,hH,hv,rfl⟩
 obtain⟨V,r,s,h1,h2,h3,h4⟩:=@replay (ag.exact J P.funcs) P Kc R (zZ J P) (λ_ _ x=>x) H hC hz hG hF (b0::B0) aA y _ hr.nx _ _ _ hD hW;obtain⟨n,v0,u,o,d,h5,h6,h7,h8,W,_⟩:=@Pp (ag.exact J P.funcs) P Kc H b0 B0 V y.1 y.2 r s _ h2 hr.lv hr.back AT;subst h6;rw[zZ] at h5;have W:=@ik.h (ag.exact J P.funcs) _ _ _ _ _ _ W;have k:=@iF.trans (ag.exact J P.funcs) _ _ _ _ _ _ _ _ _ h3 W h4
 have C:∀a b,Ren.gF i7 a=an b->a=b/\a<wc.heap.size:=λa b g=>by obtain⟨e,d,hd⟩:=Ren.qj g;exact⟨e.symm,hr.VY _ _ hd⟩
 have l:∀b,b<j.heap.size->o.heap[b]?=j.heap[b]?:=λb hb=>k.apart b hb λa D=>hr.old a (C a b D).2
 have E:∀a b,wc.heap.size<=a->n a=an b->j.heap.size<=b:=λa b D g=>by
  rcases k.fresh a b g with h|h
  ·have:=(C a b h).2;omega
  ·exact h.2
 have hold:∀a b,a<wc.heap.size->n a=an b->a=b/\∃d,i7 a=an d:=λa b D g=>by
  rcases k.fresh a b g with h|h
  ·obtain⟨e,d,hd⟩:=Ren.qj h;exact⟨e.symm,d,hd⟩
  ·have:=h.1;have e:wc.heap.size<=a:=this;omega
 have p:∀a b,n a=an b->J.cl a->J.cl b:=λa b g hc=>by
  rcases dg a wc.heap.size with X|Z
  ·rw[<-(hold a b X g).1];exact hc
  ·exact absurd hc (T a Z)
 obtain⟨i,k1,k2,k3,k4⟩:=HR.comp (n0:=wc.heap.size) t S hr.rel h8 p hr.new N Q (k.size) l (λa b c D g hac=>by obtain⟨rfl,d,hd⟩:=hold a b D g;have:=hr.le _ _ hd;rw[hac] at this;cases this;exact z _ _ hd) E A
 have hvv:@VR I i u L:=VR.inst t.tokP (@VR.comp J P.funcs φ n i k3 p _ _ hr.val _ h7)
 have F:¬Lv P r:=by obtain⟨fr,eq,cs,cs',_,rfl,_⟩:=h2;exact SA aA
 have m:Nx P (G (b0.finish u) B0,o) (r,s):=⟨F,s.tape,d,λ_ _ _=>rfl,by rw[World.aeA];exact h5⟩;refine⟨i,u,o,?_,k1,k2,hvv,k.size,l,k4⟩;rcases h1 with e|h1
 ·cases e;exact .one m
 ·exact .more m h1
end
end
end Go.Proofs.Q0.aL
namespace Go.Proofs.Q0.Open
open Go.Proofs.Tryz
section
open Go.Conc Go.RowKit aL
variable[aC]
def aeF{w:AS}{n:Nat}(c:n<=1000):(Instr.makeSlice 78 (U O n) (U O n)).run Gz.prog w=.ok (.slice (an ⟨w.heap.size,0,ns⟩) n n) (w.alloc (.cells (ajD n (.slice ns 0 0)) 63)):=by
 have h:=run_makeSlice (P:=Gz.prog) (w:=w) 78 63 Tryz.t63 (.slice ns 0 0) ((Gz.under _).trans underlying78) ((Gz.info _).trans ah) ah .i64 .i64 n n aa aa (by
  have:Tryz.t63.size=1:=aD;rw[this];omega) (by
  have:Tryz.t63.bytes=24:=aD;rw[this];omega) aa
 exact LF
def _root_.Go.Proofs.Q0.aL.fP.bj{P:NO}{z y x:BE×AS}(h:fP P y x)(k:Nx P z y):fO P z x:=by
 rcases h with rfl|h
 ·exact .one k
 ·exact .more k h
def lg(B:dc)(c i:Nat):List (Nat×so):=[(4,.pointer (an ⟨c+1,0,ns⟩)),(15,.slice (an B.sa) B.sn B.sc),(16,U O B.sn),(17,.slice (an ⟨c,0,ns⟩) B.sn B.sn),(21,U O (EV.wrap (B.W.tdiv 8))),(24,.bool B.I),(22,U O i)]
structure LM(h0:Array Obj)(B:dc)(u:Nat->so)(i:Nat)(h:Array Obj):Prop where
 size:h0.size+2<=h.size
 old:∀b,b<h0.size->h[b]?=h0[b]?
 row:∃vs:Array so,vs.size=B.sn/\h[h0.size]?=an (.cells vs 63)/\∀j,j<B.sn->vs[j]?=an (if j<i then u j else .slice ns 0 0)
 box:h[h0.size+1]?=an (.cells (B.full h0.size) 80)
section
variable{Q:BE->Array Obj->Prop}{b:ajs}{Z a:Act}{k:List Item}{cs:List ajs}{wg:AS}{B:dc}{x0:BE×AS}
def Z4(W H Q:Int)(I:Bool)(sa:ajF)(sn sc C n m:Nat)(w:AS):(Instr.build 80 #[(0,.agg #[U O W,U O H,.bool I,U O Q,.slice (an sa) sn sc]),(1,.slice (an ⟨C,0,ns⟩) n m)]).run Gz.prog w=.ok (.agg #[U O W,U O H,.bool I,U O Q,.slice (an sa) sn sc,.slice (an ⟨C,0,ns⟩) n m]) w:=ah
def Pz{w d:AS}{o:Obj}(h:d=w.alloc o):d.heap.size=w.heap.size+1/\(∀c,c<w.heap.size->d.heap[c]?=w.heap[c]?)/\d.heap[w.heap.size]?=an o:=by subst h;exact⟨aj,λc hc=>by show(w.heap.push _)[c]?=_;rw[akb hc,<-ajB hc],by show(w.heap.push _)[_]?=_;simp⟩
def agw(d:b.kind≠.early)(s:B.sn<=4)(h:At Q b cs x0 Z (gl B.W B.H B.Q B.I (an B.sa) B.sn B.sc B.sn) (.code (.seq (.region 64 gM Bz) (.seq (.block 51 (.loop gD)) dB))::k) a wg):
  ∃a' w',At Q b cs x0 Z (lg B wg.heap.size 0) (.code gD::.inLoop gD::.inBlock 51::.code dB::k) a' w'/\LM wg.heap B (λ_=>undef) 0 w'.heap:=by
 obtain⟨a,h⟩:=((h.to stepG_seq).rg [0,1,2,3,4]).kS (.slice (an ⟨wg.heap.size,0,ns⟩) B.sn B.sn) _ d (hr:=by simp only[ajA,aP];simp[go_sem,h.tm,akw,gl,aeF (show B.sn<=1000 by omega)];rfl);obtain⟨f,g⟩:∃f,f=wg.alloc (.cells (ajD B.sn (.slice ns 0 0)) 63):=⟨_,rfl⟩;rw[<-g] at h;obtain⟨o,u,v⟩:=Pz g;obtain⟨a,h⟩:=h.kS (.agg (B.full wg.heap.size)) f d (hr:=by simp only[ajA,aP];simp[go_sem,h.tm,akw,gl,Z4];rfl);obtain⟨a,h⟩:=h.kS (.pointer (an ⟨f.heap.size,0,ns⟩)) (f.alloc (.cells jT 80)) d (hr:=by simp only[ajA,aP];simp[go_sem,ey,jT]);obtain⟨i,e⟩:∃i,i=f.alloc (.cells jT 80):=⟨_,rfl⟩;rw[<-e] at h;obtain⟨D,p,x⟩:=Pz e;clear e;obtain⟨w3,l,y,z,A,C,r,E,_,_,_⟩:=Pw (P:=Gz.prog) (B.full wg.heap.size).toList 0 jT i x (by simp[dc.full,jT]) (by simp[dc.full];simp[Value.oneCell'])
 have m:l=B.full wg.heap.size:=by
  apply Array.ext
  ·rw[A];simp[dc.full,jT]
  ·intro j h1 h2;have hj:=C j;have F:(B.full wg.heap.size).size=6:=by simp[dc.full]
   exact LI
 subst m;have n:(B.full wg.heap.size).size=6:=rfl;replace h:=h.nil w3 d (hr:=by simp only[ajA,aP];simp[go_sem,h.tm,akw,n,y]);obtain⟨a,h⟩:=h.op (U O 0) d;rw[o] at h;refine⟨a,w3,((((h.to Kx).to stepG_seq).to stepG_block).to stepG_loop).sub _,aa,λc hc=>?_,⟨ajD B.sn (.slice ns 0 0),aj,?_,λj hj=>by simp[hj]⟩,?_⟩
 ·rw[r c aa,p c aa,u c hc]
 ·rw[r _ aa,p _ aa,v]
 ·rw[<-o];exact z
end
end
section
open Go.Conc Go.ConcN Go.RowKit Go.Conc.Lib Go.ConcR.Gen Go.ConcN.Gen aL
open Go.ConcR (KK wgBlock WgAt stA smA rd wr mk Payload Aside2 DC0 ofEvent_cell)
open Wg (ql Ba zJ Oz wQ tA mM je RM DM)
def G8:so->so
 |.tuple a=>a.getD 0 undef
 |v=>v
noncomputable def BX(Q:NO)(n:Nat)(vg:Nat->so)(wg:AS)(W:Int)(I:Bool)(R:Nat->so->Array Obj->Prop):dC where
 ty:=115
 n:=n
 f:=75
 start:=λk=>(G (ajC Q 75 #[vg k,U O (EV.wrap (W.tdiv 8)),.bool I] .normal) [c0 Q],wg)
 R:=R
 pick:=G8
 shape:=λv=>∃s l c t,v=.tuple #[.slice s l c,.bool t]
def Jq(jd:Loc->Prop)(Wg:Nat)(l:Loc):Prop:=jd l\/∃a,l=.cell a/\a.block=Wg
section
variable[ag]{Q:NO}{S:cJ}{gs:Array BE}{w:AS}{sl:Option (Nat×Nat)}{t:Trace}{q:Nat->Nat}{jd:Loc->Prop}{B:dc}{j3 vg:Nat->so}{wg:AS}{R:Nat->so->Array Obj->Prop}{b:ajs}{Z:Act}{k:List Item}{cs:List ajs}
structure After(Q:NO)(S:cJ)(J:dC)(jd:Loc->Prop)(B:dc)(Z:Act)(C o Wg:Nat)(M:Nat->Prop)(D:Nat->WS)(a:Act)(w:AS):Prop where
 ds:a.defers=Z.defers
 keep:∀d,kept d=AT->a.tmps[d]?=Z.tmps[d]?
 size:Sz Z a
 s4:a.tmps[4]?=an (.pointer (an ⟨o,0,ns⟩))
 ne:o≠C/\o≠Wg/\C≠Wg
 main:M C/\M o/\M Wg
 full:w.heap[o]?=an (.cells (B.full C) 80)
 pay:PayAt C B.sn w
 mem:Mem S B.sn (fV D) (mi D) M w.heap
 done:∀i,i<B.sn->BA Q J i (D i)/\Has C i (J.pick (D i).val) w
 io:w.os=S.os/\w.output=S.out
def aeG(v:so):(#[v]++ajD 83 undef:Array so)=#[v,undef,undef,undef,undef,undef,undef,undef,undef,undef,undef,undef,undef,undef,undef,undef,undef,undef,undef,undef,undef,undef,undef,undef,undef,undef,undef,undef,undef,undef,undef,undef,undef,undef,undef,undef,undef,undef,undef,undef,undef,undef,undef,undef,undef,undef,undef,undef,undef,undef,undef,undef,undef,undef,undef,undef,undef,undef,undef,undef,undef,undef,undef,undef,undef,undef,undef,undef,undef,undef,undef,undef,undef,undef,undef,undef,undef,undef,undef,undef,undef,undef,undef,undef]:=mP
def Ic{φ:Ren}{x y z e f g:so}(h:VR φ x e)(j:VR φ y f)(l:VR φ z g):aw φ #[x,y,z] #[e,f,g]:=⟨rfl,λi a b c d=>by
 match i,c,d with
 |0,c,d=>simp at c d;subst c;subst d;exact h
 |1,c,d=>simp at c d;subst c;subst d;exact j
 |2,c,d=>simp at c d;subst c;subst d;exact l
 |n+3,c,_=>simp at c⟩
def afE(j:Q.two=Tryz.prog)(hS:qk S)(hF:dT Q.two jd gs w t q)(h1:S.h1=w.heap)(P:S.os=w.os/\S.out=w.output)(E:lD jd S.φ)
  (hB:dA Q)(hC:ee Q)(mt:cO Q)(hG:S.K.G=Q.globals.size)(hFn:dY Q S.K)(un:∀c c',¬ag.dM c c')
  (hc:qG B w)(hn:B.sn<=1000)(hv:∀i,i<B.sn->w.cell? (B.sa.add i)=an (j3 i))(Jr:∀i,i<B.sn->VR S.φ (vg i) (j3 i))
  (hcb:∃x,S.φ x=an B.cb)(yd:∃x,S.φ x=an B.sa.block)(hJ:kC Q S (BX Q B.sn vg wg B.W B.I R) B.sn)
  (pH:b.kind≠.early)(Cw:b.fn=53)(hz:Sz Z Z)(s1:Z.tmps[1]?=an (.pointer (an ⟨B.cb,B.co,ns⟩)))(ha:gs[0]?=an (G (b.at Z (.code iG::k)) cs)):
  ∃N IR w' qr t' q' C o Wg M D a,runNT Q.two N (crowd gs w sl) t=(.next (crowd IR w' qr),t')/\IR[0]?=an (G (b.at a (.inRegion gS []::.code dB::k)) cs)/\
   dT Q.two (Jq jd Wg) IR w' t' q'/\After Q S (BX Q B.sn vg wg B.W B.I R) jd B Z C o Wg M D a w':=by
 obtain⟨xb,ri⟩:=hcb;obtain⟨xs,E'⟩:=yd;have r:B.cb<w.heap.size:=h1▸(hS.rel.lt ri).2;have V:B.sa.block<w.heap.size:=h1▸(hS.rel.lt E').2
 obtain⟨m,hgo⟩:=abc (k:=k) (cs:=cs) (Sh:=jd) pH Cw hz s1 hc hn (E _ _ ri) (λl c hc hl hs=>by
  obtain⟨a,rfl,ha⟩:=hF.shl l hs;rcases hl with⟨a',e,rfl⟩|e
  ·cases e;omega
  ·cases e)
 rw[<-j] at hgo;obtain⟨N1,uC,a1,w1,VZ,t1,q1,r1,z1,f1,P',⟨C,o,Wg,a,rfl,p⟩,UA,PA⟩:=NU (by rintro g w⟨_,_,_,_,rfl,_⟩;rfl) _ _ gs _ w sl t q (av _) hgo hF ha λop ho=>vC aa (hF.low op ho);obtain⟨g1,g2,g3,g4,g5,g6,g7,g8,g9⟩:=p.VV
 let A:Main:={o,cb:=B.cb,co:=B.co,Wg,C,n:=B.sn,W:=B.W,I:=B.I,sa:=B.sa,sn:=B.sn,sc:=B.sc,j3,oO:=.cells (B.full C) 80}
 let L:bY:={c0:=uC.size,C,off:=0,Wg,jd}
 let J:=BX Q B.sn vg wg B.W B.I R
 let M0:Nat->Prop:=λc=>c=C\/c=o\/c=Wg
 let D0:Nat->WS:=λ_=>{stage:=7,e:=3,fuel:=0,deaf:=0,x:=J.start 0,φ:=S.φ,val:=undef,X:=λ_=>False}
 have UB:PayAt C B.sn w1:=⟨_,p.hC,aj⟩
 have wt:Com Q S L J 0 D0 M0 uC w1 t1 q1 0:=by
  refine Com.begin (nw:=w.heap.size+2) P' rfl hS (by rw[h1];exact p.grow) (λb hb=>by rw[h1] at hb⊢;exact p.old b hb) (λc hc=>?_) (.inl rfl) (.inr (.inr rfl)) g6 (λl hl=>by rw[h1];exact hF.shl l hl) E (λk c x=>x.elim) PA (by have:=p.VU;show _<=Wg;omega) UB ⟨UA.1.trans P.1.symm,UA.2.trans P.2.symm⟩;rw[h1];rcases hc with rfl|rfl|rfl
  ·exact⟨g1,g7⟩
  ·exact⟨g2,g8⟩
  ·exact⟨g3,g9⟩
 have V0:MS A S.h1.size:=⟨by rw[h1];exact r,by rw[h1];exact V,av _,by show B.sn<_;omega,g4,g5,g6⟩
 have hMI:MI A S.h1.size M0:=⟨.inr (.inl rfl),.inl rfl,.inr (.inr rfl),λc hc=>by rw[h1];rcases hc with rfl|rfl|rfl<;>assumption⟩
 have cell:∀{c i:Nat}{sp:Option Nat},c<w.heap.size->w1.cell? ⟨c,i,sp⟩=w.cell? ⟨c,i,sp⟩:=λ{c i sp} hc=>by simp only[ajQ,p.old c hc]
 have hK:MK A S.h1.size M0 w1:=by
  refine⟨λc hc=>?_,p.ho,?_,(cell r).trans hc.S,(cell r).trans hc.W,(cell r).trans hc.I,λi hi=>?_,⟨_,_,p.hW⟩,UB⟩
  ·rcases hc with rfl|rfl|rfl<;>assumption
  ·show w1.cell? ⟨o,5,ns⟩=_;simp[ajQ,p.ho,dc.full];exact⟨rfl,rfl⟩
  ·refine Eq.trans ?_ (hv i hi);show w1.cell? (B.sa.add i)=_;simp only[ajQ];rw[nG,p.old _ V]
 let Post:(Nat->Prop)->BE->AS->Prop:=λM g w=>∃a,g=G (b.at a (.inRegion gS []::.code dB::k)) cs/\SF Z (ya A A.n) a/\MI A S.h1.size M/\MK A S.h1.size M w
 have UC:=abb (A:=A) (Z:=Z) (N0:=S.h1.size) (b:=b) (k:=k) (cs:=cs) (Child:=aL.Child Q S L J) (Fin:=SG Q S L J Post) (M:=M0) (F:=λ_=>False) (a:=a) (w:=w1) pH Cw V0 (λi y M u hi hI uD uA N' hW=>?_) (λM a u hI hS' hK'=>?_) hMI hK p.ds p.keep p.size p.s1 p.s4 p.s5
 ·rw[<-j] at UC;obtain⟨N2,xZ,w2,x7,t2,D2,M2,a2,q2,q3,r2,f2,ye,⟨a',rfl,H,Js,DE⟩,_,d9,wZ⟩:=aa6 (L:=L) (J:=J) (Post:=Post) (M:=M0) (F:=λ_=>False) hB hC mt hG hFn un hJ (by show B.sn<_;omega) UC wt f1 p.hW λc hc=>hc.elim;refine⟨N1+N2,xZ,w2,x7,t2,q3,C,o,Wg,M2,D2,a',by rw[runNT_add,r1];exact r2,f2,d9,H.d,H.k,H.z,H.f 4 _ rfl,⟨g4,g5,g6⟩,⟨Js.C,Js.o,Js.Wg⟩,DE.oF,ye.pay,ye.mem,λi hi=>⟨(wZ i hi).1,?_⟩,ye.io⟩;have:=(wZ i hi).2;rwa[show L.off+i=i from Nat.zero_add i] at this
 ·
  have hSh:∀c,(c=(A.lF i y).o\/c=(A.lF i y).cb\/c=(A.lF i y).rb\/c=(A.lF i y).sa.block)->∀l,bI c l->¬L.Sh l:=λc hc l hl hs=>by
   replace hc:c=o\/c=B.cb\/c=y\/c=B.sa.block:=hc;have G':=hI.ge y uD;rw[h1] at G';replace N':y≠Wg:=N';rcases hs with hs|⟨ad,rfl,pI⟩
   ·obtain⟨ad,rfl,pI⟩:=hF.shl l hs;have ec:c=ad.block:=bI.inj hl (.inl ⟨_,rfl,rfl⟩);rcases hc with hc|hc|hc|hc
    ·omega
    ·exact E _ _ (hc▸ri) _ hl hs
    ·omega
    ·exact E _ _ (hc▸E') _ hl hs
   ·have ec:c=ad.block:=bI.inj hl (.inl ⟨_,rfl,rfl⟩);have hw:ad.block=Wg:=pI;rcases hc with hc|hc|hc|hc<;>omega
  obtain⟨m,hg⟩:=agu (A:=A.lF i y) (N0:=S.h1.size) (X:=λc=>c=A.o\/c=y) (Sh:=L.Sh) (w:=u) hSh hi g6 hW
  ·rw[<-j] at hg⊢;refine⟨λc=>c=A.o\/c=y,m,λc hc=>?_,ql (λ_ _ _ x=>x) (λg v Ha=>?_) (λ_ _ x=>x) hg⟩
   ·rcases hc with rfl|rfl
    ·exact⟨hI.o,g4,g5⟩
    ·exact⟨uD,uA,N'⟩
   ·obtain⟨tL,b',B',wT,agx⟩:=Ha;refine⟨tL,#[j3 i,U O (EV.wrap (B.W.tdiv 8)),.bool B.I],b',B',?_,⟨#[vg i,U O (EV.wrap (B.W.tdiv 8)),.bool B.I],?_,rfl⟩,λv' w4 xR hr=>?_⟩
    ·rw[j];exact wT
    ·exact Ic (Jr i hi) (.int _ _) (.bool _)
    ·obtain⟨s,l,c,t,rfl⟩:=xR;obtain⟨m,hg⟩:=agx s l c t w4 hr;exact⟨m,by rw[<-j] at hg;exact hg⟩
 ·
  refine⟨rfl,wQ Tryz.link Wg (b.at a (.inRegion gS [0]::.code dB::k)) cs,tA (b.at (a.put ((gS[0]?).bind (·.dst)) (.tuple #[])) (.inRegion gS []::.code dB::k)) cs,3,?_,?_,λg w d h=>h,λg v h=>?_,?_,λg v hr h=>?_⟩
  ·rintro g w⟨T,rfl,_⟩;rfl
  ·rintro g w rfl;rfl
  ·rw[j];exact Oz (ops₀:=gS) (i₀:=0) (rest₀:=[]) (k₀:=.code dB::k) (a₀:=a) (b₀:=b) (cs:=cs) Tryz.wN g v h
  ·rw[j];have:=zJ (L:=Tryz.link) (Wg:=Wg) (ops₀:=gS) (i₀:=0) (rest₀:=[]) (k₀:=.code dB::k) (a₀:=a) (b₀:=b) (cs:=cs) Tryz.wN u hK'.live;rw[aeG];exact this
  ·have hd:(gS[0]?).bind (·.dst)=an 28:=by rfl
   rw[hd] at h;exact⟨_,h,(hS'.put al).sub _,hI,hK'.rely V0 hI hr⟩
end
end
end Go.Proofs.Q0.Open
