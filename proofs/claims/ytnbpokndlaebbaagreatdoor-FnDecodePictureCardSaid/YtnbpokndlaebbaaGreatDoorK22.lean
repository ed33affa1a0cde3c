import Derived.Test.YtnbpokndlaebbaaGreatDoorK21
set_option maxRecDepth 100000
set_option maxHeartbeats 8000000
set_option linter.all false
open Go.Value renaming int->U,slice->Y,bool->ci,agg->bi,pointer->d9,tuple->em,iface->gc
open Go.IntKind renaming i64->O
open Go.Obj renaming cells->ap
open Go.Ending renaming returned->dl
open Array renaming getElem?_eq_getElem->aik,getElem?_push_lt->aiM,replicate->aif
open Bool renaming false->Ba,true->AT
open Go renaming Addr->aic,Frame->ahY,FuncId->ajH,Goroutine->BE,Program->OF,TypeId->SL,Value->AS,World->rl,execOp->aie,run_underlying->aky,underlying->aiy
open Go.Conc renaming stepG_region_end->Kx,stepG_skip->ajo
open Go.Frame renaming enter->aid
open Go.Instr renaming field->aji,loadAt->ajk,typeAssert->aiL
open Go.IntKind renaming i64->EV
open Go.Sem renaming run->aiQ,run_bind->aih
open Go.World renaming cell?->aiu
open List renaming lookup->aiZ
open Option renaming none->ns,some->an
namespace Go.Proofs.Q0.Open
section
open Go.Conc (G stepG_seq stepG_region stepG_region_end stepG_cond stepG_skip stepG_block stepG_loop stepG_exit stepG_inLoop stepG_inBlock)
open aM
class aG extends ah where
 two:Gz.prog.two=Tryz.prog
 nx:∀f,¬ah.cd f Sq
 fr:∀c c',ah.dL c c'<->c=ja/\c'=iv
 hm:ah.home=27
 Ci:∀d,ah.lv 27 d<->((kept d=AT\/d=4)/\d<41)
variable[aG]
structure AtF(K:aI)(B:List ahY)(φ:Ren)(g:BE)(wg:rl)(a:BE)(w:rl) where
 b:ahY
 Z:Act
 Z':Act
 k:List Item
 k':List Item
 cs:List ahY
 cs':List ahY
 hg:g=G (b.at Z (.code ja::k)) (cs++[c0 Gz.prog])
 ha:a=G (b.at Z' (.code iv::k')) (cs'++B)
 fn:b.fn=27
 kind:b.kind=.normal
 tm:cU φ (ah.lv 27) Z.tmps Z'.tmps
 todo:gS Gz.prog φ 27 AT k k'
 defers:jr φ Z.defers Z'.defers
 callers:iC Gz.prog φ cs cs'
 jL:pd 27
 heap:HR K φ wg.heap w.heap
 vars:gR φ
 bot:lu (b.at Z (.code ja::k)) cs
def Gw{P:OF}{f:ajH}:¬eI P f nX:=λh=>aG.nx f h.2.2.2.2.1
def abJ{f:ajH}{a:Code}{s:Bool}(h:ik Gz.prog f s ja a):a=iv/\f=27/\s=AT:=by
 cases h with
 |same h=>exact(Gw h.2.1.2.2).elim
 |seq _ b=>
  cases b with
  |same h=>exact(Gw h.1.2.2).elim
  |seq c _=>cases c with|same h=>exact(Gw h.2.2).elim|dL h=>have:=((aG.fr _ _).1 h).1;unfold ja at this;cases this
  |dL h=>have:=((aG.fr _ _).1 h).1;unfold ja at this;cases this
 |dL h d e=>exact⟨((aG.fr _ _).1 h).2,d.trans aG.hm,e⟩
def PO{fr:ahY}(hm:fr.mode=.run)(hr:fr.roundOf=ns):fr=fr.at ⟨fr.tmps,fr.defers⟩ fr.todo:=by obtain⟨⟩:=fr;subst hm;subst hr;rfl
theorem adn{K:aI}{B:List ahY}{φ:Ren}{g a:BE}{wg w:rl}(t:dJ Gz.prog K B φ g wg a w)(u:tl g):Nonempty (AtF K B φ g wg a w):=by
 obtain⟨fr,b,v,i,rfl,rfl,d,j,x,z,C⟩:=t;obtain⟨hm,c,D,k,e,l⟩:=u;have hm:fr.mode=.run:=hm;have e:fr.todo=.code c::k:=e;obtain⟨hc,rfl⟩:=(aG.fr _ _).1 l
 have n:b.mode=.run:=by have:=d.mode;rw[hm] at this;generalize b.mode=m at this;cases this;rfl
 have h1:=d.todo;rw[e] at h1;generalize E:b.todo=f at h1;generalize F:fr.roundOf.isNone=s at h1;cases h1 with
 |stop=>unfold ja at hc;cases hc
 |@cons _ y _ f o A=>
  cases o with
  |@code _ G o=>
   subst hc;obtain⟨rfl,h,rfl⟩:=abJ o;have q:fr.roundOf=ns:=eN
   have p:b.roundOf=ns:=by have:=d.round;rw[q] at this;generalize b.roundOf=m at this;cases this;rfl
   have r:=PO hm q;have H:=PO n p;rw[e] at r
   have I:b.at ⟨b.tmps,b.defers⟩ (.code iv::f)=fr.at ⟨b.tmps,b.defers⟩ (.code iv::f):=by simp only[Frame.at];rw[d.fn,d.kind.1,d.kind.2]
   refine⟨⟨fr,⟨fr.tmps,fr.defers⟩,⟨b.tmps,b.defers⟩,k,f,v,i,?_,?_,h,d.kind.1,by rw[<-h];exact d.tmps,by rw[<-h];exact A,d.defers,j,by rw[<-h];exact d.jL,x,z,?_⟩⟩
   ·rw[<-r]
   ·grind
   ·grind
end
end Go.Proofs.Q0.Open
namespace Go.Proofs.Q0.aM
section
variable[ah]
section
variable{P:OF}{K:aI}{φ:Ren}{w:rl}{h':Array Obj}{a a':aic}
def PQ(c:HR K φ w.heap h')(d:AR φ a a'){v:AS}{b:rl}(hr:(load a).run P w=.ok v b):b=w/\w.cell? a=an v:=by
 replace hr:(Sem.load .plain a .pure).run P w=.ok v b:=hr;cases hc:w.cell? a<;>simp only[aiQ,hc,HR.farLoad (w':={w with heap:=h'}) c d] at hr<;>cases hr
 exact⟨rfl,rfl⟩
theorem Xw(g:HR K φ w.heap h')(h:AR φ a a'):∀(n i:Nat)(acc xs:Array AS)(c:rl),(loadCellsFrom a i n acc).run P w=.ok xs c->c=w/\xs.size=acc.size+n/\(∀j,j<acc.size->xs[j]?=acc[j]?)/\∀j,j<n->w.cell? (a.add (i+j))=xs[acc.size+j]?:=by
 intro n
 induction n with
 |zero=>intro i acc xs c b;cases b;exact⟨rfl,rfl,λ_ _=>rfl,λj d=>absurd d (gX j)⟩
 |succ n k=>
  intro i acc xs c b;unfold loadCellsFrom at b;rw[aih] at b;cases e:(load (a.add i)).run P w with
  |halt x l=>rw[e] at b;cases b
  |ok v l=>rw[e] at b;obtain⟨rfl,hc⟩:=PQ g (h.add i) e;obtain⟨h1,m,f,o⟩:=k (i+1) (acc.push v) xs c b;simp only[Array.size_push] at m f o;refine⟨h1,aa,λj d=>(f j aa).trans (by rw[aiM d,<-aik d]),λj d=>?_⟩;cases j with|zero=>simp_all|succ j=>grind
def Ml(c:HR K φ w.heap h')(d:AR φ a a'){n:Nat}{xs:Array AS}{b:rl}(hr:(loadCells a n).run P w=.ok xs b):b=w/\xs.size=n/\∀j,j<n->w.cell? (a.add j)=xs[j]?:=by obtain⟨h1,e,_,f⟩:=Xw c d n 0 #[] xs b hr;exact⟨h1,by simpa using e,λj g=>by have:=f j g;simpa using this⟩
def aab{w:rl}{a:aic}{v:AS}(h:w.cell? a=an v):a.spot=ns:=by
 obtain⟨b,o,s⟩:=a;cases s with
 |none=>rfl
 |some x=>simp[aiu] at h;split at h<;>cases h
end
end
end Go.Proofs.Q0.aM
namespace Go.Proofs.Q0.Open
open Go.Proofs.Tryz
variable{w1 wg w:rl}{v x x':AS}{h':Array Obj}{t:SL}{P:OF}
section
open Go.Conc (G stepG_seq stepG_region stepG_region_end stepG_cond stepG_skip stepG_block stepG_loop stepG_exit stepG_inLoop stepG_inBlock)
open aM
variable[aG]
section
variable{K:aI}{φ:Ren}{Q:BE->Array Obj->Prop}{b:ahY}{Z Z':Act}{k:List Item}{cs:List ahY}{wg w:rl}
def aac(s:HR K φ wg.heap h'){v':AS}(u:VR φ v v')(hr:(ajk 25 v).run Gz.prog wg=.ok x w1):
  w1=wg/\∃f g x0 j l m n,v=.pointer (an f)/\v'=.pointer (an g)/\AR φ f g/\x=.agg #[x0,j,l,m,n]/\wg.cell? f=an x0/\wg.cell? (f.add 1)=an j/\wg.cell? (f.add 2)=an l/\wg.cell? (f.add 3)=an m/\wg.cell? (f.add 4)=an n:=by
 cases u with
 |@ptr f g q=>
  have e:(ajk 25 (.pointer (an f))).run Gz.prog wg=((loadCells f 5).run Gz.prog wg).andThen λxs w=>.ok (.agg xs) w:=by simp[go_sem,ajk,loadVar,Instr.sureAddr]
  rw[e] at hr;cases p:(loadCells f 5).run Gz.prog wg with
  |halt y z=>rw[p] at hr;cases hr
  |ok xs z=>
   rw[p] at hr;obtain⟨rfl,A,c⟩:=Ml s q p;cases hr;obtain⟨xs⟩:=xs
   match xs,A with
   |[x0,j,l,m,n],_=>refine⟨rfl,f,g,x0,j,l,m,n,rfl,rfl,q,rfl,?_,c 1 aa,c 2 aa,c 3 aa,c 4 aa⟩;have:=c 0 aa;simpa[Addr.add] using this
 |_=>exact absurd hr (λh=>by simp[ajk,Instr.sureAddr,go_sem] at h)
def tG(op:BinOp)(t:SL)(x y:Operand)(a b:AS):Sem AS:=(eqGuard op t x y a b).bind λ_=>binOp op t a b
def FI{p:Operand}(g:VR φ x x')(hr:(tG .quo 3 p (eD 8) x (U O 8)).run Gz.prog wg=.ok v w1):w1=wg/\∃W,x=U O W/\v=U O (EV.wrap (W.tdiv 8)):=by
 have e:(tG .quo 3 p (eD 8) x (U O 8)).run Gz.prog wg=(binOp .quo 3 x (U O 8)).run Gz.prog wg:=aC;rw[e] at hr;cases g with
 |int c n=>
  by_cases f:c=.i64
  ·subst f;cases hr;exact⟨rfl,n,rfl,rfl⟩
  ·have:(binOp .quo 3 (.int c n) (U O 8)).run Gz.prog wg=.halt (.stuck "BinOp: operands of different kinds") wg:=by unfold binOp;simp[f,go_sem,stuck]
   rw[this] at hr;cases hr
 |_=>exact absurd hr (λh=>by cases h)
def ado(c:VR φ x x')(hr:(Op.unary .not x).run Gz.prog wg=.ok v w1):w1=wg/\∃I,x=.bool I:=by cases c with|bool t=>cases hr;exact⟨rfl,t,rfl⟩|_=>exact absurd hr (λh=>by cases h)
def QT{e:SL}(f:Gz.prog.underlying t=an (.slice e))(g:VR φ x x'){ty:SL}(hr:(Builtin.len_ #[t] ty #[x]).run Gz.prog wg=.ok v w1):w1=wg/\∃p n c,x=.slice p n c/\v=U O n:=by have hu:∀w,(aiy t).run Gz.prog w=.ok (.slice e) w:=λw=>aky f w;unfold Builtin.len_ at hr;simp only[List.getElem?_toArray,List.getElem?_cons_zero] at hr;rw[aih,hu] at hr;cases g with|dU n c=>cases hr;exact⟨rfl,ns,n,c,rfl,rfl⟩|slice n c h=>cases hr;exact⟨rfl,_,n,c,rfl,rfl⟩|empty=>cases hr;exact⟨rfl,_,0,0,rfl,rfl⟩|_=>exact absurd hr (λh=>by cases h)
def aad {w:rl} : ∀ (l : List AS) (s e : ByteArray) (w1 : rl), (forIn l s (fun c r => do
      let .int .u8 n := c | stuck "bytesToString: byte expected"
      pure (ForInStep.yield (r.push (UInt8.ofNat n.toNat)))) : Sem ByteArray).run P w = .ok e w1 → w1 = w ∧ e.size = s.size + l.length ∧ ∀ c ∈ l, ∃ n, c = .int .u8 n := by
  intro l
  induction l with
  | nil => intro s e w1 h; simp only [List.forIn_nil] at h; cases h; exact ⟨rfl, rfl, by simp⟩
  | cons c l f =>
    intro s e w1 h;rw [List.forIn_cons, aih] at h;cases c with
    | int g n =>
      cases g with
      | u8 =>
        obtain ⟨h1, j, m⟩ := f (s.push (UInt8.ofNat n.toNat)) e w1 h;refine ⟨h1, by rw [j, ByteArray.size_push, List.length_cons]; omega, fun c hc => ?_⟩;rcases mA.1 hc with rfl | hc
        ·simp
        ·simp_all
      | _ => cases h
    | _ => cases h
def abK(D:HR K φ wg.heap h'){p:Option aic}{m c:Nat}(E:VR φ (.slice p m c) x')(hr:(convert 22 9 (.slice p m c)).run Gz.prog wg=.ok v w1):
  w1=wg/\∃s,v=.string s/\((p=ns/\s.size=0)\/∃e,p=an e/\s.size=m/\∀j,j<m->∃n,wg.cell? (e.add j)=an (.int .u8 n)):=by
 have h:∀w,(aiy 22).run Gz.prog w=.ok (.slice 5) w:=λw=>(Gz.EO _ _).trans (runUnderlying22 w);have l:∀w,(aiy 9).run Gz.prog w=.ok .string w:=λw=>(Gz.EO _ _).trans (runUnderlying9 w);have f:∀w,(aiy 5).run Gz.prog w=.ok (.int .u8) w:=λw=>(Gz.EO _ _).trans (runUnderlying5 w);unfold convert at hr;rw[aih,h] at hr;simp only[Result.andThen] at hr;rw[aih,l] at hr;simp only[Result.andThen] at hr;cases E with
 |dU n c=>rw[aih,f] at hr;cases hr;exact⟨rfl,.empty,rfl,.inl ⟨rfl,rfl⟩⟩
 |@empty e u=>rw[aih,f] at hr;cases hr;exact⟨rfl,.empty,rfl,.inr ⟨e,rfl,rfl,λj z=>absurd z (gX _)⟩⟩
 |@slice e u _ _ G=>
  rw[aih,f] at hr;simp only[Result.andThen] at hr;unfold Conv.bytesToString at hr;simp only at hr;rw[aih] at hr;cases A:(loadCells e m).run Gz.prog wg with
  |halt y C=>rw[A] at hr;cases hr
  |ok xs C=>
   rw[A] at hr;obtain⟨rfl,H,g⟩:=Ml D G A;simp only[Result.andThen] at hr;rw[aih,<-Array.forIn_toList] at hr;generalize hq:(aiQ Gz.prog (forIn xs.toList ByteArray.empty _) C)=q at hr;cases q with
   |halt y w3=>cases hr
   |ok s w3=>
    cases hr;obtain⟨h1,I,J⟩:=aad _ _ _ _ hq;refine⟨h1,s,rfl,.inr ⟨e,rfl,?_,λj z=>?_⟩⟩
    ·rw[I];simp[H]
    ·have B:j<xs.size:=by omega
     obtain⟨y,hm⟩:=J (xs[j]) au;exact⟨y,by rw[g j z,aik B,hm]⟩
end
end
section
open Go.Conc (G stepG_seq stepG_region stepG_region_end stepG_cond stepG_skip stepG_block stepG_loop stepG_exit stepG_inLoop stepG_inBlock stepG_value stepG_none)
open aM
variable[aG]
def aae(x0 c e f g:AS)(w:rl):
  (aji 25 (.agg #[x0,c,e,f,g]) 0).run Gz.prog w=.ok x0 w/\(aji 25 (.agg #[x0,c,e,f,g]) 1).run Gz.prog w=.ok c w/\(aji 25 (.agg #[x0,c,e,f,g]) 2).run Gz.prog w=.ok e w/\
  (aji 25 (.agg #[x0,c,e,f,g]) 3).run Gz.prog w=.ok f w/\(aji 25 (.agg #[x0,c,e,f,g]) 4).run Gz.prog w=.ok g w:=by
 refine⟨?_,?_,?_,?_,?_⟩<;>kernel_rfl
def QU{φ:Ren}{y:AS}(h:VR φ x y):aB φ #[x] #[y]:=⟨rfl,λi a b c e=>by
 cases i with
 |zero=>simp at c e;subst c;subst e;exact h
 |succ i=>simp at c⟩
def aaf{K:aI}{φ:Ren}{Q:BE->Array Obj->Prop}{b:ahY}{a:Act}{k:List Item}{cs:List ahY}(hG:K.G=Gz.prog.globals.size)(f:b.kind≠.early)(g:HR K φ wg.heap w.heap)(c:bO Gz.prog Q (G (b.at a (.code nX::k)) cs) wg):False:=by obtain⟨_,c⟩:=c.to (pW λ_ e=>by cases e) stepG_seq;obtain⟨_,c⟩:=c.to (pW λ_ e=>by cases e) stepG_region;obtain⟨v,w1,j,_⟩:=c.inv f (o:=aR (an 5) 3 (.binOp .add 3 (.const (.bool AT)) (eD 0) 3)) (s:=tG .add 3 (.const (.bool AT)) (eD 0) (.bool AT) (U O 0)) rfl rfl rfl (F4 hG _ _ _ _ (λh=>by simp at h) (.bool AT) (.int _ _)) g;cases j
def EK{K:aI}{φ:Ren}(c:∀w,(isAgg t).run Gz.prog w=.ok Ba w)(f:HR K φ wg.heap h'){p p':aic}(g:AR φ p p')(hr:(ajk t (.pointer (an p))).run Gz.prog wg=.ok x w1):w1=wg/\wg.cell? p=an x:=by
 have e:(ajk t (.pointer (an p))).run Gz.prog wg=(load p).run Gz.prog wg:=by show(isAgg t>>=λq=>if q=AT then _ else load p).run Gz.prog wg=_;rw[aih,c];rfl
 rw[e] at hr;exact PQ f g hr
def RN(w:rl):(isAgg 120).run Gz.prog w=.ok Ba w:=au
def F7:Gz.prog.underlying 234=an (.pointer 260):=au
def abL{d:TypeDesc}{α:Type}{f:TypeDesc->Sem α}(h:P.underlying t=an d):(aiy t>>=f).run P w=(f d).run P w:=by have e:(aiy t>>=f).run P w=((match P.underlying t with|some d=>pure d|none=>stuck "no such type" :Sem TypeDesc).bind f).run P w:=rfl;rw[e,h];rfl
def Ya{φ:Ren}(g:VR φ x x')(hr:(aiL x 120 234 Ba).run Gz.prog w=.ok v w1):w1=w/\x=.iface 234 v:=by
 have e:(aiL x 120 234 Ba).run Gz.prog w=(match TypeDesc.pointer 260,x with
   |.interface _,.nilIface=>(runtimePanic (.typeAssertion ns ns 234 ""):Sem AS)
   |.interface c,.iface t _=>typeInfo t>>=λj=>match Instr.missingMethod c j.methods with
    |none=>pure x
    |some m=>runtimePanic (.typeAssertion ns (an t) 234 m)
   |_,.nilIface=>runtimePanic (.typeAssertion (an 120) ns 234 "")
   |_,.iface t v=>if t=234 then pure v else runtimePanic (.typeAssertion (an 120) (an t) 234 "")
   |_,_=>stuck "TypeAssert: interface value expected").run Gz.prog w:=by
  exact abL F7
 rw[e] at hr
 have f:∀{u:RuntimeError},(runtimePanic u:Sem AS).run Gz.prog w=.ok v w1->False:=λ{u} h=>by obtain⟨_,_,l,_⟩:=eG (P:=Gz.prog) (α:=AS) u w;rw[l] at h;cases h
 cases g with
 |iface t h p=>
  by_cases n:t=234
  ·simp_all
  ·simp_all
 |nilIface=>exact(f hr).elim
 |_=>cases hr
structure EF(φ:Ren)(wg:rl)(g:Nat)(a:aic):Prop where
 cell:wg.cell? ⟨g,0,ns⟩=an (.iface 234 (.pointer (an a)))
 cl:ah.cl a.block
 ky:∃c,φ a.block=an c
def SY{K:aI}{φ:Ren}{g:Nat}(e:nT Gz.prog)(f:VR φ x x')(hc:wg.cell? ⟨g,0,ns⟩=an x)(hr:(aiL x 120 234 Ba).run Gz.prog w=.ok v w1):
  w1=w/\∃a,v=.pointer (an a)/\EF φ wg g a:=by
 obtain⟨j,rfl⟩:=Ya f hr;refine⟨j,?_⟩;cases f with
 |iface t h p=>
  rcases p with p|⟨a,rfl,p⟩|p
  ·obtain⟨n,c⟩:=e.1 _ p;cases n with|zero=>cases c|succ n=>unfold flat at c;rw[F7] at c;cases c
  ·cases h with|ptr h=>exact⟨a,rfl,hc,p,_,h.block⟩
  ·exact absurd F7 (e.2 _ p.1 _)
structure CF(K:aI)(φ:Ren)(wg w:rl)(ca CD:aic)(W H Qq:Int)(I:Bool)(sa:Option aic)(n c:Nat):Prop where
 ar:AR φ ca CD
 cW:wg.cell? ca=an (U O W)
 cH:wg.cell? (ca.add 1)=an (U O H)
 cI:wg.cell? (ca.add 2)=an (.bool I)
 cQ:wg.cell? (ca.add 3)=an (U O Qq)
 cS:wg.cell? (ca.add 4)=an (.slice sa n c)
 rW:w.cell? CD=an (U O W)
 rH:w.cell? (CD.add 1)=an (U O H)
 rI:w.cell? (CD.add 2)=an (.bool I)
 rQ:w.cell? (CD.add 3)=an (U O Qq)
 rS:∃y,w.cell? (CD.add 4)=an y/\VR φ (.slice sa n c) y
def gl(W H e:Int)(I:Bool)(sa:Option aic)(n c i:Nat):List (Nat×AS):=[(13,.agg #[U O W,U O H,.bool I,U O e,.slice sa n c]),(15,.slice sa n c),(16,U O n),(21,U O (EV.wrap (W.tdiv 8))),(24,.bool I),(22,U O i)]
section
variable{K:aI}{φ:Ren}{Q:BE->Array Obj->Prop}{b:ahY}{Z Z' a:Act}{k it U7:List Item}{cs:List ahY}{wg w:rl}{x0:BE×rl}{F:List (Nat×AS)}{ops:Array Oper}{i d:Nat}{r:List Nat}{t:SL}{o:Op}{w1:rl}
structure At(Q:BE->Array Obj->Prop)(b:ahY)(cs:List ahY)(x0:BE×rl)(Z:Act)(F:List (Nat×AS))(it:List Item)(a:Act)(wg:rl):Prop where
 z:Sz Z a
 d:a.defers=Z.defers
 k:∀e,kept e=AT->a.tmps[e]?=Z.tmps[e]?
 f:∀e v,F.lookup e=an v->a.tmps[e]?=an v
 w:bO Gz.prog Q (G (b.at a it) cs) wg
 n:fK Gz.prog (G (b.at a it) cs,wg) x0
def At.to{x:Item}{es:Array Event}(h:At Q b cs x0 Z F (x::it) a wg)(f:stepG Gz.prog AT (G (b.at a (x::it)) cs) wg=.go (G (b.at a U7) cs) w1 es)(g:∀c,x≠.code (.refuse c):=by intro _ e;cases e):At Q b cs x0 Z F U7 a w1:=
 have⟨n,w⟩:=h.w.to (pW g) f
 {h with w:=w,n:=h.n.next n}
def At.rg(l:List Nat){n:Nat}(h:At Q b cs x0 Z F (.code (.region n ops Ba)::it) a wg)(c:List.range ops.size=l:=by kernel_rfl):At Q b cs x0 Z F (.inRegion ops l::it) a wg:=c▸h.to stepG_region
def At.sub(h:At Q b cs x0 Z F it a wg)(c:List (Nat×AS))(hF:∀p∈c,F.lookup p.1=an p.2:=by repeat(first|exact List.forall_mem_nil _|refine List.forall_mem_cons.2 ⟨rfl,?_⟩)):At Q b cs x0 Z c it a wg:=
 {h with f:=λe v g=>h.f e v (by
  induction c with
  |nil=>cases g
  |cons p c j=>
   rw[List.lookup_cons] at g;split at g
   ·simp_all
   ·exact j (λq hq=>hF q (.tail _ hq)) g)}
def At.tm(h:At Q b cs x0 Z F it a wg)(hi:(F.lookup i).isSome=AT):a.tmps[i]?=F.lookup i:=by obtain⟨v,c⟩:=pN.1 hi;rw[h.f _ _ c,c]
def At.ev(h:At Q b cs x0 Z F it a wg)(hi:(F.lookup i).isSome=AT):a.eval (.tmp i)=(F.lookup i).getD undef:=by exact KP
def At.put{z:List Item}(h:At Q b cs x0 Z F z a wg)(hd:(!kept d&&decide (d<41))=AT)(hw:bO Gz.prog Q (G (b.at (a.put (an d) v) it) cs) w1)(c:fK Gz.prog (G (b.at (a.put (an d) v) it) cs,w1) x0):∃a',At Q b cs x0 Z ((d,v)::F) it a' w1:=by
 simp only[Bool.and_eq_true,Bool.not_eq_true',decide_eq_true_eq] at hd;refine⟨a.put (an d) v,h.z.put,h.d,λe he=>(nG λx=>?_).trans (h.k e he),λe u hu=>?_,hw,c⟩
 ·simp_all
 ·exact KN
def At.kC(v:AS)(w1:rl)(h:At Q b cs x0 Z F (.inRegion ops (i::r)::it) a wg)(c:b.kind≠.early)(f:ops[i]?=an (aR (an d) t o):=by exact rfl)(hd:(!kept d&&decide (d<41))=AT:=by decide)
  (hr:(aie a.eval (aR (an d) t o)).run Gz.prog wg=.ok (.value v) w1):∃a',At Q b cs x0 Z ((d,v)::F) (.inRegion ops r::it) a' w1:=
 have⟨n,w⟩:=h.w.to (pW λ_ e=>by cases e) (stepG_value f rfl c hr)
 h.put hd w (h.n.next n)
def At.op(v:AS)(h:At Q b cs x0 Z F (.inRegion ops (i::r)::it) a wg)(c:b.kind≠.early)(e:ops[i]?=an (aR (an d) t o):=by exact rfl)(hd:(!kept d&&decide (d<41))=AT:=by decide)
  (hr:(aie a.eval (aR (an d) t o)).run Gz.prog wg=.ok (.value v) wg:=by(simp only[execOp,aR];simp[go_sem,eD,h.tm,List.lookup,gl, *])):∃a',At Q b cs x0 Z ((d,v)::F) (.inRegion ops r::it) a' wg:=h.kC v wg c e hd hr
def At.nil(w1:rl)(h:At Q b cs x0 Z F (.inRegion ops (i::r)::it) a wg)(c:b.kind≠.early)(e:ops[i]?=an (aR ns t o):=by exact rfl)(hr:(aie a.eval (aR ns t o)).run Gz.prog wg=.ok .skip w1):At Q b cs x0 Z F (.inRegion ops r::it) a w1:=
 h.to (stepG_none e rfl c hr)
def At.inv{s f:Sem AS}(h:At Q b cs x0 Z F (.inRegion ops (i::r)::it) a wg)(c:b.kind≠.early)(g:HR K φ wg.heap w.heap)(j:SR Gz.prog K VR φ s f)(he:aie a.eval (aR (an d) t o)=s.bind λv=>.pure (.value v))(l:ops[i]?=an (aR (an d) t o):=by exact rfl)
  (hd:(!kept d&&decide (d<41))=AT:=by decide):∃v w1,s.run Gz.prog wg=.ok v w1/\(w1=wg->∃a',At Q b cs x0 Z ((d,v)::F) (.inRegion ops r::it) a' wg):=by
 obtain⟨v,w1,m,n,hw⟩:=h.w.inv c l rfl he j g;exact⟨v,w1,m,λe=>by subst e;exact h.put hd hw (h.n.next n)⟩
def At.inv1{s g:Sem AS}{u:AS}(x:Nat)(h:At Q b cs x0 Z F (.inRegion ops (i::r)::it) a wg)(c:b.kind≠.early)(j:HR K φ wg.heap w.heap)(l:SR Gz.prog K VR φ s g)(m:F.lookup x=an u:=by rfl)(n:ops[i]?=an (aR (an d) t o):=by exact rfl)
  (he:a.eval (.tmp x)=u->aie a.eval (aR (an d) t o)=s.bind λv=>.pure (.value v):=by(intro e;simp only[execOp,aR,e];rfl))(hd:(!kept d&&decide (d<41))=AT:=by decide):
  ∃v w1,s.run Gz.prog wg=.ok v w1/\(w1=wg->∃a',At Q b cs x0 Z ((d,v)::F) (.inRegion ops r::it) a' wg):=h.inv c j l (he (lU (h.f _ _ m))) n hd
def At.pD(u:Bool){x y c:Code}(h:At Q b cs x0 Z F (.code (.seq (.cond (.tmp i) x y) c)::it) a wg)(e:F.lookup i=an (.bool u):=by rfl):At Q b cs x0 Z F ((if u=AT then .code x else .code y)::.code c::it) a wg:=by have h:=(h.to stepG_seq).to (stepG_cond (t:=u) (lU (h.f _ _ e)));cases u<;>exact h
def At.yes{u:Bool}{c:Code}(h:At Q b cs x0 Z F (.code (.seq (.cond (.tmp i) .skip nX) c)::it) a wg)(hG:K.G=Gz.prog.globals.size)(e:b.kind≠.early)(f:HR K φ wg.heap w.heap)(g:F.lookup i=an (.bool u):=by rfl):u=AT/\At Q b cs x0 Z F (.code c::it) a wg:=by have h:=h.pD u g;cases u with|false=>exact(aaf hG e f h.w).elim|true=>exact⟨rfl,h.to ajo⟩
def RO{x:Nat}{d:Option Nat}(h:a.tmps[x]?=an v):aie a.eval (aR d 3 (.call {callee:=.builtin .len,args:=#[.tmp x],argTypes:=#[t]}))=(Builtin.len_ #[t] 3 #[v]).bind λv=>.pure (.value v):=by have e:=lU h;unfold aie;simp only[aR,resolve];simp[e,invoke];rfl
def adp(hG:K.G=Gz.prog.globals.size)(g:b.kind≠.early)(j:HR K φ wg.heap w.heap)(hz:Sz Z Z)(u:VR φ (Z.eval (.tmp 1)) (Z'.eval (.tmp 1)))(hv:gR φ)(L:ah.gl 1)(M:ah.gl 2)(z:cN Gz.prog)(A:nT Gz.prog)(hW:bO Gz.prog Q (G (b.at Z (.code ja::k)) cs) wg):
  ∃E p W H J I sa n c a,Z.eval (.tmp 1)=.pointer (an E)/\Z'.eval (.tmp 1)=.pointer (an p)/\CF K φ wg w E p W H J I sa n c/\1<=n/\n<=4/\(∃a1 a2,EF φ wg 1 a1/\EF φ wg 2 a2)/\
   At Q b cs (G (b.at Z (.code ja::k)) cs,wg) Z (gl W H J I sa n c 0) (.code (.seq (.block 50 (.loop gB)) (.seq (.region 64 gM Ba) (.seq (.block 51 (.loop gD)) dA)))::k) a wg:=by
 have h:At Q b cs (G (b.at Z (.code ja::k)) cs,wg) Z [] (.code ja::k) Z wg:=⟨hz,rfl,λ_ _=>rfl,λ_ _ h=>(by cases h),hW,.inl rfl⟩;replace h:=(h.to stepG_seq).rg [0,1,2,3,4,5,6,7,8,9,10,11,12,13,14,15,16,17];obtain⟨v,w1,l,h⟩:=h.inv g j (vA _ u) rfl;obtain⟨e,E,p,x0,N,R,S,x4,e1,e2,m,rfl,c0,c1,c2,c3,c4⟩:=aac j u l;obtain⟨a,h⟩:=h e;obtain⟨y0,q0,T,_⟩:=HR.cell (w:=wg) (w':=w) j m c0;obtain⟨y1,q1,V,_⟩:=HR.cell (w:=wg) (w':=w) j (m.add 1) c1;obtain⟨y2,q2,X,_⟩:=HR.cell (w:=wg) (w':=w) j (m.add 2) c2;obtain⟨y3,q3,r3,_⟩:=HR.cell (w:=wg) (w':=w) j (m.add 3) c3;obtain⟨y4,q4,r4,_⟩:=HR.cell (w:=wg) (w':=w) j (m.add 4) c4;obtain⟨f0,f1,f2,f3,f4⟩:=aae x0 N R S x4 wg;have q:∀{x y:AS},VR φ x y->_:=λ{x y}(r:VR φ x y)=>F4 (P:=Gz.prog) hG .quo 3 (.tmp 20) (eD 8) (λh=>by simp at h) r (.int .i64 8);obtain⟨a,h⟩:=h.op x4 g;obtain⟨a,h⟩:=h.op x0 g;obtain⟨v,w1,l,h⟩:=h.inv1 20 (s:=tG .quo 3 (.tmp 20) (eD 8) x0 (.int .i64 8)) g j (q T);obtain⟨e,W,rfl,rfl⟩:=FI T l;obtain⟨a,h⟩:=h e;obtain⟨a,h⟩:=h.op N g;obtain⟨v,w1,l,h⟩:=h.inv1 20 (s:=tG .quo 3 (.tmp 20) (eD 8) N (.int .i64 8)) g j (q V);obtain⟨e,H,rfl,rfl⟩:=FI V l;obtain⟨a,h⟩:=h e;obtain⟨a,h⟩:=h.op S g;obtain⟨v,w1,l,h⟩:=h.inv1 20 (s:=tG .quo 3 (.tmp 20) (eD 8) S (.int .i64 8)) g j (q r3);obtain⟨e,J,rfl,rfl⟩:=FI r3 l;obtain⟨a,h⟩:=h e;obtain⟨a,h⟩:=h.op R g;obtain⟨v,w1,l,h⟩:=h.inv1 24 (s:=Op.unary .not R) g j (Px .not X);obtain⟨e,I,rfl⟩:=ado X l;obtain⟨a,h⟩:=h e;obtain⟨v,w1,l,h⟩:=h.inv g j (FZ _ _ (QU r4)) (RO (h.f _ _ rfl));obtain⟨e,sa,n,c,rfl,rfl⟩:=QT ((Gz.under _).trans underlying23) r4 l;obtain⟨a,h⟩:=h e;obtain⟨a,h⟩:=h.op (.bool (decide ((n:Int)<5))) g;obtain⟨a,h⟩:=h.op (.bool (decide (0<(n:Int)))) g;obtain⟨a,h⟩:=h.op (.int .i64 0) g;have l1:AR φ ⟨1,0,ns⟩ ⟨1,0,ns⟩:=⟨hv _ L,rfl,rfl⟩;have l2:AR φ ⟨2,0,ns⟩ ⟨2,0,ns⟩:=⟨hv _ M,rfl,rfl⟩;obtain⟨v1,w1,l,h⟩:=h.inv g j (vA 120 (.ptr l1)) rfl;obtain⟨e,B⟩:=EK RN j l1 l;obtain⟨a,h⟩:=h e;obtain⟨_,_,C,_⟩:=HR.cell (w:=wg) (w':=w) j l1 B;obtain⟨v,w1,l,h⟩:=h.inv1 17 g j (DG z 120 234 Ba C);obtain⟨e,a1,rfl,xJ⟩:=SY (K:=K) A C B l;obtain⟨a,h⟩:=h e;obtain⟨v2,w1,l,h⟩:=h.inv g j (vA 120 (.ptr l2)) rfl;obtain⟨e,D⟩:=EK RN j l2 l;obtain⟨a,h⟩:=h e;obtain⟨_,_,C,_⟩:=HR.cell (w:=wg) (w':=w) j l2 D;obtain⟨v,w1,l,h⟩:=h.inv1 19 g j (DG z 120 234 Ba C);obtain⟨e,a2,rfl,xK⟩:=SY (K:=K) A C D l;obtain⟨a,h⟩:=h e;obtain⟨h5,h⟩:=(h.to Kx).yes hG g j;obtain⟨h1,h⟩:=h.yes hG g j;have h5:=of_decide_eq_true h5;have h1:=of_decide_eq_true h1;exact⟨E,p,W,H,J,I,sa,n,c,a,e1,e2,⟨m,c0,c1,c2,c3,c4,by cases T;exact q0,by cases V;exact q1,by cases X;exact q2,by cases r3;exact q3,y4,q4,r4⟩,aa,aa,⟨_,_,xJ,xK⟩,h.sub _⟩
end
end
section
open Go.Conc (G stepG_seq stepG_region stepG_region_end stepG_cond stepG_skip stepG_block stepG_loop stepG_exit stepG_inLoop stepG_inBlock stepG_value)
open aM
variable[aG]
def Wb{α:Type}(k:IntKind)(x y:Int)(c:BoundsCode):fB P (boundsPanic k x y c:Sem α):=by
 unfold boundsPanic;split
 ·exact fE (λ_=>eG _) (pT zu λ_=>kG)
 ·exact fE (λ_=>eG _) kG
def agn(wg:rl)(sa:aic)(i:Nat):Prop:=∃p m c,wg.cell? (sa.add i)=an (.slice p m c)/\(m:Int)<9223372036854775808/\((p=ns/\m=0)\/∃e,p=an e/\∀j,j<m->∃x,wg.cell? (e.add j)=an (.int .u8 x))/\m<=c/\(c:Int)<9223372036854775808
section
variable{K:aI}{φ:Ren}{Q:BE->Array Obj->Prop}{b:ahY}{Z a:Act}{k:List Item}{cs:List ahY}{wg w:rl}
def adq{W H Qq:Int}{I:Bool}{sa:Option aic}{n c:Nat}{R:Code}{y:AS}{x0:BE×rl}(hG:K.G=Gz.prog.globals.size)(g:b.kind≠.early)(q:HR K φ wg.heap w.heap)(ru:n<=4)(hS:VR φ (.slice sa n c) y):
  ∀r i,i+r=n->∀a,At Q b cs x0 Z (gl W H Qq I sa n c i) (.code gB::.inLoop gB::.inBlock 50::.code R::k) a wg->
   (∀j,i<=j->j<n->∃l,sa=an l/\agn wg l j)/\∃a',At Q b cs x0 Z (gl W H Qq I sa n c n) (.code R::k) a' wg:=by
 intro r
 induction r with
 |zero=>intro i hi a h;obtain rfl:i=n:=aa;obtain⟨a,h⟩:=((h.to stepG_seq).rg [0]).op (.bool Ba) g;exact⟨λj h1 M=>absurd M (pP.2 h1),a,(((h.to Kx).pD Ba).to (stepG_exit rfl)).sub _⟩
 |succ r ih=>
  intro i hi a h;have N:i<n:=aa;have D:(i:Int)<(n:Int):=aa;obtain⟨a,h⟩:=((h.to stepG_seq).rg [0]).op (.bool AT) g;replace h:=((((h.to Kx).pD AT).to ajo).to stepG_seq).rg [0,1,2,3,4,5,6,7,8,9,10,11];cases sa with
  |none=>
   exfalso;obtain⟨v,S,hr,_⟩:=h.inv (s:=Instr.indexAt 23 (.slice ns n c) (U O i)) g q (Nv _ hS (.int _ _)) (by simp only[aie,aR];rw[h.ev (i:=15) rfl,h.ev (i:=22) rfl];rfl) rfl
   have e:(Instr.indexAt 23 (.slice ns n c) (U O i)).run Gz.prog wg=(boundsPanic .i64 (i:Int) 0 .index:Sem AS).run Gz.prog wg:=by have h0:(0:Int)<=(i:Int):=aa;simp[Instr.indexAt,asIntOf,go_sem,N,D,h0]
   obtain⟨x,w3,J,_⟩:=Wb (P:=Gz.prog) (α:=AS) .i64 (i:Int) 0 .index wg;rw[e,J] at hr;cases hr
  |some l=>
   obtain⟨a,h⟩:=h.op (.pointer (an (l.add i))) g;obtain⟨u,rfl,z⟩:∃u,y=.slice (an u) n c/\AR φ l u:=by cases hS with|slice _ _ h=>exact⟨_,rfl,h⟩|empty=>omega
   obtain⟨v,S,hr,h⟩:=h.inv1 26 g q (vA 22 (.ptr (z.add i)));obtain⟨e,J⟩:=EK (λw=>(Gz.Rh _ _).trans (isAgg22 w)) q (z.add i) hr;obtain⟨a,h⟩:=h e;obtain⟨yv,_,L,_⟩:=HR.cell (w:=wg) (w':=w) q (z.add i) J;obtain⟨v2,S,hr,h⟩:=h.inv g q (FZ _ _ (QU L)) (RO (h.f _ _ rfl));obtain⟨e,p,m,C,rfl,rfl⟩:=QT ((Gz.under _).trans underlying22) L hr;obtain⟨a,h⟩:=h e;obtain⟨v2,S,hr,h⟩:=h.inv1 27 g q (NA 22 9 aj L);obtain⟨e,st,rfl,T⟩:=abK q L hr;obtain⟨a,h⟩:=h e;obtain⟨a,h⟩:=h.op (U O st.size) g;obtain⟨a,h⟩:=h.op (.bool ((m:Int)==(st.size:Int))) g;obtain⟨a,h⟩:=h.op (U O (EV.wrap (m:Int))) g;obtain⟨a,h⟩:=h.op (.bool (EV.wrap (m:Int)==(m:Int))) g;obtain⟨a,h⟩:=h.kC (U O C) wg g (hr:=by simp only[aie,aR];simp[go_sem,h.tm,aiZ,Builtin.cap_,aky ((Gz.under _).trans underlying22),aky underlying22]);obtain⟨a,h⟩:=h.op (.bool (decide ((m:Int)<=(C:Int)))) g;obtain⟨a,h⟩:=h.op (U O (EV.wrap (C:Int))) g;obtain⟨a,h⟩:=h.op (.bool (EV.wrap (C:Int)==(C:Int))) g;obtain⟨hm,h⟩:=(h.to Kx).yes hG g q;obtain⟨A,h⟩:=h.yes hG g q;obtain⟨E,h⟩:=h.yes hG g q;obtain⟨B,h⟩:=h.yes hG g q;have hm:=beq_iff_eq.1 hm;have A:=beq_iff_eq.1 A;have E:=of_decide_eq_true E;have B:=beq_iff_eq.1 B;rw[IntKind.wrap_i64] at A B;have hw:EV.wrap ((i:Int)+1)=(i:Int)+1:=yH;obtain⟨a,h⟩:=(h.rg [0,1]).op (U O ((i:Int)+1)) g;obtain⟨a,h⟩:=h.op (U O ((i:Int)+1)) g;obtain⟨h1,M⟩:=ih (i+1) aa a (((h.to Kx).to stepG_inLoop).sub _);refine⟨λj hj V=>?_,M⟩;by_cases e:j=i
   ·subst e;refine⟨l,rfl,p,m,C,J,aa,?_,aa,aa⟩;rcases T with⟨X,e2⟩|⟨pa,X,_,e2⟩
    ·exact .inl ⟨X,aa⟩
    ·exact .inr ⟨pa,X,e2⟩
   ·exact h1 j aa V
end
end
end Go.Proofs.Q0.Open
namespace Go.Proofs.Q0.aM
section
open Go.Conc (G)
theorem OM(J:ah)(P:OF):@OF.two (ah.exact J P.funcs) P=P:=rfl
theorem HR.RQ[ah]{K:aI}{φ:Ren}{h g h':Array Obj}(H:HR K φ h h')(d:h.size<=g.size)(e:∀b c,φ b=an c->g[b]?=h[b]?):HR K φ g h':=
 ⟨H.inj,λb c a=>let⟨o,o',h1,f,i⟩:=H.obj b c a;⟨o,o',(e b c a).trans h1,f,i⟩,λb a=>⟨cC (H.below b a).1 d,(H.below b a).2⟩,H.low,aQ H.fX.1 d,H.fX.2⟩
theorem HR.link[ah]{K:aI}{φ:Ren}{h h':Array Obj}(H:HR K φ h h'){b c:Nat}{o o':Obj}(k:h[b]?=an o)(hc:h'[c]?=an o')(t:φ b=ns)(hi:∀x,φ x≠an c)(hr:¬K.ro b)(l:¬K.tok b)(g:K.strict=AT->Obj.loose o)(j:b<K.G<->c<K.G)
  (m:OR (φ.add b c) o o'):Ren.le φ (φ.add b c)/\HR K (φ.add b c) h h':=by
 have hle:Ren.le φ (φ.add b c):=λx y f=>by
  unfold Ren.add;split
  ·simp_all
  ·exact f
 have a:∀x y,φ.add b c x=an y->(x=b/\y=c)\/φ x=an y:=λx y f=>by
  unfold Ren.add at f;split at f
  ·simp_all
  ·simp_all
 refine⟨hle,λx y d f n=>?_,λx y f=>?_,H.below,λx y f=>?_,H.fX⟩
 ·rcases a x d f with⟨rfl,rfl⟩|h1<;>rcases a y _ n with⟨rfl,e⟩|i
  ·omega
  ·simp_all
  ·simp_all
  ·exact H.inj _ _ _ h1 i
 ·rcases a x y f with⟨rfl,rfl⟩|h1
  ·exact⟨o,o',k,hc,.own hr l m g⟩
  ·obtain⟨p,q,i,r,s⟩:=H.obj _ _ h1;exact⟨p,q,i,r,s.mono hle⟩
 ·rcases a x y f with⟨rfl,rfl⟩|h1
  ·omega
  ·exact H.low _ _ h1
section
variable{I J:ah}{P:OF}
structure U8(J:ah)(P:OF)(Kc:aI)(jn φ:Ren)(f:ajH)(args:Array AS)(wc:rl)(y:BE×rl)(v vm:AS)(hM:Array Obj)(n1:Nat):Prop where
 old:∀b,b<wc.heap.size->Kc.ro b\/Kc.tok b
 new:∀b,wc.heap.size<=b->¬Kc.ro b/\¬Kc.tok b
 strict:Kc.strict=AT
 U9:∀b c,jn b=an c->b<wc.heap.size
 nx:fK P y (G (aid P f args .normal) [c0 P],wc)
 lv:Lv P y.1
 back:jl P (λu _=>u=v) y.1 y.2.heap
 qO:∃R,bO P R (G (aid P f args .normal) [c0 P]) wc
 rel:@HR J Kc φ y.2.heap hM
 val:@VR J φ v vm
 le:Ren.le jn φ
 fresh:∀b c,φ b=an c->jn b=an c\/(wc.heap.size<=b/\n1<=c)
theorem Yb(t:ah.Le J I){K Kc:aI}(E:@dz (ah.exact J P.funcs) P)(hC:@ef (ah.exact J P.funcs) P)(hz:@cN (ah.exact J P.funcs) P)(hG:Kc.G=P.globals.size)(hF:@dX (ah.exact J P.funcs) P Kc)
  {jn φ w:Ren}{f:ajH}{args:Array AS}{wc j:rl}{y:BE×rl}{v X:AS}{F:Array Obj}{n1:Nat}(hr:U8 J P Kc jn φ f args wc y v X F n1)
  (H:Kc.G=K.G)(L:K.G<=wc.heap.size)(hf:J.ok f)(q:@aB (ah.exact J P.funcs) (Ren.fS jn) args args)(hH:@HR (ah.exact J P.funcs) Kc (Ren.fS jn) wc.heap j.heap)(hv:@gR (ah.exact J P.funcs) (Ren.fS jn))
  (M:@HR I K w j.heap F)(z:Ren.le jn w)(dg:wc.heap.size<=j.heap.size)(A:∀b d,w b=an d->∀a,wc.heap.size<=a->φ a≠an d)(i8:∀b,wc.heap.size<=b->¬J.cl b){b0:ahY}{B0:List ahY}(uk:0<B0.length):
  ∃i u o,fJ P (G (b0.finish u) B0,o) (G (aid P f args .normal) (b0::B0),j)/\Ren.le w i/\@HR I K i o.heap F/\@VR I i u X/\j.heap.size<=o.heap.size/\(∀b,b<j.heap.size->o.heap[b]?=j.heap[b]?)/\
   ∀b c,i b=an c->w b=an c\/(j.heap.size<=b/\∃a,wc.heap.size<=a/\φ a=an c):=by
 obtain⟨R,hW⟩:=hr.qO
 have hD:@dJ (ah.exact J P.funcs) P Kc (b0::B0) (Ren.fS jn) (G (aid P f args .normal) [c0 P]) wc (G (aid P f args .normal) (b0::B0)) j:=by have N:=@vO (ah.exact J P.funcs) P (Ren.fS jn) E f hf args args q;exact⟨_,_,[],[],rfl,rfl,N,@iC.nil (ah.exact J P.funcs) P _,hH,hv,rfl⟩
 obtain⟨Q,r,s,h1,Z,h3,h4⟩:=@replay (ah.exact J P.funcs) P Kc R (OM J P) (λ_ _ x=>x) E hC hz hG hF (b0::B0) av y _ hr.nx _ _ _ hD hW;obtain⟨n,v0,u,o,d,h5,h6,h7,h8,S,_⟩:=@OA (ah.exact J P.funcs) P Kc E b0 B0 Q y.1 y.2 r s _ Z hr.lv hr.back AT;subst h6;have S:=@gw.h (ah.exact J P.funcs) _ _ _ _ _ _ S;have k:=@iu.trans (ah.exact J P.funcs) _ _ _ _ _ _ _ _ _ h3 S h4
 have T:∀a b,Ren.fS jn a=an b->a=b/\a<wc.heap.size:=λa b g=>by obtain⟨e,d,hd⟩:=Ren.td g;exact⟨e.symm,hr.U9 _ _ hd⟩
 have l:∀b,b<j.heap.size->o.heap[b]?=j.heap[b]?:=λb hb=>k.apart b hb λa B=>hr.old a (T a b B).2
 have C:∀a b,wc.heap.size<=a->n a=an b->j.heap.size<=b:=λa b B g=>by
  rcases k.fresh a b g with h|h
  ·grind
  ·exact h.2
 have hold:∀a b,a<wc.heap.size->n a=an b->a=b/\∃d,jn a=an d:=λa b B g=>by
  rcases k.fresh a b g with h|h
  ·obtain⟨e,d,hd⟩:=Ren.td h;exact⟨e.symm,d,hd⟩
  ·grind
 have p:∀a b,n a=an b->J.cl a->J.cl b:=λa b g hc=>by grind
 obtain⟨i,k1,k2,k3,k4⟩:=HR.comp (n0:=wc.heap.size) t M hr.rel h8 p hr.new hr.strict H L (k.size) l (λa b c B g V=>by obtain⟨rfl,d,hd⟩:=hold a b B g;have:=hr.le _ _ hd;rw[V] at this;cases this;exact z _ _ hd) C A
 have W:=VR.inst t.toku (@VR.comp J P.funcs φ n i k3 p _ _ hr.val _ h7)
 have D:¬Lv P r:=by obtain⟨fr,gt,cs,cs',_,rfl,_⟩:=Z;exact Ry av
 have m:Nx P (G (b0.finish u) B0,o) (r,s):=⟨D,s.tape,d,λ_ _ _=>rfl,by rw[World.adm];exact h5⟩;refine⟨i,u,o,?_,k1,k2,W,k.size,l,k4⟩;rcases h1 with e|h1
 ·cases e;exact .one m
 ·exact .more m h1
end
end
end Go.Proofs.Q0.aM
namespace Go.Proofs.Q0.Open
open Go.Proofs.Tryz
section
open Go.Conc Go.RowKit aM
variable[aG]
def adr{w:rl}{n:Nat}(c:n<=1000):(Instr.makeSlice 56 (U O n) (U O n)).run Gz.prog w=.ok (.slice (an ⟨w.heap.size,0,ns⟩) n n) (w.alloc (.cells (aif n (.slice ns 0 0)) 68)):=by
 have h:=run_makeSlice (P:=Gz.prog) (w:=w) 56 68 Tryz.t68 (.slice ns 0 0) ((Gz.under _).trans underlying56) ((Gz.info _).trans aj) aj .i64 .i64 n n aa aa (by
  have:Tryz.t68.size=1:=aC;rw[this];omega) (by
  have:Tryz.t68.bytes=24:=aC;rw[this];omega) aa
 exact L2
def _root_.Go.Proofs.Q0.aM.fK.bB{P:OF}{z y x:BE×rl}(h:fK P y x)(k:Nx P z y):fJ P z x:=by
 rcases h with rfl|h
 ·exact .one k
 ·exact .more k h
def lg(B:dh)(c i:Nat):List (Nat×AS):=[(4,.pointer (an ⟨c+1,0,ns⟩)),(15,.slice (an B.sa) B.sn B.sc),(16,U O B.sn),(17,.slice (an ⟨c,0,ns⟩) B.sn B.sn),(21,U O (EV.wrap (B.W.tdiv 8))),(24,.bool B.I),(22,U O i)]
structure LM(h0:Array Obj)(B:dh)(u:Nat->AS)(i:Nat)(h:Array Obj):Prop where
 size:h0.size+2<=h.size
 old:∀b,b<h0.size->h[b]?=h0[b]?
 row:∃vs:Array AS,vs.size=B.sn/\h[h0.size]?=an (.cells vs 68)/\∀j,j<B.sn->vs[j]?=an (if j<i then u j else .slice ns 0 0)
 box:h[h0.size+1]?=an (.cells (B.full h0.size) 58)
section
variable{Q:BE->Array Obj->Prop}{b:ahY}{Z a:Act}{k:List Item}{cs:List ahY}{wg:rl}{B:dh}{x0:BE×rl}
def Y7(W H Q:Int)(I:Bool)(sa:aic)(sn sc C n m:Nat)(w:rl):(Instr.build 58 #[(0,.agg #[U O W,U O H,.bool I,U O Q,.slice (an sa) sn sc]),(1,.slice (an ⟨C,0,ns⟩) n m)]).run Gz.prog w=.ok (.agg #[U O W,U O H,.bool I,U O Q,.slice (an sa) sn sc,.slice (an ⟨C,0,ns⟩) n m]) w:=aj
def ON{w d:rl}{o:Obj}(h:d=w.alloc o):d.heap.size=w.heap.size+1/\(∀c,c<w.heap.size->d.heap[c]?=w.heap[c]?)/\d.heap[w.heap.size]?=an o:=by subst h;exact⟨au,λc hc=>by show(w.heap.push _)[c]?=_;rw[aiM hc,<-aik hc],by show(w.heap.push _)[_]?=_;simp⟩
def ae6(d:b.kind≠.early)(s:B.sn<=4)(h:At Q b cs x0 Z (gl B.W B.H B.Q B.I (an B.sa) B.sn B.sc B.sn) (.code (.seq (.region 64 gM Ba) (.seq (.block 51 (.loop gD)) dA))::k) a wg):
  ∃a' w',At Q b cs x0 Z (lg B wg.heap.size 0) (.code gD::.inLoop gD::.inBlock 51::.code dA::k) a' w'/\LM wg.heap B (λ_=>undef) 0 w'.heap:=by
 obtain⟨a,h⟩:=((h.to stepG_seq).rg [0,1,2,3,4]).kC (.slice (an ⟨wg.heap.size,0,ns⟩) B.sn B.sn) _ d (hr:=by simp only[aie,aR];simp[go_sem,h.tm,aiZ,gl,adr (show B.sn<=1000 by omega)];rfl);obtain⟨f,g⟩:∃f,f=wg.alloc (.cells (aif B.sn (.slice ns 0 0)) 68):=⟨_,rfl⟩;rw[<-g] at h;obtain⟨o,u,v⟩:=ON g;obtain⟨a,h⟩:=h.kC (.agg (B.full wg.heap.size)) f d (hr:=by simp only[aie,aR];simp[go_sem,h.tm,aiZ,gl,Y7];rfl);obtain⟨a,h⟩:=h.kC (.pointer (an ⟨f.heap.size,0,ns⟩)) (f.alloc (.cells jH 58)) d (hr:=by simp only[aie,aR];simp[go_sem,eD,jH]);obtain⟨i,e⟩:∃i,i=f.alloc (.cells jH 58):=⟨_,rfl⟩;rw[<-e] at h;obtain⟨D,p,x⟩:=ON e;clear e;obtain⟨w3,l,y,z,A,C,r,E,_,_,_⟩:=OI (P:=Gz.prog) (B.full wg.heap.size).toList 0 jH i x (by simp[dh.full,jH]) (by simp[dh.full];simp[Value.oneCell'])
 have m:l=B.full wg.heap.size:=by
  apply Array.ext
  ·rw[A];simp[dh.full,jH]
  ·intro j h1 h2;have hj:=C j;have F:(B.full wg.heap.size).size=6:=by simp[dh.full]
   exact KV
 subst m;have n:(B.full wg.heap.size).size=6:=rfl;replace h:=h.nil w3 d (hr:=by simp only[aie,aR];simp[go_sem,h.tm,aiZ,n,y]);obtain⟨a,h⟩:=h.op (U O 0) d;rw[o] at h;refine⟨a,w3,((((h.to Kx).to stepG_seq).to stepG_block).to stepG_loop).sub _,aa,λc hc=>?_,⟨aif B.sn (.slice ns 0 0),au,?_,λj hj=>by simp[hj]⟩,?_⟩
 ·rw[r c aa,p c aa,u c hc]
 ·rw[r _ aa,p _ aa,v]
 ·rw[<-o];exact z
end
end
section
open Go.Conc Go.ConcN Go.RowKit Go.Conc.Lib Go.ConcR.Gen Go.ConcN.Gen aM
open Go.ConcR (KK wgBlock WgAt stA smA rd wr mk Payload Aside2 DC0 ofEvent_cell)
open Wg (qj AE zA NG wm tr mq iV RM DM)
def Gx:AS->AS
 |.tuple a=>a.getD 0 undef
 |v=>v
noncomputable def Bz(Q:OF)(n:Nat)(vg:Nat->AS)(wg:rl)(W:Int)(I:Bool)(R:Nat->AS->Array Obj->Prop):dB where
 ty:=84
 n:=n
 f:=53
 start:=λk=>(G (aid Q 53 #[vg k,U O (EV.wrap (W.tdiv 8)),.bool I] .normal) [c0 Q],wg)
 R:=R
 pick:=Gx
 shape:=λv=>∃s l c t,v=.tuple #[.slice s l c,.bool t]
def IX(iU:Loc->Prop)(Wg:Nat)(l:Loc):Prop:=iU l\/∃a,l=.cell a/\a.block=Wg
section
variable[ah]{Q:OF}{S:cO}{gs:Array BE}{w:rl}{sl:Option (Nat×Nat)}{t:Trace}{q:Nat->Nat}{iU:Loc->Prop}{B:dh}{jP vg:Nat->AS}{wg:rl}{R:Nat->AS->Array Obj->Prop}{b:ahY}{Z:Act}{k:List Item}{cs:List ahY}
structure After(Q:OF)(S:cO)(J:dB)(iU:Loc->Prop)(B:dh)(Z:Act)(C o Wg:Nat)(M:Nat->Prop)(D:Nat->WS)(a:Act)(w:rl):Prop where
 ds:a.defers=Z.defers
 bK:∀d,kept d=AT->a.tmps[d]?=Z.tmps[d]?
 size:Sz Z a
 s4:a.tmps[4]?=an (.pointer (an ⟨o,0,ns⟩))
 ne:o≠C/\o≠Wg/\C≠Wg
 main:M C/\M o/\M Wg
 full:w.heap[o]?=an (.cells (B.full C) 58)
 pay:PayAt C B.sn w
 mem:Mem S B.sn (fT D) (lR D) M w.heap
 done:∀i,i<B.sn->Bb Q J i (D i)/\Has C i (J.pick (D i).val) w
 io:w.os=S.os/\w.output=S.out
def adt(v:AS):(#[v]++aif 83 undef:Array AS)=#[v,undef,undef,undef,undef,undef,undef,undef,undef,undef,undef,undef,undef,undef,undef,undef,undef,undef,undef,undef,undef,undef,undef,undef,undef,undef,undef,undef,undef,undef,undef,undef,undef,undef,undef,undef,undef,undef,undef,undef,undef,undef,undef,undef,undef,undef,undef,undef,undef,undef,undef,undef,undef,undef,undef,undef,undef,undef,undef,undef,undef,undef,undef,undef,undef,undef,undef,undef,undef,undef,undef,undef,undef,undef,undef,undef,undef,undef,undef,undef,undef,undef,undef,undef]:=my
def G8{φ:Ren}{x y z e f g:AS}(h:VR φ x e)(j:VR φ y f)(l:VR φ z g):aB φ #[x,y,z] #[e,f,g]:=⟨rfl,λi a b c d=>by
 match i,c,d with
 |0,c,d=>simp at c d;subst c;subst d;exact h
 |1,c,d=>simp at c d;subst c;subst d;exact j
 |2,c,d=>simp at c d;subst c;subst d;exact l
 |n+3,c,_=>simp at c⟩
def aek(j:Q.two=Tryz.prog)(hS:qi S)(hF:dS Q.two iU gs w t q)(h1:S.h1=w.heap)(P:S.os=w.os/\S.out=w.output)(E:kX iU S.φ)
  (hB:dz Q)(hC:ef Q)(t7:cN Q)(hG:S.K.G=Q.globals.size)(hFn:dX Q S.K)(ws:∀c c',¬ah.dL c c')
  (hc:qF B w)(hn:B.sn<=1000)(hv:∀i,i<B.sn->w.cell? (B.sa.add i)=an (jP i))(IY:∀i,i<B.sn->VR S.φ (vg i) (jP i))
  (hcb:∃x,S.φ x=an B.cb)(xL:∃x,S.φ x=an B.sa.block)(hJ:j8 Q S (Bz Q B.sn vg wg B.W B.I R) B.sn)
  (pE:b.kind≠.early)(Ce:b.fn=27)(hz:Sz Z Z)(s1:Z.tmps[1]?=an (.pointer (an ⟨B.cb,B.co,ns⟩)))(ha:gs[0]?=an (G (b.at Z (.code iv::k)) cs)):
  ∃N K' w' qr t' q' C o Wg M D a,runNT Q.two N (crowd gs w sl) t=(.next (crowd K' w' qr),t')/\K'[0]?=an (G (b.at a (.inRegion gN []::.code dA::k)) cs)/\
   dS Q.two (IX iU Wg) K' w' t' q'/\After Q S (Bz Q B.sn vg wg B.W B.I R) iU B Z C o Wg M D a w':=by
 obtain⟨xb,ra⟩:=hcb;obtain⟨xs,Fr⟩:=xL;have r:B.cb<w.heap.size:=h1▸(hS.rel.lt ra).2;have V:B.sa.block<w.heap.size:=h1▸(hS.rel.lt Fr).2
 obtain⟨m,hgo⟩:=aaa (k:=k) (cs:=cs) (Sh:=iU) pE Ce hz s1 hc hn (E _ _ ra) (λl c hc hl hs=>by
  obtain⟨a,rfl,ha⟩:=hF.shl l hs;rcases hl with⟨a',e,rfl⟩|e
  ·cases e;omega
  ·cases e)
 rw[<-j] at hgo;obtain⟨N1,rG,a1,w1,IZ,t1,q1,r1,z1,f1,U',⟨C,o,Wg,a,rfl,p⟩,TH,ST⟩:=M3 (by rintro g w⟨_,_,_,_,rfl,_⟩;rfl) _ _ gs _ w sl t q (ay _) hgo hF ha λop ho=>uX aa (hF.low op ho);obtain⟨g1,g2,g3,g4,g5,g6,g7,g8,g9⟩:=p.U6
 let A:Main:={o,cb:=B.cb,co:=B.co,Wg,C,n:=B.sn,W:=B.W,I:=B.I,sa:=B.sa,sn:=B.sn,sc:=B.sc,jP,oO:=.cells (B.full C) 58}
 let L:cB:={c0:=rG.size,C,off:=0,Wg,iU}
 let J:=Bz Q B.sn vg wg B.W B.I R
 let M0:Nat->Prop:=λc=>c=C\/c=o\/c=Wg
 let D0:Nat->WS:=λ_=>{stage:=7,e:=3,fuel:=0,deaf:=0,x:=J.start 0,φ:=S.φ,val:=undef,X:=λ_=>False}
 have TI:PayAt C B.sn w1:=⟨_,p.hC,au⟩
 have AC:Com Q S L J 0 D0 M0 rG w1 t1 q1 0:=by
  refine Com.begin (nw:=w.heap.size+2) U' rfl hS (by rw[h1];exact p.grow) (λb hb=>by rw[h1] at hb⊢;exact p.old b hb) (λc hc=>?_) (.inl rfl) (.inr (.inr rfl)) g6 (λl hl=>by rw[h1];exact hF.shl l hl) E (λk c x=>x.elim) ST (by have:=p.U5;show _<=Wg;omega) TI ⟨TH.1.trans P.1.symm,TH.2.trans P.2.symm⟩;rw[h1];rcases hc with rfl|rfl|rfl
  ·exact⟨g1,g7⟩
  ·exact⟨g2,g8⟩
  ·exact⟨g3,g9⟩
 have Va:MS A S.h1.size:=⟨by rw[h1];exact r,by rw[h1];exact V,ay _,by show B.sn<_;omega,g4,g5,g6⟩
 have hMI:MI A S.h1.size M0:=⟨.inr (.inl rfl),.inl rfl,.inr (.inr rfl),λc hc=>by rw[h1];rcases hc with rfl|rfl|rfl<;>assumption⟩
 have cell:∀{c i:Nat}{sp:Option Nat},c<w.heap.size->w1.cell? ⟨c,i,sp⟩=w.cell? ⟨c,i,sp⟩:=λ{c i sp} hc=>by simp only[aiu,p.old c hc]
 have hK:MK A S.h1.size M0 w1:=by
  refine⟨λc hc=>?_,p.ho,?_,(cell r).trans hc.S,(cell r).trans hc.W,(cell r).trans hc.I,λi hi=>?_,⟨_,_,p.hW⟩,TI⟩
  ·rcases hc with rfl|rfl|rfl<;>assumption
  ·show w1.cell? ⟨o,5,ns⟩=_;simp[aiu,p.ho,dh.full];exact⟨rfl,rfl⟩
  ·refine Eq.trans ?_ (hv i hi);show w1.cell? (B.sa.add i)=_;simp only[aiu];rw[sG,p.old _ V]
 let Post:(Nat->Prop)->BE->rl->Prop:=λM g w=>∃a,g=G (b.at a (.inRegion gN []::.code dA::k)) cs/\SF Z (xI A A.n) a/\MI A S.h1.size M/\MK A S.h1.size M w
 have TJ:=Z9 (A:=A) (Z:=Z) (N0:=S.h1.size) (b:=b) (k:=k) (cs:=cs) (Child:=aM.Child Q S L J) (Fin:=RI Q S L J Post) (M:=M0) (F:=λ_=>False) (a:=a) (w:=w1) pE Ce Va (λi y M u hi hI um uj PJ hW=>?_) (λM a u hI hS' hK'=>?_) hMI hK p.ds p.bK p.size p.s1 p.s4 p.s5
 ·rw[<-j] at TJ;obtain⟨N2,xG,w2,xH,t2,D2,M2,a2,q2,q3,r2,f2,xM,⟨a',rfl,H,I0,rF⟩,_,fd,wH⟩:=Z1 (L:=L) (J:=J) (Post:=Post) (M:=M0) (F:=λ_=>False) hB hC t7 hG hFn ws hJ (by show B.sn<_;omega) TJ AC f1 p.hW λc hc=>hc.elim;refine⟨N1+N2,xG,w2,xH,t2,q3,C,o,Wg,M2,D2,a',by rw[runNT_add,r1];exact r2,f2,fd,H.d,H.k,H.z,H.f 4 _ rfl,⟨g4,g5,g6⟩,⟨I0.C,I0.o,I0.Wg⟩,rF.oF,xM.pay,xM.mem,λi hi=>⟨(wH i hi).1,?_⟩,xM.io⟩;have:=(wH i hi).2;rwa[show L.off+i=i from Nat.zero_add i] at this
 ·
  have hSh:∀c,(c=(A.kZ i y).o\/c=(A.kZ i y).cb\/c=(A.kZ i y).rb\/c=(A.kZ i y).sa.block)->∀l,bQ c l->¬L.Sh l:=λc hc l hl hs=>by
   replace hc:c=o\/c=B.cb\/c=y\/c=B.sa.block:=hc;have E':=hI.ge y um;rw[h1] at E';replace PJ:y≠Wg:=PJ;rcases hs with hs|⟨ad,rfl,pF⟩
   ·obtain⟨ad,rfl,pF⟩:=hF.shl l hs;have ec:c=ad.block:=bQ.inj hl (.inl ⟨_,rfl,rfl⟩);rcases hc with hc|hc|hc|hc
    ·omega
    ·exact E _ _ (hc▸ra) _ hl hs
    ·omega
    ·exact E _ _ (hc▸Fr) _ hl hs
   ·have ec:c=ad.block:=bQ.inj hl (.inl ⟨_,rfl,rfl⟩);have hw:ad.block=Wg:=pF;rcases hc with hc|hc|hc|hc<;>omega
  obtain⟨m,hg⟩:=ae4 (A:=A.kZ i y) (N0:=S.h1.size) (X:=λc=>c=A.o\/c=y) (Sh:=L.Sh) (w:=u) hSh hi g6 hW
  ·rw[<-j] at hg⊢;refine⟨λc=>c=A.o\/c=y,m,λc hc=>?_,qj (λ_ _ _ x=>x) (λg v Gy=>?_) (λ_ _ x=>x) hg⟩
   ·rcases hc with rfl|rfl
    ·exact⟨hI.o,g4,g5⟩
    ·exact⟨um,uj,PJ⟩
   ·obtain⟨tF,b',B',wB,ae7⟩:=Gy;refine⟨tF,#[jP i,U O (EV.wrap (B.W.tdiv 8)),.bool B.I],b',B',?_,⟨#[vg i,U O (EV.wrap (B.W.tdiv 8)),.bool B.I],?_,rfl⟩,λv' w4 xy hr=>?_⟩
    ·rw[j];exact wB
    ·exact G8 (IY i hi) (.int _ _) (.bool _)
    ·obtain⟨s,l,c,t,rfl⟩:=xy;obtain⟨m,hg⟩:=ae7 s l c t w4 hr;exact⟨m,by rw[<-j] at hg;exact hg⟩
 ·
  refine⟨rfl,wm Tryz.link Wg (b.at a (.inRegion gN [0]::.code dA::k)) cs,tr (b.at (a.put ((gN[0]?).bind (·.dst)) (.tuple #[])) (.inRegion gN []::.code dA::k)) cs,3,?_,?_,λg w d h=>h,λg v h=>?_,?_,λg v hr h=>?_⟩
  ·rintro g w⟨T,rfl,_⟩;rfl
  ·rintro g w rfl;rfl
  ·rw[j];exact NG (ops₀:=gN) (i₀:=0) (rest₀:=[]) (k₀:=.code dA::k) (a₀:=a) (b₀:=b) (cs:=cs) Tryz.we g v h
  ·rw[j];have:=zA (L:=Tryz.link) (Wg:=Wg) (ops₀:=gN) (i₀:=0) (rest₀:=[]) (k₀:=.code dA::k) (a₀:=a) (b₀:=b) (cs:=cs) Tryz.we u hK'.live;rw[adt];exact this
  ·have hd:(gN[0]?).bind (·.dst)=an 28:=by rfl
   rw[hd] at h;exact⟨_,h,(hS'.put aw).sub _,hI,hK'.rely Va hI hr⟩
end
end
end Go.Proofs.Q0.Open
