import Derived.Test.YtnbpokndlaebbaaGreatDoorK29
set_option maxRecDepth 100000
set_option maxHeartbeats 8000000
set_option linter.all false
open Go.Value renaming int->U,slice->Y,bool->ci,agg->bi,pointer->d9,tuple->em,iface->gc
open Go.IntKind renaming i64->O
open Go.Obj renaming cells->ap
open Go.Ending renaming returned->dl
open Go renaming Addr->aic,Calls->ahR,Oper->ajq,TypeId->SL,Value->AS,World->rl,bodyPost_ret->ahX
open Go.Value renaming slice->akF
open Int renaming tdiv_eq_ediv_of_nonneg->aiC
open List renaming getElem?_append_left->ajf,getElem?_append_right->ajE,getElem?_set_ne->akj,getElem?_set_self->ajX,length_append->ahc,length_drop->ajp,length_set->ajj,length_singleton->ake
open Nat renaming le_refl->akf,sub_self->ajz
open Option renaming none->ns,some->an
namespace Go.Proofs
abbrev rZ:=@Go.World.grownBy.size
def Ll{p:Prop}(h:p:=by refine bw (k:=9) aj rfl rfl λKK hK=>?_;go_simp;refine(pick _ _ _ _ K.out.rd aa aa aa).mono ?_;rintro e wz⟨q,rfl,q1,q2,r5,gz⟩;(try replace lb:=lb.draw gz aa);have sz:=rZ gz;replace K:=ag (K.out.gr gz r5);clear gz r5;refine hK.out _ _ (K.out.bb.cell 2) λhS=>?_;clear hK KK;refine bh ?_;exact S7):p:=h
end Go.Proofs
namespace Go.Proofs.Q0
open Go.Proofs.Tryz
variable{v u:AS}{t:SL}{B n g lo hi c P k:Nat}{w w':rl}{b:List Int}{vs:List AS}{ls:List (List Int)}{p:aic}
section
open Go.RowKit Go.WideShapes Go.ChangeShapes
def Sg{s:Nat}{xs:List AS}(h:w.ownsRow B t s v n xs)(d:v.ownBlock=an g):∃cs f,w.heap[g]?=an (ap cs t f):=by
 rcases h.2 with⟨rfl,_⟩|⟨i,l,q,rfl,_,r,_⟩
 ·cases d
 ·have e:i=g:=aH d;subst e;exact⟨_,_,r⟩
def Bi{B' s l q:Nat}{i:SL}{v':AS}{xs ys:List AS}(h:w.ownsRow B t s v n xs)(h':w.ownsRow B' i l v' q ys)(r:t≠i)(x:v.ownBlock=an g):v'.ownBlock≠an g:=λe=>by obtain⟨C,f,h1⟩:=Sg h x;obtain⟨y,D,d⟩:=Sg h' e;rw[h1] at d;injection d with d;injection d with E z;exact r z
def ee.app{v':AS}(h:ee w lo hi v ls vs)(hr:w'.ownsRow lo 22 1 v' (ls.length+1) (vs++[u]))(r:w.grownBy w' v.ownBlock)
  (hu:aK w hi u b.length b)(l:lo<=hi):ee w' lo w'.heap.size v' (ls++[b]) (vs++[u]):=by
 have hd:(22:SL)≠5:=aw
 have f:∀{B n:Nat}{z:AS}{xs:List Int},aK w B z n xs->aK w' B z n xs:=λ{B n z xs} o=>o.other r (by
  cases x:z.ownBlock with
  |none=>exact .inl rfl
  |some g=>exact .inr λe=>Bi o.2 h.row (iY hd) x e.symm)
 have el:∀i,i<(ls++[b]).length->aK w' lo ((vs++[u])[i]?.getD undef) (aS (ls++[b]) i).length (aS (ls++[b]) i):=λi hi=>by
  rw[ahc,ake] at hi;rcases cZ i ls.length with h1|h1
  ·rw[ajf (by rw[h.len];exact h1),show aS (ls++[b]) i=aS ls i by unfold aS;rw[ajf h1]];exact f (h.el i h1)
  ·obtain rfl:i=ls.length:=by omega
   rw[ajE (by rw[h.len];exact akf _),h.len,ajz,show aS (ls++[b]) ls.length=b by unfold aS;rw[ajE (akf _),ajz];rfl];exact(f hu).mono l
 refine⟨by rw[ahc,ahc,h.len];rfl,by rw[ahc];exact hr,λs d=>(hr.lt s d).2,el,λi s hi d=>⟨((el i hi).2.lt s d).2,Bi (el i hi).2 hr (iY hd) d⟩,λi j s q y d=>?_⟩;rw[ahc,ake] at y;have hi:i<ls.length:=aa;rw[ajf (by rw[h.len];exact hi)] at d;rcases cZ j ls.length with h1|h1
 ·rw[ajf (by rw[h.len];exact h1)];exact h.ne i j s q h1 d
 ·obtain rfl:j=ls.length:=by omega
  rw[ajE (by rw[h.len];exact akf _),h.len,ajz];intro e;have e:u.ownBlock=an s:=e;have:=(hu.2.lt s e).1;have:=(h.eh i s hi d).1;omega
def ee.iA{f:Nat}(h:ee w lo hi (Y (an ⟨f,0,ns⟩) n c) ls vs)(F:ls.length=n)(h0:0<n)(hu:aK w hi u b.length b)(q:lo<=hi):
  ee (w.setCell ⟨f,0,ns⟩ u) lo w.heap.size (Y (an ⟨f,0,ns⟩) n c) (ls.set 0 b) (vs.set 0 u):=by
 subst F;obtain⟨r,G⟩:=World.ownsRow.stored h.row 0 u;have hd:(22:SL)≠5:=aw
 have l:∀{B n:Nat}{z:AS}{xs:List Int},aK w B z n xs->aK (w.setCell ⟨f,0,ns⟩ u) B z n xs:=λ{B n z xs} o=>o.other G (by
  cases J:z.ownBlock with
  |none=>exact .inl rfl
  |some g=>exact .inr λe=>Bi o.2 h.row (iY hd) J e.symm)
 have D:∀z:rl,z=w.setCell ⟨f,0,ns⟩ u->z.heap.size=w.heap.size:=λz e=>by rw[e];simp[World.setCell]
 have E:(vs.set 0 u)[0]?.getD undef=u:=by rw[ajX (by rw[h.len];exact h0)];rfl
 have K:aS (ls.set 0 b) 0=b:=by unfold aS;rw[ajX h0];rfl
 have x:∀i,0<i->(vs.set 0 u)[i]?.getD undef=vs[i]?.getD undef:=λi hi=>by rw[akj aa]
 have L:∀i,0<i->aS (ls.set 0 b) i=aS ls i:=λi hi=>by unfold aS;rw[akj aa]
 have el:∀i,i<(ls.set 0 b).length->aK (w.setCell ⟨f,0,ns⟩ u) lo ((vs.set 0 u)[i]?.getD undef) (aS (ls.set 0 b) i).length (aS (ls.set 0 b) i):=λi hi=>by
  rw[ajj] at hi;rcases iI i with rfl|h1
  ·rw[E,K];exact(l hu).mono q
  ·rw[x i h1,L i h1];exact l (h.el i hi)
 refine⟨by rw[ajj,ajj,h.len],by rw[ajj];exact r,λs d=>by have:=(r.lt s d).2;rw[D _ rfl] at this;exact this,el,λi s hi d=>⟨by have:=((el i hi).2.lt s d).2;rw[D _ rfl] at this;exact this,Bi (el i hi).2 r (iY hd) d⟩,λi j s y C d=>?_⟩;rw[ajj] at C;rw[x j aa];rcases iI i with rfl|h1
 ·rw[E] at d;intro e;have:=(hu.2.lt s d).1;have:=(h.eh j s C e).1;omega
 ·rw[x i h1] at d;exact h.ne i j s y C d
def eF.tail{b:Nat}(h:eF w B (an ⟨b,0,ns⟩) ls):eF w B (an ⟨b,1,ns⟩) (ls.drop 1):=λd=>by
 rw[ajp] at d;obtain⟨r,s,e,f,hc⟩:=h aa;cases e;refine⟨b,1,rfl,f,λi hi=>?_⟩;rw[ajp] at hi;obtain⟨A',c',h1,l⟩:=hc (1+i) aa;have q:aS (ls.drop 1) i=aS ls (1+i):=by unfold aS;rw[List.getElem?_drop]
 rw[q];exact⟨A',c',by rw[<-h1,Nat.zero_add],l⟩
def ee.mono{w:rl}{lo i9 hi hi':Nat}{v:AS}{ls:List (List Int)}{vs:List AS}(h:ee w lo hi v ls vs)(h1:i9<=lo)(l:hi<=hi'):ee w i9 hi' v ls vs:=
 ⟨h.len,⟨h.row.1,h.row.2.imp id λ⟨g,e,f,q,r,x⟩=>⟨g,e,f,q,aQ h1 r,x⟩⟩,λs d=>cC (h.top s d) l,λi hi=>(h.el i hi).mono h1,λi s hi d=>⟨cC (h.eh i s hi d).1 l,(h.eh i s hi d).2⟩,h.ne⟩
def ee.aL(h:ee w lo hi v ls vs)(e:p.block<lo)(u:AS):ee (w.setCell p u) lo hi v ls vs:=
 h.aq ((al.refl [p.block] w).set (.inl au) u) (λg d=>by simp at d;omega)
def ab2:(Gz.prog.info? 22).map (λi=>(i.zero,i.size,i.bytes))=an (an (Y ns 0 0),1,24):=aj
def WX{e:Array ajq}{o:ajq}{a:Act}{K:Act->rl->Prop}{D:Exit->Act->rl->Prop}{E:Prop}(f:o.guard=ns){x y:Operand}
  (F:o.op=.call {callee:=.builtin .append,args:=#[x,y],argTypes:=#[23,23]})(G:a.eval x=v)(h:ee w lo hi v ls vs){ad:aic}(J:a.eval y=Y (an ad) 1 c)(hc:w.cell? ad=an u)(hu:aK w hi u b.length b)
  (i:lo<=hi)(l:lo<=w.heap.size)(N:ls.length<=1000)
  (hK:∀g d w',ee w' lo w'.heap.size (Y (an ⟨g,0,ns⟩) (ls.length+1) d) (ls++[b]) (vs++[u])->w.grownBy w' v.ownBlock->K (a.put o.dst (Y (an ⟨g,0,ns⟩) (ls.length+1) d)) w'):
  if Region.wanted o (yielded e a.tmps)=true then Oper.wp Gz.prog o a w K D else E:=by
 obtain⟨i0,q,r,hz1,hz2⟩:=info_parts ab2;obtain⟨A,c',L⟩:=hu.form;refine step_append_lies _ f x y 23 F lo 22 i0 (Y ns 0 0) 1 24 (Gz.gu underlying23) q r hz1 hz2 rfl aw v ls.length vs G h.row ad 1 c [u] J rfl ?_ ?_ aw ?_ ?_ l _ rfl λg d w' h1 s _ _=>hK g d w' (h.app h1 s hu i) s
 ·intro j z C;obtain rfl:j=0:=by have:=(ow.1 C).1;simp at this;omega
  obtain rfl:u=z:=by simpa using C
  simpa[Addr.add] using hc
 ·intro z M;obtain rfl:z=u:=by simpa using M
  rw[L];rfl
 ·unfold maxLen;omega
 ·omega
end
section
open Go.RowKit Go.WideShapes Go.ChangeShapes
def kD(lo:Nat)(w:rl)(A:Option aic)(ls:List (List Int)):Prop:=∀(S:List Nat)(w2:rl),(∀x,x∈S->x<lo)->al S w w2->eF w2 w2.heap.size A ls
def ee.Cv{l:Nat}{A:Option aic}(h:ee w lo hi v ls vs)(d:v=Y A n c)(e:l<=lo)(f:hi<=w.heap.size):kD l w A ls:=
 λ_ _ i k=>(h.aq k λx q=>.inr (cC (i x q) e)).rd d (aQ f k.size)
structure CS(g bc P:Nat)(w wr:rl)(W H:Int)(I:Bool)(q:Int)(v:AS)(ls:List (List Int))(vs:List AS):Prop where
 blk:ak wr bc 25 #[U O W,U O H,ci I,U O q,v]
 res:ak wr w.heap.size 25 #[U O 0,U O 0,ci false,U O 0,Y ns 0 0]
 own:ee wr (bc+1) wr.heap.size v ls vs
 bI:∀i,i<ls.length->bytes (aS ls i)
 rd:aO wr g P
 ex:al [g] w wr
 lt:g<w.heap.size/\w.heap.size<bc
section
variable{g bc P P':Nat}{w wr w':rl}{W H qv:Int}{I:Bool}{v:AS}{ls:List (List Int)}{vs:List AS}
def CS.aq(h:CS g bc P w wr W H I qv v ls vs)(k:al [g] wr w')(r:aO w' g P'):CS g bc P' w w' W H I qv v ls vs:=by have:=h.lt;exact⟨h.blk.aq k av,h.res.aq k av,(h.own.aq k λx d=>by simp at d;omega).mono (ay _) k.size,h.bI,r,h.ex.trans k,h.lt⟩
def CS.q(h:CS g bc P w wr W H I qv v ls vs)(k:Q wr w'):CS g bc P w w' W H I qv v ls vs:=h.aq (al.dp _ k) (h.rd.q k)
def CS.more(h:CS g bc P w wr W H I qv v ls vs)(d:P<=P'):CS g bc P' w wr W H I qv v ls vs:=⟨h.blk,h.res,h.own,h.bI,h.rd.more d,h.ex,h.lt⟩
end
structure CE(g bc P:Nat)(w wr:rl):Prop where
 blk:∃W H I q A m c ls,ak wr bc 25 #[U O W,U O H,ci I,U O q,Y A m c]/\kD (w.heap.size+1) wr A ls/\ls.length=m/\m<=3/\∀i,i<ls.length->bytes (aS ls i)
 res:ak wr w.heap.size 25 #[U O 0,U O 0,ci false,U O 0,Y ns 0 0]
 rd:aO wr g P
 ex:al [g] w wr
section
variable{g bc P P' m c m' c' j:Nat}{w wr:rl}{W H qv W' H' VS:Int}{I I':Bool}{A A':Option aic}{ls rs:List (List Int)}{vs:List AS}{u:AS}
def CS.e(h:CS g bc P w wr W H I qv (Y A m c) ls vs)(hm:ls.length<=3)(d:P<=P'):CE g bc P' w wr:=by have:=h.lt;obtain⟨f,c0,e,_⟩:=h.own.form;cases e;exact⟨⟨_,_,_,_,_,_,_,ls,h.blk,h.own.Cv rfl aa (ay _),rfl,hm,h.bI⟩,h.res,h.rd.more d,h.ex⟩
def CS.put(h:CS g bc P w wr W H I qv (Y A m c) ls vs)(d:ak (wr.setCell ⟨bc,j,ns⟩ u) bc 25 #[U O W',U O H',ci I',U O VS,Y A' m' c'])(e:kD (w.heap.size+1) (wr.setCell ⟨bc,j,ns⟩ u) A' rs)(f:rs.length=m')(hm:m'<=3)(l:∀i,i<rs.length->bytes (aS rs i))(q:P<=P'):CE g bc P' w (wr.setCell ⟨bc,j,ns⟩ u):=by have:=h.lt;exact⟨⟨_,_,_,_,_,_,_,rs,d,e,f,hm,l⟩,h.res.aL (by show w.heap.size≠bc;omega) _,(h.rd.aq (mU wr bc j u) av).more q,h.ex.set (.inr (by show w.heap.size<=bc;omega)) _⟩
def CS.aL(h:CS g bc P w wr W H I qv (Y A m c) ls vs):ee (wr.setCell ⟨bc,j,ns⟩ u) (bc+1) (wr.setCell ⟨bc,j,ns⟩ u).heap.size (Y A m c) ls vs:=(h.own.aL (by show bc<bc+1;omega) _).mono (ay _) rL
def CS.oZ(h:CS g bc P w wr W H I qv (Y A m c) ls vs)(d:ak (wr.setCell ⟨bc,j,ns⟩ u) bc 25 #[U O W',U O H',ci I',U O VS,Y A m c])(hm:ls.length<=3)(f:P<=P'):CE g bc P' w (wr.setCell ⟨bc,j,ns⟩ u):=by have:=h.lt;obtain⟨i,c0,e,_⟩:=h.own.form;cases e;exact h.put d (h.aL.Cv rfl aa (ay _)) rfl hm h.bI f
end
def ab3(g P wn X:Nat)(W H N:Int)(I:Bool)(w:rl)(h:aO w g P)(hP:P<=600000)(hW:W=8*(wn:Int))(hH:H=8*(X:Int))(w1:1<=wn)(w3:wn<=3)(h1:1<=X)(h3:X<=3)(hN:1<=N/\N<=1000):
  ahR Gz.prog 32 #[d9 (an ⟨g,0,ns⟩),U O W,U O H,ci I,U O N] w λe w'=>∃(W' H' q:Int)(I':Bool)(A:Option aic)(c:Nat)(ls:List (List Int)),e=dl (bi #[U O W',U O H',ci I',U O q,Y A ls.length c])/\
   kD w.heap.size w' A ls/\ls.length<=3/\(∀i,i<ls.length->bytes (aS ls i))/\aO w' g (P+4000)/\al [g] w w':=by
 have hl:=h.lt;have b0:=ak.new w 25 #[U O 0,U O 0,ci false,U O 0,Y ns 0 0];have q0:Q w (w.alloc (ap #[U O 0,U O 0,ci false,U O 0,Y ns 0 0] 25)):=(Q.refl w).alloc _;have h0:=h.q q0;have e0:al [g] w (w.alloc (ap #[U O 0,U O 0,ci false,U O 0,Y ns 0 0] 25)):=al.dp _ q0;have dW:W.tdiv 8=(wn:Int):=by rw[hW,aiC (by omega)];omega
 have dH:H.tdiv 8=(X:Int):=by rw[hH,aiC (by omega)];omega
 clear h q0 hW hH;go_enter Gz.gf func32,ntmps32;go_wp2;refine(agQ h0 aa).mono ?_;rintro e Z⟨q,rfl,r2,k2⟩;have b2:=b0.aq k2 av;have e2:=e0.trans k2;have s2:=b2.lt;clear b0 e0 h0 k2;go_wp2
 have K1:Hid (CS g Z.heap.size (P+3) w (Z.alloc (ap #[U O W,U O H,ci I,U O q,Y ns 0 0] 25)) W H I q (Y ns 0 0) [] []):=
  ⟨ak.new _ _ _,b2.alloc _,⟨rfl,World.ownsRow_nil _ _ _ _,(λs h=>by cases h),(λi h=>by cases h),(λi s h=>by cases h),λi j s _ h=>by cases h⟩,(λi h=>by cases h),r2.q ((Q.refl _).alloc _),e2.alloc _,hl,s2⟩
 obtain⟨bc,DE⟩:∃z,Z.heap.size=z:=⟨_,rfl⟩;rw[DE] at K1 s2⊢;clear DE;clear b2 r2 e2;go_loopw[12] (λi wr=>∃(k:Nat)(v:AS)(ls:List (List Int))(vs:List AS),k<=X/\ls.length=k/\i=U O k/\Hid (CS g bc (P+3+1200*k) w wr W H I q v ls vs)) (λi _=>X-(intOf i).toNat)
 case atStart=>exact⟨0,Y ns 0 0,[],[],aa,rfl,rfl,K1.out⟩
 case round=>
  obtain⟨k,v,ls,vs,hk,hlk,rfl,r⟩:=hrel;clear K1;subst hlk;by_cases aV:ls.length<X
  ·have hkm:(ls.length:Int)<(X:Int):=by omega
   have lt:=r.out.lt;have JA:=r;obtain⟨A,c,rfl,lc,mc⟩:=r.out.own.form;go_wp2;have cD:=(r.out.q ((Q.refl _).drew)).blk.cell 4;refine eo (λww=>ww.cell? ⟨bc,4,ns⟩=an (Y A ls.length c)) (λj=>decide (11<=j)) aj cD λhS=>?_;refine ai 0 (h:=ai 1 (h:=ai 2 (h:=ai 3 (h:=ai 4 (h:=ai 5 (h:=ai 7 (h:=?_)))))));have KD:=ag (r.out.q ((Q.refl _).drew));refine bw (k:=6) aj rfl rfl λr d=>?_;go_simp;rw[show IntKind.i64.wrap (wn:Int)=wn from IntWalk.i64_in _ ⟨aa,aa⟩];refine(aar wn KD.out.rd aa aa).mono ?_;rintro e w5⟨v5,xs,rfl,o5,L,D⟩;have C:=ag (KD.out.aq D L);have sD:=KD.out.own.row;have cE:=C.out.blk.cell 4;have z5:=D.size;rcases o5.dC with⟨_,h0⟩|⟨gm,cm,rfl,gm1,gm2,gm3,gm4⟩
   ·omega
   refine d.out _ _ cE λhS=>?_;clear d r;refine bh ?_;refine bw (k:=8) aj rfl rfl λr d=>?_;go_simp;refine(Mq I wn gm cm _ xs _ o5 aa aa).mono ?_;rintro e w6⟨v6,rfl,o6,q6⟩;have F:=ag (C.out.q q6);have cF:=F.out.blk.cell 4;obtain⟨A6,c6,rfl⟩:=o6.form;refine d.out _ _ cF λhS=>?_;clear d r;refine bh ?_;refine bw (k:=9) aj rfl rfl λr d=>?_;go_simp;have bN:=ak.new w6 22 #[Y A6 ((dO I xs wn).getD []).length c6];have M:=ag (F.out.q ((Q.refl w6).alloc (ap #[Y A6 ((dO I xs wn).getD []).length c6] 22)));refine d.out _ _ (M.out.blk.cell 4) λhS=>?_;clear d r;refine bh ?_
   have E:bytes ((dO I xs wn).getD []):=by cases hq:dO I xs wn with|none=>simp[bytes]|some ys=>exact Ec o5.1 aa aa hq
   generalize(dO I xs wn).getD []=y at o6 E bN M⊢;refine bw (k:=10) aj rfl rfl λr d=>?_;have R:=λb(R:(akF A ls.length c).ownBlock=an b)=>(M.out.own.row.lt b R).1;have s6:=q6.size;have oU:aK (w6.alloc (ap #[Y A6 y.length c6] 22)) wr.heap.size (Y A6 y.length c6) y.length y:=(o6.alloc _).mono (by have:=KD.out.own;have:=z5;simp only[World.size_drew] at this;omega)
   have oR:ee (w6.alloc (ap #[Y A6 y.length c6] 22)) (bc+1) wr.heap.size (Y A ls.length c) ls vs:=by exact(((JA.out.own.q ((Q.refl _).drew)).aq D λx hx=>.inr (by simp at hx;omega)).q q6).q ((Q.refl _).alloc _)
   have qY:=JA.out.blk.lt;have s7:=M.out.blk.lt;refine WX aC aC aC oR aC (bN.cell 0) oU aa aa aa λgv cv w8 o8 g8=>?_;have i6:∀b,b<=bc->an b≠(akF A ls.length c).ownBlock:=λb h e=>by have:=R b e.symm;omega
   have b8:=M.out.blk.grown g8 (i6 bc (ay _));have c8:=b8.cell 4;have f8:=b8.free 4;have L8:=ag o8
   have M8:Hid (ak w8 w.heap.size 25 #[U O 0,U O 0,ci false,U O 0,Y ns 0 0]/\aO w8 g (P+3+1200*ls.length+300*wn)/\al [g] w w8):=
    ⟨M.out.res.grown g8 (i6 _ aa),M.out.rd.iL g8 (λb h=>by have:=R b h;omega),M.out.ex.iL g8 λb h=>.inr (by have:=R b h;omega)⟩
   have B8:=ag b8
   have agR:∀i,i<(ls++[y]).length->bytes (aS (ls++[y]) i):=λi hi=>by
    rw[ahc,ake] at hi;rcases cZ i ls.length with h1|h1
    ·rw[show aS (ls++[y]) i=aS ls i by unfold aS;rw[ajf h1]];exact JA.out.bI i h1
    ·obtain rfl:i=ls.length:=by omega
     rw[show aS (ls++[y]) ls.length=y by unfold aS;rw[ajE (akf _),ajz];rfl];exact E
   refine d.out _ _ c8 λhS=>?_;clear d r M KD C F oR oU bN b8 g8 o8 o5 o6 q6 D L;refine bh ?_;refine gi [11,12] 11 aj aw rfl ?_;go_wp2;go_roundw
   case rel=>refine⟨ls.length+1,_,ls++[y],_,aa,au,aJ,B8.out.set 4 _,M8.out.1.aL (by show w.heap.size≠bc;omega) _,(L8.out.aL (by show bc<bc+1;omega) _).mono (ay _) rL,agR,(M8.out.2.1.aq (S:=[bc]) (al.set (al.refl _ _) (.inl au) _) av).more aa,M8.out.2.2.set (.inr (by show w.heap.size<=bc;omega)) _,lt⟩
   case measure=>exact bj
  ·have K:ls.length<=3:=by omega
   have lt:=r.out.lt;go_wp2;refine(TW r.out.rd aa hN.1 aa).mono ?_;rintro e w3⟨t,rfl,r3,k3⟩;have K3:=ag (r.out.aq k3 r3);clear r r3 k3;obtain⟨A,c,rfl,lc,mc⟩:=K3.out.own.form
   go_upto_if 39 with fail
   go_cut[] from 40 (λwx=>Hid (CE g bc (P+4000) w wx))
   case first=>
    cases t with
    |false=>go_wp2;go_meet;exact K3.out.e K aa
    |true=>
     go_wp2;refine(dY 5 K3.out.rd aa aa aa).mono ?_;rintro e w4⟨kd,rfl,⟨kd1,kd2⟩,r4,k4⟩;have f:=ag (K3.out.aq k4 r4);clear K3 r4 k4;have sb:=f.out.blk.lt;rcases(by omega:kd=0\/kd=1\/kd=2\/kd=3\/kd=4) with rfl|rfl|rfl|rfl|rfl
     ·go_wp2;have bl:=ak.new w4 3 #[U O 0,U O 12,U O 40];have C:=ag (f.out.q ((Q.refl w4).alloc (ap #[U O 0,U O 12,U O 40] 3)));refine(dY 3 C.out.rd aa aa aa).mono ?_;rintro e w5⟨x,rfl,⟨x1,x2⟩,L,D⟩;have hg:=f.out.rd.lt;have l2:=(bl.aq D av).cell;have F:=ag (C.out.aq D L);have cb:=F.out.blk.cell;have fb:=F.out.blk.free;clear f C L D bl;rcases(by omega:x=0\/x=1\/x=2) with rfl|rfl|rfl
      all_goals
       go_wp2;go_meet;exact F.out.oZ (F.out.blk.set 0 _) K aa
     ·go_wp2;have bl:=ak.new w4 3 #[U O (-1),U O 16];have C:=ag (f.out.q ((Q.refl w4).alloc (ap #[U O (-1),U O 16] 3)));refine(dY 2 C.out.rd aa aa aa).mono ?_;rintro e w5⟨x,rfl,⟨x1,x2⟩,L,D⟩;have hg:=f.out.rd.lt;have l2:=(bl.aq D av).cell;have F:=ag (C.out.aq D L);have cb:=F.out.blk.cell;have fb:=F.out.blk.free;clear f C L D bl;rcases(by omega:x=0\/x=1) with rfl|rfl
      all_goals
       go_wp2;go_meet;exact F.out.oZ (F.out.blk.set 3 _) K aa
     ·have G:0<ls.length:=by omega
      obtain⟨J,cap,T,R,BO⟩:=f.out.own.row.form G;injection T with e1 e2 e3;subst e1;clear e2 e3 R BO;have NE:(1:Int)<=(ls.length:Int):=aa;have lt:=f.out.lt;have JB:=f;go_wp2;have cD:=(f.out.q ((Q.refl _).drew)).blk.cell 4;refine eo (λww=>ww.cell? ⟨bc,4,ns⟩=an (Y (an ⟨J,0,ns⟩) ls.length c)) (λj=>decide (4<=j)) aj cD λhS=>?_;refine ai 0 (h:=ai 1 (h:=ai 2 (h:=?_)));have KD:=ag (f.out.q ((Q.refl _).drew));refine bw (k:=3) aj rfl rfl λr d=>?_;go_simp;refine(ab1 KD.out.rd aa).mono ?_;rintro e w5⟨v5,y,rfl,o5,hl5,tW,L,D⟩;have C:=ag (KD.out.aq D L);have oR:=C.out.own;have oR':=(JB.out.own.q ((Q.refl _).drew)).aq D (λx hx=>.inr (by simp at hx;omega));obtain⟨A5,c5,rfl⟩:=o5.form;obtain⟨x0,IQ⟩:∃x,vs[0]?=an x:=⟨_,List.getElem?_eq_getElem (by rw[oR.len];exact G)⟩;have cR:w5.cell? ⟨J,0,ns⟩=an x0:=by simpa[Addr.add] using oR.row.cells (g:=J) rfl 0 _ IQ
      have fR:w5.frozen? ⟨J,0,ns⟩=false:=World.ownsRow.frozenAt oR.row 0;have T:bc+1<=J:=(oR.row.lt J rfl).1;have oz:=oR'.iA rfl G (o5.mono (B':=w4.heap.size) au) (by have:=JB.out.blk.lt;omega)
      have E:∀i,i<(ls.set 0 y).length->bytes (aS (ls.set 0 y) i):=λi hi=>by
       rw[ajj] at hi;rcases iI i with rfl|h1
       ·rw[show aS (ls.set 0 y) 0=y by unfold aS;rw[ajX G];rfl];exact tW
       ·rw[show aS (ls.set 0 y) i=aS ls i by unfold aS;rw[akj aa]];exact JB.out.bI i hi
      refine d.out _ _ (C.out.blk.cell 4) λhS=>?_;clear d r;refine bh ?_;refine gi [4,5] 4 aj aw rfl ?_;go_wp2;go_meet;exact⟨⟨_,_,_,_,_,_,_,ls.set 0 y,C.out.blk.aL (by show bc≠J;omega) _,(oz.mono (hi':=(w5.setCell ⟨J,0,ns⟩ (Y A5 y.length c5)).heap.size) (ay _) rL).Cv rfl aa (ay _),ajj,K,E⟩,C.out.res.aL (by show w.heap.size≠J;omega) _,(C.out.rd.aq (mU w5 J 0 _) av).more aa,C.out.ex.set (.inr (by show w.heap.size<=J;omega)) _⟩
     ·have G:0<ls.length:=by omega
      obtain⟨J,cap,T,R,BO⟩:=f.out.own.row.form G;injection T with e1 e2 e3;subst e1;clear e2 e3 R BO;have cb:=f.out.blk.cell;have fb:=f.out.blk.free;have NE:(1:Int)<=(ls.length:Int):=aa;have lt:=f.out.lt
      have E:∀i,i<(ls.drop 1).length->bytes (aS (ls.drop 1) i):=λi hi=>by rw[ajp] at hi;rw[show aS (ls.drop 1) i=aS ls (1+i) by unfold aS;rw[List.getElem?_drop]];exact f.out.bI _ aa
      have hld:(ls.drop 1).length=ls.length-1:=ajp;rcases(by omega:c=1\/1<c) with rfl|hc
      ·go_wp2;go_meet;exact f.out.put (f.out.blk.set 4 _) (λ_ _ _ _ h=>absurd h aa) (rs:=ls.drop 1) aa aa E aa
      ·go_wp2;go_meet;exact f.out.put (f.out.blk.set 4 _) (λS Z hS k2=>(f.out.aL.Cv (l:=w.heap.size+1) rfl aa (ay _) S Z hS k2).tail) hld aa E aa
     ·have cf:=f.out.blk.cell 2;have ff:=f.out.blk.free 2;go_wp2;go_meet;exact f.out.oZ (f.out.blk.set 2 _) K aa
   case rest=>obtain⟨⟨W,H,I,q,A,m,c,ls,b,o,JC,hm,hy⟩,res,rd,ex⟩:=hcut.out;have cb:=b.cell;go_wp2_with(refine eH (cs':=(#[U O W,U O H,ci I,U O q,Y A m c]:Array AS)) rfl _ _ _ rfl rfl _ rfl rfl res rfl fq aj ?_;intro w9 b9 g9 s9);refine ahX (results_cell_row aC _ _ _ _ _ _ _ aC b9 (Gz.gu underlying25) rfl aj) rfl ?_;have e9:=al.bA g9;subst JC;exact⟨W,H,q,I,A,c,ls,rfl,λS Z hS k=>o (w.heap.size::S) Z (λx hx=>(mA.1 hx).elim (λe=>aa) λh=>by have:=hS x h;omega) ((e9.more au).trans (k.more λ_ h=>oy _ h)),hm,hy,rd.aq e9 av,ex.grown g9 (.inr (ay _))⟩
end
section
open Go.RowKit
def aO.alloc(h:aO w g P)(o:Obj):aO (w.alloc o) g P:=h.q ((Q.refl w).alloc o)
def aO.drewN(h:aO w g P)(n:Nat):aO (w.drewN n) g P:=h.q ((Q.refl w).drewN n)
def aO.drew(h:aO w g P):aO w.drew g P:=h.q ((Q.refl w).drew)
def aO.grown(h:aO w g P)(d:w.grownBy w' (an k))(e:g<k):aO w' g P:=h.aq (al.bA d) av
def aO.set(h:aO w g P){q:aic}(hq:g<q.block)(u:AS):aO (w.setCell q u) g P:=h.aq (S:=[q.block]) (al.set (al.refl _ _) (.inl au) _) av
def Q.draw{a:rl}(h:Q a w)(d:w.grownBy w' (an g))(hr:a.heap.size<=g):Q a w':=h.grown d (λk e=>by cases e;exact hr)
def ak.draw{cs:Array AS}(h:ak w k t cs)(f:w.grownBy w' (an g))(d:k≠g):ak w' k t cs:=h.grown f (λe=>d (by cases e;rfl))
def dM.draw{xs:List Int}(h:dM w lo hi v n xs)(f:w.grownBy w' (an g))(hd:g<lo\/hi<=g):dM w' lo hi v n xs:=by
 refine⟨h.1.other f ?_,h.2⟩;cases d:v.ownBlock with
 |none=>exact .inl rfl
 |some k=>refine .inr λe=>?_;cases e;have h1:=(h.1.2.lt g d).1;have i:=h.2 g d;omega
def Dr(g:Nat)(w w':rl):Prop:=w.grownBy w' (an g)
section
variable{a b c w w':rl}{g:Nat}
def Dr.refl(g:Nat)(w:rl):Dr g w w:=World.grownBy.refl w _
def Dr.trans(h:Dr g a b)(k:Dr g b c):Dr g a c:=World.grownBy.andThen (row':=an g) h k (λ_ e=>.inr e)
def Dr.dp(h:Q a b):Dr g a b:=⟨h.os,h.tape,h.output,h.size,λk d _=>h.block k d⟩
def Dr.q(h:Dr g a b)(k:Q b c):Dr g a c:=h.trans (Dr.dp k)
def Dr.size(h:Dr g a b):a.heap.size<=b.heap.size:=rZ h
def Dr.grown(h:Dr g a w)(d:w.grownBy w' (an k))(l:a.heap.size<=k):Dr g a w':=⟨d.os.trans h.os,d.tape.trans h.tape,d.output.trans h.output,aQ h.size d.size,λi hi f=>(d.block i (cC hi h.size) λe=>by cases e;omega).trans (h.block i hi f)⟩
def Dr.mark(h:Dr g a w){lo hi n:Nat}{v:AS}{ys:List Int}(h':dM w lo hi v n ys)(d:w.grownBy w' v.ownBlock)(hd:a.heap.size<=lo):Dr g a w':=⟨d.os.trans h.os,d.tape.trans h.tape,d.output.trans h.output,aQ h.size d.size,λi hi f=>(d.block i (cC hi h.size) λe=>by have:=(h'.1.2.lt i e.symm).1;omega).trans (h.block i hi f)⟩
def Dr.set(h:Dr g a w)(e:a.heap.size<=p.block)(u:AS):Dr g a (w.setCell p u):=⟨h.os,h.tape,h.output,by simpa[World.setCell] using h.size,λi hi d=>(im w p u i aa).trans (h.block i hi d)⟩
def aO.own{P:Nat}(h:aO w g P){lo hi n:Nat}{v:AS}{ys:List Int}(h':dM w lo hi v n ys)(d:w.grownBy w' v.ownBlock)(hd:g<lo):aO w' g P:=by obtain⟨A,n,c,xs,p,h1,f,i,l,q⟩:=h;have r:=h1.lt;refine⟨A,n,c,xs,p,h1.mark h' d (.inl hd),f,i,l.bK λb o s=>?_,q⟩;exact iH (a:=⟨b,o,ns⟩) (d.block b aa λe=>by have:=(h'.1.2.lt b e.symm).1;omega)
end
def Rc(h:aO w g P)(q:P<=900000):
  ahR Gz.prog 61 #[d9 (an ⟨g,0,ns⟩)] w λe w'=>∃s:Int,e=dl (U O s)/\(8<=s/\s<=32/\s%8=0)/\aO w' g (P+1)/\Dr g w w':=by
 have r:=h.lt;have y:(w.alloc (ap #[U O 1,U O 1,U O 1,U O 2,U O 2,U O 3,U O 4] 3)).heap.size=w.heap.size+1:=au;go_enter Gz.gf func61,ntmps61;go_wp2;refine(pick _ _ _ _ (h.alloc _) aa aa aa).mono ?_;rintro e f⟨x,rfl,z,C,i,d⟩;have D:=((ak.new w 3 #[U O 1,U O 1,U O 1,U O 2,U O 2,U O 3,U O 4]).draw d aa).cell;have l:Dr g w f:=(Dr.dp ((Q.refl w).alloc _)).trans d;clear h d;rcases(by omega:x=0\/x=1\/x=2\/x=3\/x=4\/x=5\/x=6) with rfl|rfl|rfl|rfl|rfl|rfl|rfl
 all_goals
  go_wp2;go_ret;exact⟨_,rfl,aa,i,l⟩
structure QS(g P a:Nat)(w wx:rl)(W H:Int)(A:Option aic)(m c:Nat):Prop where
 ba:ak wx a 28 #[U O 0,U O 0,Y ns 0 0]
 bb:ak wx (a+1) 28 #[U O W,U O H,Y A m c]
 o:∃xs,Own wx (a+2) (Y A m c) m xs
 rd:aO wx g P
 dr:al [g] w wx
 le:g<a/\w.heap.size=a/\a+2<=wx.heap.size
section
variable{g P P' a m c m' cz:Nat}{w wx wy wz:rl}{W H:Int}{A Az:Option aic}{xs ys:List Int}{o:Obj}
def QS.gr(h:QS g P a w wx W H A m c)(k:wx.grownBy wy (an g))(r:aO wy g P'):QS g P' a w wy W H A m c:=by obtain⟨h1,d,⟨xs,f⟩,_,l,q⟩:=h;have e:=al.bA k;have:=e.size;exact⟨h1.aq e av,d.aq e av,⟨xs,(f.i.draw k (.inl aa)).1⟩,r,l.trans e,aa⟩
def QS.q(h:QS g P a w wx W H A m c)(k:Q wx wy):QS g P a w wy W H A m c:=by have:=k.size;exact⟨h.ba.q k,h.bb.q k,h.o.imp λ_ x=>x.q k,h.rd.q k,h.dr.q k,by have:=h.le;omega⟩
def QS.more(h:QS g P a w wx W H A m c)(d:P<=P'):QS g P' a w wx W H A m c:=⟨h.ba,h.bb,h.o,h.rd.more d,h.dr,h.le⟩
def QS.kr(h:QS g P a w wx W H A m c)(d:Own wx (a+2) (Y A m c) m xs)(e:wx.grownBy wz (akF A m c).ownBlock):ak wz (a+1) 28 #[U O W,U O H,Y A m c]:=h.bb.mark d.i e (.inl aa)
def QS.app(h:QS g P a w wx W H A m c)(f:Own wx (a+2) (Y A m c) m xs)(d:wx.grownBy wz (akF A m c).ownBlock)(l:Own wz (a+2) (Y Az m' cz) m' ys):QS g P a w (wz.setCell ⟨a+1,2,ns⟩ (Y Az m' cz)) W H Az m' cz:=by
 have q:=h.le;have r:=rZ d;refine⟨(h.ba.mark f.i d (.inl aa)).aL (by show a≠a+1;omega) _,(h.kr f d).set 2 _,⟨ys,l.aL (by show a+1<_;omega) _⟩,(h.rd.own f.i d aa).set (by show g<a+1;omega) _,(h.dr.iL d λb e=>.inr ?_).set (.inr (by show _<=a+1;omega)) _,?_⟩
 ·have:=(f.2.lt b e).1;omega
 ·simp[World.setCell];omega
end
def Ws{e:Array ajq}{rest:List ajq}{o:ajq}{a:Act}{q:Exit->Act->rl->Prop}(i:o.guard=ns){s x:Operand}
  (z:o.op=.call {callee:=.builtin .append,args:=#[s,x],argTypes:=#[26,26]})
  (B:Nat){xs:List Int}(C:a.eval s=v)(d:Own w B v n xs)(ad:aic){y:Int}(D:a.eval x=Y (an ad) 1 c)
  (E:n<=1000000000000)(f:B<=w.heap.size)(hc:w.cell? ad=an (U O y))
  (h:∀v' w',Own w' B v' (n+1) (xs++[y])->B<=w'.heap.size->w.grownBy w' v.ownBlock->wpList Gz.prog e q rest (a.put o.dst v') w'):wpList Gz.prog e q (o::rest) a w:=by
 obtain⟨i0,hi,l,hz1,hz2⟩:=info_parts sK;refine wpList_append_own _ i s x 26 z B 3 i0 (U O 0) 1 8 (Gz.gu underlying26) hi l hz1 hz2 rfl aw v n _ C d.2 ad 1 c [U O y] D rfl ?_ ?_ ?_ ?_ f ?_
 ·exact Lr
 ·intro u hu;simp at hu;subst hu;rfl
 ·unfold maxLen;omega
 ·omega
 ·intro v' w' h1 r _;exact h v' w' ⟨by simp[d.1],by simpa using h1⟩ (aQ f r.size) r
def Si{W H:Int}(wn d:Nat)(h:aO w g P)(hP:P<=800000)(hW:W=(wn:Int))(hH:H=(d:Int))(h1:1<=wn)(h2:wn<=32)(h3:d<=32):
  ahR Gz.prog 31 #[d9 (an ⟨g,0,ns⟩),U O W,U O H] w λe w'=>∃v xs,e=dl (bi #[U O W,U O H,v])/\Own w' w.heap.size v (d*wn) xs/\aO w' g (P+2000)/\al [g] w w':=by
 subst hW hH;have hl:=h.lt;have rt:d*wn<=32*32:=eZ h3 h2;have M:Q w ((w.alloc (ap #[U O 0,U O 0,Y ns 0 0] 28)).alloc (ap #[U O wn,U O d,Y ns 0 0] 28)):=aU;have R:=ak.new (w.alloc (ap #[U O 0,U O 0,Y ns 0 0] 28)) 28 #[U O wn,U O d,Y ns 0 0];rw[World.size_alloc] at R;have K:=ag (show QS g P w.heap.size w _ wn d ns 0 0 from⟨(ak.new w 28 _).alloc _,R,⟨[],Own.nil _ _⟩,h.q M,al.dp _ M,hl,rfl,au⟩);clear R M h;go_enter Gz.gf func31,ntmps31;go_wp2;refine(pick _ _ _ _ K.out.rd aa aa aa).mono ?_;rintro e E⟨a,rfl,_,_,l,f⟩;replace K:=ag (K.out.gr f l);clear l f;go_wp2;refine(pick _ _ _ _ K.out.rd aa aa aa).mono ?_;rintro e E⟨dx,rfl,_,_,l,f⟩;replace K:=ag (K.out.gr f l);clear l f;go_wp2;refine(pick _ _ _ _ K.out.rd aa aa aa).mono ?_;rintro e E⟨dy,rfl,_,_,l,f⟩;replace K:=ag (K.out.gr f l);clear l f;go_wp2;replace K:=ag (K.out.q ((Q.refl E).alloc (ap #[U O 0,U O 1,U O 4,U O 30,U O 256] 3)));have pw:g<E.heap.size:=by have:=K.out.le;simp at this;omega
 refine(pick _ _ _ _ K.out.rd aa aa aa).mono ?_;rintro e w4⟨F,rfl,d1,d2,l,f⟩;have l4:=((ak.new E 3 #[U O 0,U O 1,U O 4,U O 30,U O 256]).draw f aa).cell;replace K:=ag (K.out.gr f l);clear l f
 obtain⟨N,hN,n1,n2⟩:∃N:Int,w4.cell? ⟨E.heap.size,F.toNat,ns⟩=an (U O N)/\0<=N/\N<=256:=by rcases(by omega:F=0\/F=1\/F=2\/F=3\/F=4) with rfl|rfl|rfl|rfl|rfl;all_goals exact⟨_,l4 _,aa,aa⟩
 clear l4;obtain⟨ex,hex⟩:∃ex,dx-4=ex:=⟨_,rfl⟩;obtain⟨ey,hey⟩:∃ey,dy-4=ey:=⟨_,rfl⟩;go_wp2;refine(pick _ _ _ _ K.out.rd aa aa aa).mono ?_;rintro e w5⟨ed,rfl,_,_,l,f⟩;replace K:=ag (K.out.gr f l);clear l f hN;go_wp2;go_loopw[13] (λi wr=>∃(y:Nat)(C:Option aic)(D:Nat),y<=d/\i=U O y/\Hid (QS g (P+5+y*wn) w.heap.size w wr wn d C (y*wn) D)) (λi _=>d-(intOf i).toNat)
 case atStart=>exact⟨0,ns,0,ez _,rfl,by rw[Nat.zero_mul];exact K⟩
 case round=>
  obtain⟨y,C,D,hy,rfl,K⟩:=hrel;by_cases S:y<d
  ·have B3:(y:Int)<(d:Int):=by omega
   obtain⟨w6,T⟩:∃w6,w6=wr:=⟨_,rfl⟩;go_wp2;subst T;go_loopw[14] (λi wr=>∃(x:Nat)(C:Option aic)(D:Nat),x<=wn/\i=U O x/\Hid (QS g (P+5+(y*wn+x)) w.heap.size w wr wn d C (y*wn+x) D)) (λi _=>wn-(intOf i).toNat)
   case atStart=>exact⟨0,C,D,ez _,rfl,K⟩
   case round=>
    obtain⟨x,C,D,hx,rfl,K⟩:=hrel;by_cases X:x<wn
    ·have hm:y*wn+x<d*wn:=FO y wn d x S X;have G:(x:Int)<(wn:Int):=aa;generalize hmm:y*wn+x=m at hm K⊢
     go_upto_if 56 with fail
     go_cut[15] from 41 to 78 (λn wx=>∃z:Int,n=U O z/\Hid (QS g (P+5+m+1) w.heap.size w wx wn d C m D))
     case first=>
      by_cases Z:N=0
      ·subst Z;go_wp2;go_meet;exact⟨_,rfl,K.out.more aa⟩
      ·have H9:0<N:=by omega
       go_wp2;refine(pick _ _ _ _ K.out.rd aa aa aa).mono ?_;rintro e wx⟨r,rfl,_,_,l,f⟩;replace K:=ag (K.out.gr f l);go_wp2;go_meet;exact⟨_,rfl,K.out⟩
     case rest=>
     obtain⟨z,rfl,K1⟩:=hcut
     go_upto_if 67 with fail
     go_cut[15] from 41 to 78 (λn wx=>∃z:Int,n=U O z/\Hid (QS g (P+5+m+1) w.heap.size w wx wn d C m D))
     case first=>
      by_cases hee:(ed:Int)<(x:Int)+(y:Int)/2
      all_goals
       go_wp2;go_meet;exact⟨_,rfl,K1.out⟩
     case rest=>
     obtain⟨z,rfl,J⟩:=hcut;obtain⟨xs,L⟩:=J.out.o;have HO:=ag L;have bc:=J.out.bb.cell;clear L K K1;go_wp2_with(at_builtin;refine Ws rfl rfl (w.heap.size+2) rfl (HO.out.alloc _) ⟨_,0,ns⟩ rfl aa (by have:=J.out.le;simp;omega) (rY _ _ _ _) ?_;intro v' wz oz sz gz;obtain⟨Az,cz,rfl⟩:=oz.form;have bz:=(J.out.q ((Q.refl wc).alloc _)).kr (HO.out.alloc _) gz;have bzc:=bz.cell;have bzf:=bz.free;have K4:=ag ((J.out.q ((Q.refl wc).alloc _)).app (HO.out.alloc _) gz oz);clear bz gz oz sz);go_roundw;case rel=>exact⟨x+1,Az,cz,aa,aJ,by rw[show y*wn+(x+1)=m+1 by omega];exact K4.out⟩
     case measure=>exact bj
    ·have G:x=wn:=by omega
     subst G;go_wp2;go_roundw;case rel=>exact⟨y+1,C,D,aa,aJ,by rw[Nat.succ_mul];exact K⟩
     case measure=>exact bj
  ·have Hw:y=d:=by omega
   subst Hw;have bc:=K.out.bb.cell;have ac:=K.out.ba.cell;have af:=K.out.ba.free;obtain⟨xs,L⟩:=K.out.o;go_wp2;have e:=((mU wr w.heap.size 0 (U O (wn:Int))).trans (mU _ w.heap.size 1 (U O (y:Int)))).trans (mU _ w.heap.size 2 (Y C (y*wn) D));exact ahX (v:=bi #[U O (wn:Int),U O (y:Int),Y C (y*wn) D]) (by simp[results,results31,go_sem,ac]) rfl ⟨_,xs,rfl,Own.mono (L.aq e au) aa,(K.out.rd.aq e av).more aa,K.out.dr.aq e λs h=>.inr yA⟩
end
section
open Go.RowKit
def dv(w:rl)(lo hi:Nat)(A:Option aic)(xs:List Int):Prop:=
 0<xs.length->∃b o,A=an ⟨b,o,ns⟩/\lo<=b/\b<hi/\∀i,i<xs.length->w.cell? ⟨b,o+i,ns⟩=an (U O (xs[i]?.getD 0))
section
variable{w w':rl}{lo hi i9 hi' n g:Nat}{A:Option aic}{c:Nat}{xs ys:List Int}{v':AS}
def dv.nil(w:rl)(lo hi:Nat)(A:Option aic):dv w lo hi A []:=λh=>absurd h au
def dv.bK(h:dv w lo hi A xs)(e:∀b o,lo<=b->b<hi->w'.cell? ⟨b,o,ns⟩=w.cell? ⟨b,o,ns⟩):dv w' lo hi A xs:=λf=>by obtain⟨b,o,rfl,h1,d,hc⟩:=h f;exact⟨b,o,rfl,h1,d,λi hi=>(e b _ h1 d).trans (hc i hi)⟩
def dv.rd(h:dv w lo hi A xs):Rd w hi A xs:=λd=>by obtain⟨b,o,rfl,h1,e,hc⟩:=h d;exact⟨b,o,rfl,e,hc⟩
def dv.mono(h:dv w lo hi A xs)(h1:i9<=lo)(e:hi<=hi'):dv w i9 hi' A xs:=λd=>by obtain⟨b,o,rfl,f,i,hc⟩:=h d;exact⟨b,o,rfl,aa,aa,hc⟩
def dv.q(h:dv w lo hi A xs)(hq:Q w w')(d:hi<=w.heap.size):dv w' lo hi A xs:=h.bK λb o _ e=>hq.cell b o aa
def dv.draw(h:dv w lo hi A xs)(d:w.grownBy w' (an g))(f:hi<=w.heap.size)(hd:g<lo\/hi<=g):dv w' lo hi A xs:=
 h.bK λb o h1 i=>iH (a:=⟨b,o,ns⟩) (d.block b aa λe=>by cases e;omega)
def dv.mark(h:dv w lo hi A xs)(h':dM w i9 hi' v' n ys)(d:w.grownBy w' v'.ownBlock)(f:hi<=w.heap.size)(hd:hi<=i9\/hi'<=lo):dv w' lo hi A xs:=
 h.bK λb o h1 i=>iH (a:=⟨b,o,ns⟩) (d.block b aa λe=>by have l:=(h'.1.2.lt b e.symm).1;have q:=h'.2 b e.symm;omega)
def dv.aL(h:dv w lo hi A xs)(d:p.block<lo\/hi<=p.block)(u:AS):dv (w.setCell p u) lo hi A xs:=
 h.bK λb o h1 e=>iH (a:=⟨b,o,ns⟩) (im w p u b (by show b≠p.block;omega))
def dM.Cw(h:dM w lo hi (Y A n c) n xs):dv w lo hi A xs:=λq=>by
 have r:=h.1.1;rcases h.1.dC with⟨d,s⟩|⟨g,e,d,f,x,_⟩
 ·omega
 ·have l:A=an ⟨g,0,ns⟩:=by injection d
  subst l;refine⟨g,0,rfl,f,h.2 g (by simp[Value.ownBlock]),λi hi=>?_⟩;rw[Nat.zero_add];exact h.1.at i aa
def dv.tail(h:dv w lo hi (an ⟨g,0,ns⟩) xs):dv w lo hi (an ⟨g,1,ns⟩) (xs.drop 1):=λd=>by simp only[ajp] at d;obtain⟨b,o,e,f,l,hc⟩:=h aa;cases e;refine⟨g,1,rfl,f,l,λi hi=>?_⟩;simp only[ajp] at hi;have:=hc (1+i) aa;rw[Nat.zero_add] at this;rw[this];simp[Nat.add_comm]
end
def TX(d w':rl)(e:Ending):Prop:=∃(W H:Int)(A:Option aic)(m c:Nat)(xs:List Int),e=dl (bi #[U O W,U O H,Y A m c])/\dv w' d.heap.size w'.heap.size A xs/\xs.length=m/\m<=1024
def Qb{s:Int}(h:8<=s/\s<=32/\s%8=0):∃k:Nat,s=(k:Int)/\8<=k/\k<=32:=⟨s.toNat,aa,aa,aa⟩
structure PS(g P a b:Nat)(w wx:rl)(W H:Int)(A:Option aic)(m c:Nat)(xs:List Int):Prop where
 ba:ak wx a 28 #[U O 0,U O 0,Y ns 0 0]
 bb:ak wx b 28 #[U O W,U O H,Y A m c]
 o:∃lo,a<lo/\dM wx lo b (Y A m c) m xs
 rd:aO wx g P
 dr:al [g] w wx
 le:g<a/\a<b/\w.heap.size=a/\b<wx.heap.size
structure PE(g P a b:Nat)(w wx:rl):Prop where
 ba:ak wx a 28 #[U O 0,U O 0,Y ns 0 0]
 bb:∃W H A m c xs,ak wx b 28 #[U O W,U O H,Y A m c]/\dv wx (a+1) b A xs/\xs.length=m/\m<=1024
 rd:aO wx g P
 dr:al [g] w wx
 le:g<a/\a<b/\w.heap.size=a/\b<wx.heap.size
section
variable{g P P' a b m c:Nat}{w wx wy:rl}{W H V:Int}{A:Option aic}{xs:List Int}
def dv.aq{S:List Nat}(h:dv wx lo hi A xs)(k:al S wx wy)(f:hi<=wx.heap.size)(d:∀x,x∈S->x<lo\/hi<=x):dv wy lo hi A xs:=h.bK λb o h1 i=>iH (a:=⟨b,o,ns⟩) (k.block b aa λe=>by have:=d _ e;omega)
def PS.gr(h:PS g P a b w wx W H A m c xs)(k:wx.grownBy wy (an g))(r:aO wy g P'):PS g P' a b w wy W H A m c xs:=by obtain⟨h1,d,⟨lo,f,i⟩,_,l,q⟩:=h;have e:=al.bA k;have:=e.size;exact⟨h1.aq e av,d.aq e av,⟨lo,f,i.draw k (.inl aa)⟩,r,l.trans e,aa⟩
def PS.q(h:PS g P a b w wx W H A m c xs)(k:Q wx wy):PS g P a b w wy W H A m c xs:=by have:=k.size;exact⟨h.ba.q k,h.bb.q k,h.o.imp λ_ x=>⟨x.1,x.2.q k⟩,h.rd.q k,h.dr.q k,by have:=h.le;omega⟩
def PS.e(h:PS g P a b w wx W H A m c xs)(hm:m<=1024)(f:P<=P':=by omega):PE g P' a b w wx:=by obtain⟨lo,i,d⟩:=h.o;exact⟨h.ba,⟨_,_,_,_,_,_,h.bb,d.Cw.mono i (ay _),d.1.1,hm⟩,h.rd.more f,h.dr,h.le⟩
def PS.put(h:PS g P a b w wx W H A m c xs)(hm:m<=1024){W' H':Int}{A':Option aic}{m' c':Nat}{ys:List Int}(f:ak (wx.setCell ⟨b,k,ns⟩ v) b 28 #[U O W',U O H',Y A' m' c'])(i:dv wx (a+1) b A' ys)(l:ys.length=m')(d:m'<=1024)(q:P<=P':=by omega):PE g P' a b w (wx.setCell ⟨b,k,ns⟩ v):=by have e:=mU wx b k v;have:=h.le;have:=e.size;exact⟨h.ba.aq e av,⟨_,_,_,_,_,_,f,i.aq e aa au,l,d⟩,(h.rd.aq e av).more q,h.dr.set (.inr (by show _<=b;omega)) v,aa⟩
def PS.oZ(h:PS g P a b w wx W H A m c xs)(hm:m<=1024){W' H':Int}(e:ak (wx.setCell ⟨b,k,ns⟩ v) b 28 #[U O W',U O H',Y A m c])(f:P<=P':=by omega):PE g P' a b w (wx.setCell ⟨b,k,ns⟩ v):=by obtain⟨lo,i,d⟩:=h.o;exact h.put hm e (d.Cw.mono i (ay _)) d.1.1 hm f
def TY{x y z:AS}(W H:Int)(c:Nat)(o:dv wx lo b A xs)(d:xs.length=m)(hm:m<=1024)(rd:aO wx g P)(f:al [g] w wx)(le:g<a/\a<lo/\w.heap.size=a/\b<=wx.heap.size)(i:P<=P'):
  TX w (((wx.setCell ⟨a,0,ns⟩ x).setCell ⟨a,1,ns⟩ y).setCell ⟨a,2,ns⟩ z) (dl (bi #[U O W,U O H,Y A m c]))/\aO (((wx.setCell ⟨a,0,ns⟩ x).setCell ⟨a,1,ns⟩ y).setCell ⟨a,2,ns⟩ z) g P'/\al [g] w (((wx.setCell ⟨a,0,ns⟩ x).setCell ⟨a,1,ns⟩ y).setCell ⟨a,2,ns⟩ z):=by
 have e:=((mU wx a 0 x).trans (mU _ a 1 y)).trans (mU _ a 2 z);have:=e.size;exact⟨⟨W,H,A,m,c,xs,rfl,(o.aq e le.2.2.2 av).mono aa aa,d,hm⟩,(rd.aq e av).more i,f.aq e λs h=>.inr yA⟩
def PS.smp{d j:Nat}(h:PS g P a b w wx W H (an ⟨d,0,ns⟩) m c xs)(q:a<d)(i:d<b):PS g P a b w (wx.setCell ⟨d,j,ns⟩ (U O V)) W H (an ⟨d,0,ns⟩) m c (xs.set j V):=by have e:=mU wx d j (U O V);obtain⟨lo,l,f⟩:=h.o;have:=h.le;have:=e.size;exact⟨h.ba.aq e av,h.bb.aq e av,⟨lo,l,f.1.set j V,f.2⟩,h.rd.aq e av,h.dr.set (.inr (by show _<=d;omega)) _,aa⟩
end
def S7{p:Prop}(h:p:=by
 refine ai 10 (h:=?_)
 obtain⟨V,d⟩:∃V:Int,wz.cell? ⟨nb,q.toNat,none⟩=some (.int .i64 V):=by rcases(by omega:q=0\/q=1) with rfl|rfl;all_goals exact⟨_,lb.cell _⟩
 refine bw (k:=11) (by kernel_rfl) rfl rfl λKK hK=>?_;go_simp;refine hK.out _ _ (K.out.bb.cell 2) λhS=>?_;clear hK KK;refine bh ?_;refine gi [12,13] 12 (by kernel_rfl) (by decide) rfl ?_;obtain⟨lo,_,o⟩:=K.out.o;have f:=o.1.at j.toNat (by omega);have of:=o.1.free j.toNat;go_wp2;go_meet;exact(K.out.smp (by omega) hgb).e (by omega)):p:=h
def Zn{N:Int}(h:aO w g P)(hP:P<=700000)(hN:1<=N)(hN':N<=1000):
  ahR Gz.prog 35 #[d9 (an ⟨g,0,ns⟩),U O N] w λe w'=>TX w w' e/\aO w' g (P+3000)/\al [g] w w':=by
 have hl:=h.lt;have f:=ak.new w 28 #[U O 0,U O 0,Y ns 0 0];have x:al [g] w (w.alloc (ap #[U O 0,U O 0,Y ns 0 0] 28)):=(al.refl _ w).alloc _;have s0:=x.size;go_enter Gz.gf func35,ntmps35;go_wp2;refine(Rc (h.q aU) aa).mono ?_;rintro e wv⟨W,rfl,hW,r1,F⟩;replace F:al [g] _ _:=al.bA F;replace f:=f.aq F av;replace x:=x.trans F;go_wp2;refine(Rc r1 aa).mono ?_;rintro e wv⟨H,rfl,hH,r2,G⟩;replace G:al [g] _ _:=al.bA G;replace f:=f.aq G av;replace x:=x.trans G;have s2:=f.lt;obtain⟨wn,rfl,w1,w2⟩:=Qb hW;obtain⟨E,rfl,h1,h2⟩:=Qb hH;clear hW hH r1 h F G;go_wp2;refine(Si wn E r2 aa rfl rfl aa aa aa).mono ?_;rintro e w3⟨v,xs,rfl,T,r3,Z⟩;obtain⟨A,c,rfl⟩:=T.form;have Cn:E*wn<=32*32:=eZ h2 w2;have rt:8*8<=E*wn:=eZ h1 w1;replace f:=f.aq Z av;replace x:=x.trans Z;have s3:=f.lt;generalize E*wn=m at Cn rt T⊢;have J:Q w3 (w3.alloc (ap #[U O wn,U O E,Y A m c] 28)):=(Q.refl w3).alloc _;have K:=ag (show PS g _ w.heap.size w3.heap.size w _ wn E A m c xs from⟨f.q J,ak.new w3 28 _,⟨_,s2,T.i.q J⟩,r3.q J,x.q J,hl,s3,rfl,au⟩);clear f x r3 Z s0 s2 r2 T;go_wp2;refine(VQ K.out.rd aa aa aa).mono ?_;rintro e w5⟨t,rfl,l,g5⟩;replace K:=ag (K.out.gr g5 l);clear l g5 J;obtain⟨a,ha⟩:∃z,w.heap.size=z:=⟨_,rfl⟩;obtain⟨b,hb⟩:∃z,w3.heap.size=z:=⟨_,rfl⟩;rw[ha,hb] at K;rw[hb] at s3⊢;rw[ha] at hl s3⊢
 go_upto_if 16 with fail
 go_cut[] from 17 (λwx=>Hid (PE g (P+2030) a b w wx))
 case first=>
  cases t
  ·go_wp2;go_meet;exact K.out.e aa
  ·go_wp2;refine(pick _ _ _ _ K.out.rd aa aa aa).mono ?_;rintro e s⟨k,rfl,k1,k2,r6,g6⟩;replace K:=ag (K.out.gr g6 r6);clear r6 g6;rcases(by omega:k=0\/k=1\/k=2\/k=3\/k=4) with rfl|rfl|rfl|rfl|rfl
   ·go_wp2;refine(pick _ _ _ _ (K.out.rd.q aU) aa aa aa).mono ?_;rintro e w7⟨k,rfl,k1,k2,L,y⟩;have M:=((ak.new s 3 #[U O 0,U O 7,U O 12,U O 40,U O (-8)]).draw y (by have:=K.out.le;omega)).cell
    obtain⟨V,hV⟩:∃V:Int,w7.cell? ⟨s.heap.size,k.toNat,ns⟩=an (U O V):=by rcases(by omega:k=0\/k=1\/k=2\/k=3\/k=4) with rfl|rfl|rfl|rfl|rfl;all_goals exact⟨_,M _⟩
    replace K:=ag ((K.out.q ((Q.refl s).alloc _)).gr y L);clear M L y;have bc:=K.out.bb.cell;have bf:=K.out.bb.free;go_wp2;go_meet;exact K.out.oZ aa (K.out.bb.set 0 (U O V))
   ·go_wp2;refine(pick _ _ _ _ (K.out.rd.q aU) aa aa aa).mono ?_;rintro e w7⟨k,rfl,k1,k2,L,y⟩;have M:=((ak.new s 3 #[U O 0,U O 9,U O 40]).draw y (by have:=K.out.le;omega)).cell
    obtain⟨V,hV⟩:∃V:Int,w7.cell? ⟨s.heap.size,k.toNat,ns⟩=an (U O V):=by rcases(by omega:k=0\/k=1\/k=2) with rfl|rfl|rfl;all_goals exact⟨_,M _⟩
    replace K:=ag ((K.out.q ((Q.refl s).alloc _)).gr y L);clear M L y;have bc:=K.out.bb.cell;have bf:=K.out.bb.free;go_wp2;go_meet;exact K.out.oZ aa (K.out.bb.set 1 (U O V))
   ·obtain⟨lo,R,C⟩:=K.out.o;rcases C.1.dC with⟨_,hz⟩|⟨X,cb,he,nl,rk,hb3,D⟩
    ·omega
    cases he;have hgb:=C.2 X (by simp[Value.ownBlock]);unfold maxLen at D;have k0:s.cell? ⟨b,2,ns⟩=an (Y (an ⟨X,0,ns⟩) m c):=K.out.bb.cell 2;replace K:=ag (K.out.q (Q.refl s).drew);clear C;go_wp2;refine eo (λww=>ww.cell? ⟨b,2,ns⟩=an (Y (an ⟨X,0,ns⟩) m c)) (λj=>decide (12<=j)) aj k0 λhS=>?_;refine ai 0 (h:=ai 1 (h:=ai 2 (h:=ai 3 (h:=ai 4 (h:=ai 5 (h:=ai 8 (h:=?_)))))));clear k0;generalize s.drew=wz at K hS⊢;have ahN:(1:Int)<=(m:Int):=aa;refine Na (i:=6) (j:=7) aj rfl rfl rfl rfl (λKK hK=>?_) (λKK hK=>?_)
    ·go_simp;refine(pick _ _ _ _ K.out.rd aa aa aa).mono ?_;rintro e wz⟨j,rfl,j1,j2,l,d⟩;(try replace lb:=lb.draw d aa);have sz:=rZ d;replace K:=ag (K.out.gr d l);clear d l;refine hK.out _ _ (K.out.bb.cell 2) λhS=>?_;clear hK KK;refine bh ?_;refine Na (i:=7) (j:=9) aj rfl rfl rfl rfl (λKK hK=>?_) (λKK hK=>?_)
     ·go_simp;have lb:=ak.new wz 3 #[U O (-1),U O 256];have r:=K.out.le.2.2.2;replace K:=ag (K.out.q ((Q.refl wz).alloc (ap #[U O (-1),U O 256] 3)));generalize S:wz.heap.size=nb at lb r⊢;generalize wz.alloc (ap #[U O (-1),U O 256] 3)=wz at lb K hS⊢;refine hK.out _ _ (K.out.bb.cell 2) λhS=>?_;clear hK KK;refine bh ?_;exact Ll
     ·go_simp;refine(pick _ _ _ _ K.out.rd aa aa aa).mono ?_;rintro e wz⟨q,rfl,q1,q2,l,d⟩;(try replace lb:=lb.draw d aa);have sz:=rZ d;replace K:=ag (K.out.gr d l);clear d l;refine hK.out _ _ (K.out.bb.cell 2) λhS=>?_;clear hK KK;refine bh ?_;refine bw (k:=7) aj rfl rfl λKK hK=>?_;go_simp;have lb:=ak.new wz 3 #[U O (-1),U O 256];have r:=K.out.le.2.2.2;replace K:=ag (K.out.q ((Q.refl wz).alloc (ap #[U O (-1),U O 256] 3)));generalize S:wz.heap.size=nb at lb r⊢;generalize wz.alloc (ap #[U O (-1),U O 256] 3)=wz at lb K hS⊢;refine hK.out _ _ (K.out.bb.cell 2) λhS=>?_;clear hK KK;refine bh ?_;exact S7
    ·go_simp;have lb:=ak.new wz 3 #[U O (-1),U O 256];have r:=K.out.le.2.2.2;replace K:=ag (K.out.q ((Q.refl wz).alloc (ap #[U O (-1),U O 256] 3)));generalize S:wz.heap.size=nb at lb r⊢;generalize wz.alloc (ap #[U O (-1),U O 256] 3)=wz at lb K hS⊢;refine hK.out _ _ (K.out.bb.cell 2) λhS=>?_;clear hK KK;refine bh ?_;refine bw (k:=6) aj rfl rfl λKK hK=>?_;go_simp;refine(pick _ _ _ _ K.out.rd aa aa aa).mono ?_;rintro e wz⟨j,rfl,j1,j2,l,d⟩;(try replace lb:=lb.draw d aa);have sz:=rZ d;replace K:=ag (K.out.gr d l);clear d l;refine hK.out _ _ (K.out.bb.cell 2) λhS=>?_;clear hK KK;refine bh ?_;exact Ll
   ·obtain⟨lo,R,C⟩:=K.out.o;rcases C.1.dC with⟨_,hz⟩|⟨X,cb,he,nl,rk,hb3,D⟩
    ·omega
    cases he;have bc:=K.out.bb.cell;have bf:=K.out.bb.free;have X':(1:Int)<=(m:Int):=aa;have If:(m:Int)<=(c:Int):=aa;have xm:¬c=1:=aa;unfold maxLen at D;go_wp2;go_meet;exact K.out.put aa (K.out.bb.set 2 _) (C.Cw.mono R (ay _)).tail (by rw[ajp,C.1.1]) aa
   ·have ac:=K.out.ba.cell;have af:=K.out.ba.free;go_wp2;exact ahX (v:=bi #[U O 0,U O 0,Y ns 0 0]) (by simp[results,results35,go_sem,ac]) rfl (TY 0 0 0 (dv.nil s (a+1) a ns) rfl aa K.out.rd K.out.dr (by have:=K.out.le;omega) aa)
 case rest=>obtain⟨f,⟨W,H,A,m,c,xs,bb,o,JC,hm⟩,rd,dr,le⟩:=hcut.out;have bc:=bb.cell;have ac:=f.cell;have af:=f.free;go_wp2;exact ahX (v:=bi #[U O W,U O H,Y A m c]) (by simp[results,results35,go_sem,ac]) rfl (TY W H c o JC hm rd dr aa aa)
end
end Go.Proofs.Q0
