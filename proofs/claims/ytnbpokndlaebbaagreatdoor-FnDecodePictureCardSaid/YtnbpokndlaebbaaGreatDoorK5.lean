import Derived.Test.YtnbpokndlaebbaaGreatDoorK4
set_option maxRecDepth 100000
set_option maxHeartbeats 8000000
set_option linter.all false
open Go.Value renaming int->U,slice->Y,bool->ci,agg->bi,pointer->d9,tuple->em,iface->gc
open Go.IntKind renaming i64->O
open Go.Obj renaming cells->ap
open Go.Ending renaming returned->dl
open Bool renaming and_eq_true->Uy,and_false->akJ,false->Ba,false_and->akG,true->AT
open Go renaming Oper->ajq,TypeId->SL,World->rl,wpList->aiB
open Go.World renaming size_alloc->NO
open List renaming append_assoc->ait,cons_append->aje,flatMap_append->akl,length_append->ahc,length_cons->ais,length_map->aiS,length_singleton->ake,range_succ->aiU,replicate->so,take_of_length_le->ajv
open Option renaming none->ns,some->an
namespace Go.Proofs
def Dh{p:Prop}(h:p:=by simp only[List.flatMap_cons,List.flatMap_nil,List.append_nil]):p:=h
abbrev oA:=@Classical.byContradiction
abbrev uW:=@List.mem_append
def CC{p:Prop}(h:p:=by rw[bZ (by omega)];exact hk):p:=h
def yM{p:Prop}(h:p:=by rw[World.size_alloc,World.size_alloc] at this;exact this):p:=h
def LB{p:Prop}(h:p:=by unfold Hid fg;rw[if_neg (by rw[h];intro k;cases k.2)];unfold mL preB;rw[h];rfl):p:=h
def yA{p:Prop}(h:p:=by simp at h;omega):p:=h
end Go.Proofs
namespace Go.Proofs.Q0
open Go.Proofs.Tryz
variable{k n s B:Nat}{h l m r xs ys:List Int}{be:Bool}{w:rl}{t:SL}
def Qo{x:Int}(h:0<=x)(k:x<=65534):(-16<=aY x/\aY x<=16)<->x<=32:=by
 unfold aY;split
 ·omega
 ·omega
def Ao(b:k<h.length):ax (h++l) k=ax h k:=by unfold ax;rw[List.getElem?_append_left b]
def acB{o:Nat}(b:o+k<=h.length):sub (h++l) o k=sub h o k:=by unfold sub;rw[List.drop_append_of_le_length aa,List.take_append_of_le_length av]
def Oa(o:Nat)(e:o=h.length)(b:k=l.length):sub (h++l) o k=l:=by unfold sub;subst e;subst b;simp
def ln(h:List Int):Bool:=j5 h&&kV h
def ZA(d:h.length=7)(b:ax h 0≠0):j5 (h++l)=j5 h:=by have e:∀k,k<7->ax (h++l) k=ax h k:=λk b=>Ao aa;unfold j5 jI kU lZ;rw[e 0 aw,e 1 aw,e 2 aw,e 3 aw,e 4 aw,e 5 aw,e 6 aw,acB aa,if_neg b,if_neg b]
def aaQ(d:h.length=7)(b:l.length=64)(f:ax h 0≠0):dt (h++l)=(ln h&&aW l 4080):=by have e:∀k,k<7->ax (h++l) k=ax h k:=λk f=>Ao aa;unfold dt ln;rw[ZA d f,Oa 7 d.symm b.symm];unfold kV;rw[e 1 aw,e 2 aw]
def acC(x y:Int):ln [1,x,y,0,0,0,0]=(decide (-16<=x/\x<=16)&&decide (-16<=y/\y<=16)):=rfl
def Qp{b:List Int}(h:b.length=4):ln ([2,0,0]++b)=b.all λx=>decide (0<=x/\x<=4):=by unfold ln j5;have d:ax ([2,0,0]++b) 0=2:=rfl;have e:kU ([2,0,0]++b)=AT:=rfl;have f:kV ([2,0,0]++b)=AT:=rfl;have i:=Oa (h:=[2,0,0]) 3 rfl h.symm;rw[d,e,f,if_neg aw,if_neg aw,if_pos rfl];unfold lZ;rw[i,Bool.and_true,Bool.and_true]
theorem aaR{d:aA}:
  (∃h j,qK d=an (h,j)/\tB (d,0)=(h,(j,0))/\ln h=AT)\/
  (qK d=ns/\((tB (d,0)).2.2≠0\/ln (tB (d,0)).1=Ba)):=by
 unfold qK tB;cases f:(aT 2 d).1 with
 |none=>exact .inr ⟨rfl,.inl (sN 2 (sw f 0))⟩
 |some x=>
  rw[su f 0];have b:=jW f;dsimp only;generalize(aT 2 d).2=d1;cases i:(aT 2 d1).1 with
  |none=>exact .inr ⟨rfl,.inl (sw i 0)⟩
  |some y=>
   rw[su i 0];have e:=jW i;have p:=acC (aY x) (aY y);have ex:=Qo b.1 b.2;have q:=Qo e.1 e.2;by_cases u:32<x\/32<y
   ·grind
   ·simp_all
def aaS{d:aA}:
  (∃h i,mO d=an (h,i)/\mK (d,0)=(h,(i,0))/\ln h=AT)\/
  (mO d=ns/\((mK (d,0)).2.2≠0\/ln (mK (d,0)).1=Ba)):=by
 unfold mO mK;have e:=D8 4 (d,0);dsimp only;rcases Nq 4 d with⟨r,d2,f,b,j⟩|⟨f,b⟩
 ·rw[f,b];rw[b] at e;exact .inl ⟨_,_,rfl,rfl,(Qp e).trans j⟩
 ·rw[f];refine .inr ⟨rfl,?_⟩;rcases b with b|b
  ·omega
  ·exact .inr ((Qp e).trans b)
def acD(be:Bool)(d:aA):(lM be (d,0)).2=((lM be (d,0)).2.1,0):=by unfold lM;split<;>rfl
def acE(be:Bool)(d:aA):iM be (d,0)=((iM be (d,0)).1,0):=by unfold iM;split<;>rfl
def Ob(be:Bool)(d:aA):
  (∃h b,lQ be d=an (h,b)/\fz be (d,0)=(h,(b,0))/\ln h=AT)\/
  (lQ be d=ns/\((fz be (d,0)).2.2≠0\/ln (fz be (d,0)).1=Ba)):=by
 have e:=acD be d;unfold lQ fz;rw[e];split
 ·exact aaR
 ·exact aaS
def Nr(be:Bool)(s:bF):ax (fz be s).1 0≠0/\(be=AT->ax (fz be s).1 0=2):=by
 unfold fz;split
 ·rename_i h;refine⟨by show(1:Int)≠0;decide,λe=>?_⟩;subst e;exact absurd h (by show¬(2:Int)=1;decide)
 ·exact⟨by show(2:Int)≠0;decide,λ_=>rfl⟩
def ZB:dR Ba et=AT:=aF
theorem Yq(be:Bool)(d:aA):
  (∃h f,gL be d=an (h,f)/\dV be (d,0)=(h,(f,0))/\dR be h=AT)\/
  (gL be d=ns/\((dV be (d,0)).2.2≠0\/dR be (dV be (d,0)).1=Ba)):=by
 unfold gL dV;by_cases i:be=Ba/\cV d 0=0
 ·rw[if_pos i,if_pos (show be=Ba/\cV ((d,0):bF).1 0=0 from i)];refine .inl ⟨_,_,rfl,rfl,?_⟩;rw[i.1];exact ZB
 ·rw[if_neg i,if_neg (show¬(be=Ba/\cV ((d,0):bF).1 0=0) from i)];have e:=acE be d;rw[e];dsimp only;generalize(iM be (d,0)).1=d0;have q:=Ek be (d0,0);obtain⟨u,v⟩:=Nr be (d0,0)
  have p:∀l:List Int,l.length=64->dR be ((fz be (d0,0)).1++l)=(ln (fz be (d0,0)).1&&aW l 4080):=by intro l j;unfold dR;rw[aaQ q j u,Ao aa];have:(!be||ax (fz be (d0,0)).1 0==2)=AT:=eW;rw[this,Bool.and_true]
  rcases Ob be d0 with⟨h,f,h1,b,z⟩|⟨h1,b⟩
  ·rw[h1];have j:=zC 4 (f,0);rcases N9 4 f with⟨r,d2,x,y,A⟩|⟨x,y⟩
   ·simp_all
   ·simp_all
  ·rw[h1];refine .inr ⟨rfl,?_⟩;rcases b with b|b
   ·exact .inl (Ep 4 b)
   ·exact .inr (by rw[p _ (zC 4 _),b,akG])
def aaT(h:m.length=71):aP (m++r) 0=m:=by unfold aP sub;rw[Nat.mul_zero,List.drop_zero,List.take_append_of_le_length aa,ajv aa]
def aaU(h:m.length=71)(k:Nat):aP (m++r) (k+1)=aP r k:=by unfold aP sub;rw[show 71*(k+1)=m.length+71*k by omega,List.drop_append,List.drop_of_length_le aa];simp
def Er(be:Bool)(h:m.length=71)(n:Nat):gx be (m++r) (n+1)=(dR be m&&gx be r n):=by unfold gx;rw[List.range_succ_eq_map,List.all_cons,List.all_map,aaT h];congr 1;congr 1;funext k;exact congrArg _ (aaU h k)
def Ns(be:Bool):∀(k:Nat)(d:aA),
  (∃xs,jD be k d=an xs/\(eP be k (d,0)).1=an xs/\gx be xs k=AT)\/
  (jD be k d=ns/\∀xs,(eP be k (d,0)).1=an xs->gx be xs k=Ba)
 |0,d=>.inl ⟨[],rfl,rfl,rfl⟩
 |k+1,d=>by
  rw[jD,eP];have f:=D9 be (d,0);rcases Yq be d with⟨h,j,h1,p,v⟩|⟨h1,p⟩
  ·rw[h1];rw[p] at f⊢;dsimp only at f⊢;rw[if_neg aw];rcases Ns be k j with⟨r,q,e,x⟩|⟨q,e⟩
   ·rw[q];refine .inl ⟨_,rfl,?_,by rw[Er be f,v,x];rfl⟩;generalize eP be k (j,0)=z at e;obtain⟨i,u⟩:=z;dsimp only at e;rw[e]
   ·rw[q];refine .inr ⟨rfl,λxs b=>?_⟩;generalize eP be k (j,0)=z at e b;obtain⟨i,u⟩:=z;cases i with
    |none=>cases b
    |some r=>dsimp only at b e;injection b with b;rw[<-b,Er be f,e r rfl,akJ]
  ·rw[h1];refine .inr ⟨rfl,λxs b=>?_⟩;by_cases he:(dV be (d,0)).2.2≠0
   ·rw[if_pos he] at b;cases b
   ·rw[if_neg he] at b;have hm:dR be (dV be (d,0)).1=Ba:=p.resolve_left he;generalize eP be k (dV be (d,0)).2=z at b;obtain⟨i,u⟩:=z;cases i with
    |none=>cases b
    |some r=>dsimp only at b;injection b with b;rw[<-b,Er be f,hm,akG]
def Qr(h:gx be xs n=Ba):dO be xs n=ns:=by unfold dO;rw[h,akJ,if_neg aw]
structure ei(d:aA):Prop where
 ok:cj d
 code:d.code=0
 rest:d.rest=[]
def Qs{d:aA}(h:d.code=0)(k:d.rest=[]):(dc d).code=0/\(dc d).rest=[]:=by unfold dc;rw[h,k];exact⟨rfl,rfl⟩
def ei.bit{d:aA}(h:ei d)(c:Nat)(hc:c<40):cV d c=0:=by obtain⟨b,e⟩:=h.ok.ch c hc;have:=(lG h.ok.lo h.ok.hi b e).1;unfold cV;rw[h.code];unfold dZ;omega
theorem ei.jN{d:aA}(h:ei d)(c:Nat)(hc:c<40):ei (bT d c):=by
 have b:=h.ok.jN c hc;have e:=h.bit c hc;refine⟨b,?_,?_⟩<;>
 ·have hm:(dQ d c).code=0/\(dQ d c).rest=[]:=by
   unfold cV at e;unfold dQ;split
   ·exact⟨h.code,h.rest⟩
   ·omega
  have h1:=Qs hm.1 hm.2;have f1:(feed (dQ d c)).code=0/\(feed (dQ d c)).rest=[]:=h1;have f:=Qs f1.1 f1.2;have f2:(feed (feed (dQ d c))).code=0/\(feed (feed (dQ d c))).rest=[]:=f;unfold bT jB;split
  ·grind
  ·simp_all
def ei.num{d:aA}(h:ei d){b:Nat}(e:b+6<40):(aT b d).1=an 0/\ei (aT b d).2:=by
 have h1:gO b 16 0 d=(an 0,bT d b):=by rw[gO,show b+min 0 5=b by omega,if_neg (by rw[h.bit b (by omega)];decide)]
 unfold aT;rw[h1];exact⟨rfl,h.jN b aa⟩
def acF:ei (eJ []):=⟨EU [],rfl,rfl⟩
def ei.levels{d:aA}(h:ei d):∃e,gJ d=an (so 16 0,e)/\ei e:=by obtain⟨h1,f⟩:=h.num (b:=16) aw;refine⟨_,?_,f⟩;unfold gJ;rw[h1];rfl
def ei.Tm:∀(k:Nat){d:aA},ei d->∃b,lP k d=an (so (k*16) 0,b)/\ei b
 |0,d,h=>⟨d,rfl,h⟩
 |k+1,d,h=>by obtain⟨d1,h1,e⟩:=h.levels;obtain⟨d2,f,i⟩:=ei.Tm k e;refine⟨d2,?_,i⟩;rw[lP,h1];dsimp only;rw[f];dsimp only;rw[List.replicate_append_replicate,show 16+k*16=(k+1)*16 by omega]
def ei.tu:∀(k:Nat){d:aA},ei d->∃e,kM k d=an (so k 0,e)/\ei e
 |0,d,h=>⟨d,rfl,h⟩
 |k+1,d,h=>by obtain⟨h1,f⟩:=h.num (b:=9) aw;obtain⟨d2,i,j⟩:=ei.tu k f;refine⟨d2,?_,j⟩;rw[kM,h1];dsimp only;rw[if_neg aw,i];rfl
def SD(be:Bool):List Int:=if be then 2::so 70 0 else et
def ei.afV{d:aA}(be:Bool)(h:ei d):∃b,gL be d=an (SD be,b)/\ei b:=by
 cases be with
 |false=>refine⟨bT d 0,?_,h.jN 0 aw⟩;unfold gL;rw[if_pos ⟨rfl,h.bit 0 aw⟩];rfl
 |true=>
  obtain⟨d1,h1,f⟩:=ei.tu 4 h;obtain⟨d2,i,j⟩:=ei.Tm 4 f;refine⟨d2,?_,j⟩
  have e:lQ AT (iM AT (d,0)).1=an ([2,0,0,0,0,0,0],d1):=by have:lQ AT (iM AT (d,0)).1=mO d:=rfl;rw[this];unfold mO;rw[h1];rfl
  unfold gL;rw[if_neg (λx=>by cases x.1),e];dsimp only;rw[i];rfl
def vZ(be:Bool):Nat->List Int
 |0=>[]
 |k+1=>SD be++vZ be k
def ei.slice(be:Bool):∀(k:Nat){d:aA},ei d->jD be k d=an (vZ be k)
 |0,_,_=>rfl
 |k+1,d,h=>by obtain⟨d1,h1,b⟩:=h.afV be;rw[jD,h1];dsimp only;rw[ei.slice be k b];rfl
def Yr:∀n,n<5->1<=n->(dO Ba (vZ Ba n) n).isSome=AT/\(dO AT (vZ AT n) n).isSome=AT:=by decide+kernel
def Pq:∀xs:List Int,(kh xs).length=xs.length
 |[]=>rfl
 |x::r=>by
  rw[kh];split
  ·simp[Pq r]
  ·rfl
def Ap(xs:List Int):(gE xs).length=xs.length:=by simp[gE,Pq]
def pZ(e:bg):(cu e).out.length=e.out.length+1:=by
 unfold cu;split
 ·simp[Ap]
 ·simp
def acG{b:List Int}:l5 b≠[]:=by intro h;have:=congrArg List.length h;unfold l5 at this;rw[pZ] at this;simp at this
def acH:dO be xs n≠an []:=by
 unfold dO;split
 ·split
  ·intro h;injection h with h;exact acG h
  ·simp
 ·simp
def aaV(data:List Int)(n:Int)(be:Bool):jg data n be=Bp data n be:=by
 unfold jg Bp;split
 ·rename_i q;rcases Ns be n.toNat (eJ data) with⟨xs,h1,d,u⟩|⟨h1,d⟩
  ·rw[h1,d];dsimp only;by_cases hd:data=[]
   ·subst hd;rw[ei.slice be n.toNat acF] at h1;injection h1 with h1;subst h1;obtain⟨e,f⟩:=Yr n.toNat aa aa;have i:(dO be (vZ be n.toNat) n.toNat).isSome=AT:=by cases be;exact e;exact f
    obtain⟨b,j⟩:=pN.1 i;rw[j];simp
   ·cases v:dO be xs n.toNat with|none=>simp_all|some b=>simp
  ·rw[h1];cases p:(eP be n.toNat (eJ data,0)).1 with
   |none=>rfl
   |some xs=>dsimp only;rw[Qr (d xs p),if_neg au]
 ·rfl
section
open Go.RowKit Go.WideShapes Go.ChangeShapes
def az.src{g c:Nat}(h:az t s w B (Y (an ⟨g,0,ns⟩) n c) n ys):∀j,j<ys.length->w.cell? ((⟨g,0,ns⟩:Addr).add j)=an (U O (ys[j]?.getD 0)):=λj b=>by
 have:=h.cell j (by rw[<-h.1];exact b);by_cases h0:j=0
 ·subst h0;simpa[Addr.add] using this
 ·simpa[Addr.add,h0] using this
def az.iP{v:Value}(h:az t s w B v n ys)(b:0<n):∃g c,v=Y (an ⟨g,0,ns⟩) n c:=by
 rcases h.dC with⟨_,h0⟩|⟨g,c,e,_⟩
 ·omega
 ·simp_all
def E5:∀(ys:List Int)(z:Int),0<=z->∀r∈iw ys z,r.2∈ys/\r.2≠0/\0<=r.1/\r.1<z+ys.length
 |[],_,_,r,h=>by simp[iw] at h
 |x::ys,z,e,r,h=>by
  rw[iw] at h;split at h
  ·obtain⟨h1,b,d,f⟩:=E5 ys (z+1) aa r h;exact⟨oy _ h1,b,d,by simp;omega⟩
  ·rename_i i;rcases mA.1 h with rfl|h
   ·exact⟨nd ..,i,e,by simp;omega⟩
   ·obtain⟨h1,b,d,f⟩:=E5 ys 0 aa r h;exact⟨oy _ h1,b,d,by simp;omega⟩
def E6(v:xs.length=16)(d:aW xs 4080=AT):∀r∈dw xs,0<=r.1/\r.1<=15/\ -4080<=r.2/\r.2<=4080/\r.2≠0:=by intro r f;obtain⟨h1,j,p,q⟩:=E5 _ 0 aa r f;rw[Em] at q;obtain⟨i,hi,e⟩:=oD.1 h1;have u:∀i∈gV,i<16:=aw;have b:=u i hi;have:=nz d i aa;rw[e] at this;exact⟨p,aa,this.1,this.2,j⟩
def FT{v:Int}(h1: -4080<=v)(b:v<=4080)(h0:v≠0):0<=bE v-1/\bE v-1<=8159:=by unfold bE;split<;>omega
def Ys{rs:List (Int×Int)}(b:k<rs.length):iN (rs.take (k+1))=iN (rs.take k)++(dm rs[k].1 23++dm (bE rs[k].2-1) 30):=by unfold iN;rw[List.take_succ_eq_append_getElem b,akl];exact Dh
def hQ{n:Int}(h0:0<=n)(h1:n<=65533):dN n<=31:=by unfold dN;have:(n+1).toNat.log2<16:=(Nat.log2_lt aa).2 aa;omega
def qd(n:Int):0<dN n:=by unfold dN;omega
def aaW(w:rl)(E:xs.length=16)(hb:aW xs 4080=AT):
  Calls Gz.prog 133 #[bi (arr xs)] w λe w'=>∃v' n,e=dl v'/\n<=1100/\az 180 2 w' w.heap.size v' n (lY xs)/\Q w w':=by
 have s1:=bP xs;rw[E] at s1;have b0:=Nb.new 97 16 w xs E;have y:=Eo xs;have HR:=ag (E6 E hb);have A:=acy (w.alloc (ap (arr xs) 97)) E;go_enter Gz.gf func133,ntmps133;go_wp2_with(refine ew (n:=16) rfl _ _ rfl _ rfl _ aE _ (Gz.gu underlying97) rfl cM ?_);refine A.mono ?_;rintro e p⟨v2,rfl,H,q2⟩;clear A b0;obtain⟨A2,c2,rfl⟩:=H.form;have R2:=ag H.rd;have Q2:Q w p:=((Q.refl w).alloc _).trans q2;have C:=ag Q2;have d:Hid (lY xs=dm (dw xs).length 16++iN (dw xs)):=rfl;clear H q2 Q2;generalize dw xs=v at y HR R2 d;obtain⟨m,hm⟩:∃m,v.length=m:=⟨_,rfl⟩;rw[hm] at y d;rw[hm];have Un:(m:Int)<=16:=aa;have b:=ss (m:Int) 16 p aa aa aa;go_wp2;refine b.mono ?_;rintro e w3⟨v3,rfl,o3,q3⟩;clear b;have hnc:=hQ (n:=(m:Int)) aa aa;go_wp2;go_loopw[4,5] (λu i wr=>∃(k cnt:Nat),k<=m/\i=U O k/\cnt<=31+62*k/\Hid (az 180 2 wr p.heap.size u cnt (dm m 16++iN (v.take k))/\Q p wr)) (λ_ i _=>m-(intOf i).toNat)
 case atStart=>exact⟨0,_,aa,rfl,aa,by simpa[iN] using o3,q3⟩
 case round=>
  obtain⟨k,cnt,hk,rfl,WP,hK⟩:=hrel;obtain⟨F,x⟩:=hK.out;clear hK o3 q3;by_cases I:k<m
  ·have mp:(k:Int)<(m:Int):=by omega
   have f:k<v.length:=aa;obtain⟨f1,f2⟩:=AL v k f;have G:=Ys f;have j:=HR.out v[k] (pM f);generalize v[k]=r at f1 f2 G j;obtain⟨z,l⟩:=r;dsimp only at f1 f2 G j;obtain⟨z0,z1,l0,l1,l2⟩:=j;obtain⟨J,oo,rfl,D,hc⟩:=R2.out.q x (ay _) mZ;have c1:=hc (k*2) mZ;have K:=hc (k*2+1) mZ;rw[f1] at c1;rw[f2,<-Nat.add_assoc] at K;have HT:=ag G;clear hc f1 f2 G;have b:=ss z 23 wr z0 aa aa;obtain⟨i0,i1⟩:=FT l0 l1 l2;have ahm:=hQ (n:=z) z0 aa;have ahn:=hQ (n:=bE l-1) i0 aa;have aho:=x.size;go_wp2;refine b.mono ?_;rintro e w5⟨v5,rfl,o5,L⟩;clear b;obtain⟨g5,c5,rfl⟩:=o5.iP (qd z);have M:=ag x;have k3:=F.q L;have k4:=x.trans L;have afW:=L.size;have D3:=ag K;clear F x c1 K;go_wp2_with((at_builtin;refine gh rfl rfl (Gz.gu underlying129) gZ rfl aw aw rfl k3 ⟨_,0,ns⟩ _ _ rfl kI aa aa o5.src ?_;intro v6 N O6 G6);have R:Q p N:=bH.toQ G6 k4 λg S=>k3.below g S;have d6:N.cell? ⟨J,oo+k*2+1,ns⟩=an (U O l):=(R.cell J _ D).trans ((M.out.cell J _ D).symm.trans D3.out));refine(Dg l aa aa).mono ?_;rintro e w7⟨rfl,rfl⟩;have b:=ss (bE l-1) 30 N i0 aa aa;go_wp2;refine b.mono ?_;rintro e w8⟨v8,rfl,o8,T⟩;clear b;obtain⟨g8,c8,rfl⟩:=o8.iP (qd (bE l-1));have k9:=O6.q T;have V:=R.trans T;have ahp:=T.size;have ahq:=R.size;clear d6 D3;go_wp2_with(at_builtin;refine gh rfl rfl (Gz.gu underlying129) gZ rfl aw aw rfl k9 ⟨_,0,ns⟩ _ _ rfl kI aa aa o8.src ?_;intro v9 w9 O9 G9);have W:Q p w9:=bH.toQ G9 V λg S=>k9.below g S;go_roundw;case rel=>exact⟨k+1,cnt+dN z+dN (bE l-1),aa,aJ,aa,by rw[HT.out,<-ait,<-ait];exact O9,W⟩
   case measure=>exact bj
  ·have X:k=m:=by omega
   have Z:=C.out.size;rw[X,ajv aa] at F;clear I;go_wp2;go_ret;exact⟨_,cnt,rfl,aa,by rw[d.out];exact F.mono Z,C.out.trans x⟩
end
def iQ:List Int->Int
 |[]=>0
 |x::r=>x+256*iQ r
def bytes(xs:List Int):Prop:=∀x∈xs,0<=x/\x<=255
def Nt:∀{xs:List Int},bytes xs->bytes (kh xs)
 |[],_=>λ_ h=>by simp[kh] at h
 |x::r,h=>by
  rw[kh];have e:=h x (nd ..);have d:bytes r:=λy b=>h y (oy _ b);split
  ·intro y b;rcases mA.1 b with rfl|b
   ·omega
   ·exact Nt d y b
  ·intro y b;rcases mA.1 b with rfl|b
   ·omega
   ·exact d y b
def Pr:∀{xs:List Int},(∃x∈xs,x≠255)->iQ (kh xs)=iQ xs+1
 |[],⟨_,h,_⟩=>by simp at h
 |x::r,⟨y,b,d⟩=>by
  rw[kh];split
  ·rename_i e
   have:∃z∈r,z≠255:=by
    rcases mA.1 b with rfl|b
    ·exact absurd e d
    ·exact⟨y,b,d⟩
   rw[iQ,iQ,Pr this];omega
  ·rw[iQ,iQ];omega
def Oc:∀{xs:List Int},(∀x∈xs,x=255)->iQ xs=256^xs.length-1
 |[],_=>rfl
 |x::r,h=>by rw[iQ,Oc λy b=>h y (List.mem_cons_of_mem _ b),h x (List.mem_cons_self ..),ais,Int.pow_succ];omega
structure cT(e:bg):Prop where
 lo:4096<=e.span
 hi:e.span<=4294967295
 l0:0<=e.low
 l1:e.low+e.span<=8589934591
 len:e.ch.length=40
 ch:∀k,k<40->1<=e.ch[k]?.getD 0/\e.ch[k]?.getD 0<=4095
 out:bytes e.out
 val:iQ e.out.reverse*4294967296+e.low+e.span<=4294967296*256^e.out.length
def cT.room{e:bg}(h:cT e)(k:4294967296<=e.low):∃x∈e.out.reverse,x≠255:=by refine oA λd=>?_;have f:∀x∈e.out.reverse,x=255:=λx i=>oA λb=>d ⟨x,i,b⟩;have j:=h.val;rw[Oc f,List.length_reverse] at j;have:=h.lo;omega
def Od(h:bytes xs):bytes xs.reverse:=λx b=>h x (by simpa using b)
def ZC(h:bytes xs):bytes (gE xs):=Od (Nt (Od h))
def si{x:Int}(h:bytes xs)(h0:0<=x)(h1:x<=255):bytes (xs++[x]):=by
 intro y b;rcases uW.1 b with b|b
 ·exact h y b
 ·simp_all
def cT.put{e:bg}(h:cT e)(s:Int)(h1:4096<=s)(b:s<=4294967295)(i:s<=256*e.span):cT {cu e with span:=s}:=by
 have:=h.l0;have j:=h.val;have d:(256:Int)^(e.out.length+1)=256^e.out.length*256:=Int.pow_succ ..;unfold cu;split
 ·rename_i f;refine⟨h1,b,?_,?_,h.len,h.ch,si (ZC h.out) aa aa,?_⟩
  ·show 0<=(e.low-4294967296)%16777216*256;omega
  ·show(e.low-4294967296)%16777216*256+s<=_;omega
  ·show iQ (gE e.out++[(e.low-4294967296)/16777216%256]).reverse*4294967296+(e.low-4294967296)%16777216*256+s<=4294967296*256^(gE e.out++[(e.low-4294967296)/16777216%256]).length;have hc:(gE e.out).reverse=kh e.out.reverse:=by unfold gE;rw[List.reverse_reverse]
   rw[List.reverse_append,ahc,Ap,List.reverse_singleton,List.singleton_append,iQ,hc,Pr (h.room f),ake,d];omega
 ·rename_i f;refine⟨h1,b,?_,?_,h.len,h.ch,si h.out aa aa,?_⟩
  ·show 0<=e.low%16777216*256;omega
  ·show e.low%16777216*256+s<=_;omega
  ·show iQ (e.out++[e.low/16777216%256]).reverse*4294967296+e.low%16777216*256+s<=4294967296*256^(e.out++[e.low/16777216%256]).length;rw[List.reverse_append,ahc,List.reverse_singleton,List.singleton_append,iQ,ake,d];omega
def vu(e:bg):(cu e).span=e.span:=by unfold cu;split<;>rfl
def cT.cu{e:bg}(h:cT e):cT (cu e):=by
 have:=h.put e.span h.lo h.hi (by have:=h.lo;omega)
 have b:({Go.Proofs.Q0.cu e with span:=e.span}:bg)=Go.Proofs.Q0.cu e:=by have:=vu e;generalize Go.Proofs.Q0.cu e=f at this;cases f;simp at this;rw[this]
 rw[b] at this;exact this
def cT.grow{e:bg}(h:cT e)(b:e.span<16777216):cT (lO e):=h.put (e.span*256) (by have:=h.lo;omega) aa aa
def cT.ren{e:bg}(h:cT e):cT (jK e)/\16777216<=(jK e).span:=by
 have:=h.lo;unfold jK;split
 ·rename_i h1;split
  ·rename_i b;have g:=h.grow h1;exact⟨g.grow b,by show 16777216<=e.span*256*256;omega⟩
  ·exact⟨h.grow h1,by show 16777216<=e.span*256;omega⟩
 ·simp_all
def cT.kr{e:bg}(h:cT e)(u:16777216<=e.span)(c:Nat)(b:Int)(hc:c<40):cT (iB e c b):=by
 obtain⟨i,j⟩:=h.ch c hc;obtain⟨v,x,_,_⟩:=lG u h.hi i j;have l:=h.len
 have d:∀b:Int,∀k,k<40->1<=(e.ch.set c (bB (e.ch[c]?.getD 0) b))[k]?.getD 0/\(e.ch.set c (bB (e.ch[c]?.getD 0) b))[k]?.getD 0<=4095:=by
  intro b k y;by_cases p:c=k
  ·subst p;simp only[List.getElem?_set_self (show c<e.ch.length by omega),Option.getD_some];exact NS i j
  ·rw[List.getElem?_set_ne p];exact h.ch k y
 have:=h.l0;have:=h.l1;have z:=h.val;have q:4096<=iO e c/\iO e c<=e.span-4096:=⟨v,x⟩;generalize f:iO e c=B at q;unfold iB;rw[f];split
 ·exact⟨q.1,by show B<=_;omega,h.l0,by show e.low+B<=_;omega,by simp[l],d 0,h.out,by show iQ e.out.reverse*4294967296+e.low+B<=4294967296*256^e.out.length;omega⟩
 ·exact⟨by show 4096<=e.span-B;omega,by show e.span-B<=_;omega,by show 0<=e.low+B;omega,by show e.low+B+(e.span-B)<=_;omega,by simp[l],d 1,h.out,by show iQ e.out.reverse*4294967296+(e.low+B)+(e.span-B)<=4294967296*256^e.out.length;omega⟩
def cT.step{e:bg}(h:cT e)(d:16777216<=e.span)(c:Nat)(b:Int)(hc:c<40):cT (ix e c b)/\16777216<=(ix e c b).span:=(h.kr d c b hc).ren
def Qt:cT jf/\16777216<=jf.span:=
 ⟨⟨aw,aw,aw,aw,rfl,λk b=>by have:jf.ch=so 40 2048:=rfl;rw[this,List.getElem?_replicate,if_pos b];decide,λ_ h=>by simp[jf] at h,aw⟩,aw⟩
section
open Go.RowKit Go.WideShapes Go.ChangeShapes
def az.lit(w:rl)(B:Nat)(b:B<=w.heap.size)(n:Nat)(ys:List Int)(h:ys.length=n*s)(d:n<=maxLen):az t s (w.alloc (ap (arr ys) t)) B (Y (an ⟨w.heap.size,0,ns⟩) n n) n ys:=by refine⟨h,by rw[aiS];exact h,.inr ⟨w.heap.size,n,arr ys,rfl,b,heap_alloc_new w _,ay _,d,by rw[bP];exact h,?_⟩⟩;rw[aaH,ajv (by rw[aiS,h];exact Nat.le_refl _)]
structure MV(m:List Int):Prop where
 len:m.length=71
 kind:ax m 0=0\/ax m 0=1\/ax m 0=2
 vx: -16<=ax m 1/\ax m 1<=16
 vy: -16<=ax m 2/\ax m 2<=16
 tu:∀k,k<4->0<=ax m (3+k)/\ax m (3+k)<=4
 lv:aW (sub m 7 64) 4080=AT
def Aq(p:m.length=71)(h:dt m=AT):MV m:=by
 unfold dt at h;simp only[Uy] at h;obtain⟨⟨b,d⟩,f⟩:=h;unfold kV at d;simp only[Uy,decide_eq_true_eq] at d
 have j:jI m=AT->∀k,k<4->0<=ax m (3+k)/\ax m (3+k)<=4:=by
  intro j;unfold jI at j;intro k hk;rcases k with _|_|_|_|k
  ·simp_all
  ·simp_all
  ·simp_all
  ·simp_all
  ·omega
 unfold j5 at b;split at b
 ·simp only[Uy] at b;exact⟨p,.inl aE,d.1,d.2,j b.1.2,f⟩
 ·split at b
  ·exact⟨p,.inr (.inl aE),d.1,d.2,j b,f⟩
  ·split at b
   ·simp only[Uy] at b;refine⟨p,.inr (.inr aE),d.1,d.2,λk hk=>?_,f⟩;have hm:=b.1
    have:=gW.1 hm (ax m (3+k)) (by
     have e:=gj m 3 4 k hk;have i:k<(sub m 3 4).length:=CC;have:(sub m 3 4)[k]?.getD 0=(sub m 3 4)[k]:=by simp[i]
     unfold ax;rw[<-e,this];exact pM i)
    exact of_decide_eq_true this
   ·cases b
def acI{M:Int}{o b d:Nat}(h:aW (sub xs o k) M=AT)(h1:o<=b)(p:b+d<=o+k)(q:o+k<=xs.length):aW (sub xs b d) M=AT:=by
 refine gW.2 λx f=>?_;obtain⟨i,hi,rfl⟩:=List.getElem_of_mem f;have hlen:(sub xs b d).length=d:=bZ aa
 have e:(sub xs b d)[i]=(sub xs o k)[b+i-o]?.getD 0:=by
  have j:(sub xs b d)[i]=(sub xs b d)[i]?.getD 0:=by simp[hi]
  rw[j,gj _ _ _ _ aa,gj _ _ _ _ aa];congr 2;omega
 rw[e];exact decide_eq_true (nz h _ (by rw[bZ (by omega)];omega))
def MV.lvl(h:MV m)(k:Nat)(b:k<4):aW (lvl m k) 4080=AT/\(lvl m k).length=16:=
 ⟨acI h.lv aa aa (by rw[h.len];omega),bZ (by rw[h.len];omega)⟩
def sV{v:Int}(h1: -16<=v)(b:v<=16):0<=bE v/\bE v<=32:=by unfold bE;split<;>omega
def ML(d:m.length=71)(hk:k<4):jY ((sub m 3 4).take (k+1))=jY ((sub m 3 4).take k)++dm (ax m (3+k)) 9:=by unfold jY;have b:k<(sub m 3 4).length:=CC;rw[List.take_succ_eq_append_getElem b,akl];have:=gj m 3 4 k hk;unfold ax;rw[<-this];simp[b]
def Es(m:List Int)(k:Nat):fQ m (k+1)=fQ m k++lY (lvl m k):=by unfold fQ;rw[aiU,akl];exact Dh
def SE{p:Prop}(h:p:=by(go_loopw[5,7] (λu i wr=>∃(k cnt:Nat),k<=4/\i=.int .i64 k/\cnt<=140+1100*k/\Hid (az 180 2 wr (w.heap.size+1) u cnt (L0++fQ m k)/\Q w1 wr)) λ_ i _=>4-(intOf i).toNat;(case atStart=>exact⟨0,_,by omega,rfl,WP,by simpa[fQ] using HO.out,S'.out⟩);(case round=>obtain⟨k,cnt,T,rfl,D,hK⟩:=hrel;obtain⟨j,b⟩:=hK.out;clear hK;(try clear HO S');by_cases d:k<4;(case pos=>have E:(k:Int)<4:=(by omega);have V:=b0.q b;have F:=b.size;obtain⟨G,H⟩:=hm.lvl k d;have I:sub m (7+k*16) 16=lvl m k:=(by unfold lvl;rw[Nat.mul_comm 16 k]);have A:=aaW wr H G;have f:=Es m k;have v:=ag f;clear f;go_wp2_with(refine Lz (n:=71) rfl _ _ rfl _ (7+k*16) rfl _ (by assumption) 16 (by omega) _ (Gz.gu underlying97) rfl cM ?_);refine A.mono ?_;rintro e wn⟨W,n,rfl,X,on,x⟩;clear A;have y:0<n:=(by have:=on.1;unfold lY at this;rw[List.length_append,kI] at this;have:=qd ((dw (lvl m k)).length:Int);omega);obtain⟨Z,cn,rfl⟩:=on.iP y;have C:=j.q x;have J:=b.trans x;have K:=x.size;have hlen:=on.1;clear j b;go_wp2_with(at_builtin;go_loud (refine gh rfl rfl (Gz.gu underlying129) gZ rfl (by decide) (by decide) rfl C ⟨_,0,none⟩ _ _ rfl hlen ?_ ?_ on.src ?_;omega;omega;intro vz L M N));have R:Q w1 L:=bH.toQ N J (λg S=>by have:=C.below g S;omega);go_roundw;(case rel=>exact⟨k+1,cnt+n,by omega,by go_num,by omega,by rw[v.out,<-List.append_assoc];exact M,R⟩);(case measure=>simp[intOf];omega));(case neg=>have z:k=4:=(by omega);rw[z] at j;clear d;go_wp2;go_ret;refine⟨_,cnt,rfl,by omega,?_,qw.trans b⟩;rw[BQ.out];exact j.mono (by omega))))):p:=h
def SG{p:Prop}(h:p:=by(go_loopw[5,6] (λu i wr=>∃(k cnt:Nat),k<=4/\i=.int .i64 k/\cnt<=2+31*k/\Hid (az 180 2 wr (w.heap.size+1) u cnt (L1++jY ((sub m 3 4).take k))/\Q w1 wr)) λ_ i _=>4-(intOf i).toNat;(case atStart=>exact⟨0,_,by omega,rfl,WP,by simpa[jY] using HO.out,S'.out⟩);(case round=>obtain⟨k,cnt,hk,rfl,H,hK⟩:=hrel;obtain⟨f,j⟩:=hK.out;clear hK;(try clear HO S');by_cases b:k<4;(case pos=>have I:(k:Int)<4:=(by omega);have J:=b0.q j;have K:=j.size;obtain⟨A,L⟩:=hm.tu k b;have C:=J.at (3+k) (by omega);have v:m[3+k]?.getD 0=ax m (3+k):=rfl;rw[v] at C;have d:=ML hm.len b;generalize ax m (3+k)=md at A L C d;have F:=ss md 9 wr A (by omega) (by omega);have M:=hQ (n:=md) A (by omega);have D:=ag d;clear d v;go_wp2;refine F.mono ?_;rintro e wn⟨vn,rfl,on,E⟩;clear F;obtain⟨gn,cn,rfl⟩:=on.iP (qd md);have G:=f.q E;have N:=j.trans E;have R:=E.size;have hlen:=on.1;clear f j C;go_wp2_with(at_builtin;go_loud (refine gh rfl rfl (Gz.gu underlying129) gZ rfl (by decide) (by decide) rfl G ⟨_,0,none⟩ _ _ rfl hlen ?_ ?_ on.src ?_;omega;omega;intro vz S T V));have W:Q w1 S:=bH.toQ V N (λg X=>by have:=G.below g X;omega);go_roundw;(case rel=>exact⟨k+1,cnt+dN md,by omega,by go_num,by omega,by rw[D.out,<-List.append_assoc];exact T,W⟩);(case measure=>simp[intOf];omega));(case neg=>have x:k=4:=(by omega);rw[x,List.take_of_length_le (by rw[bZ (by rw[hm.len];omega)];omega)] at f;clear b;obtain⟨L0,y⟩:∃z,L1++jY (sub m 3 4)=z:=⟨_,rfl⟩;rw[y] at f HM;have BQ:=HM;have WP:cnt<=140:=(by omega);have Z:¬(k:Int)<4:=(by omega);clear y x;go_wp2;have HO:=ag f;have S':=ag j;clear f j;exact SE)))):p:=h
def Ps(be:Bool)(w:rl)(hm:MV m)(hi:be=AT->ax m 0=2):
  Calls Gz.prog 94 #[bi (arr m),ci be] w λe w'=>∃v' n,e=dl v'/\n<=5000/\az 180 2 w' w.heap.size v' n (fg be m)/\Q w w':=by
 have s1:=bP m;rw[hm.len] at s1;have b0:=Nb.new 100 71 w m hm.len;have b1:=b0.alloc (ap #[] 180);have p:=az.jb 180 2 (w.alloc (ap (arr m) 100)) (w.heap.size+1) au;have D:Q (w.alloc (ap (arr m) 100)) ((w.alloc (ap (arr m) 100)).alloc (ap #[] 180)):=(Q.refl _).alloc _;have qw:Q w (w.alloc (ap (arr m) 100)):=(Q.refl _).alloc _;rw[NO] at p
 have d:∀ys:List Int,∀j,j<ys.length->(((w.alloc (ap (arr m) 100)).alloc (ap #[] 180)).alloc (ap (arr ys) 180)).cell? ((⟨w.heap.size+1+1,0,ns⟩:Addr).add j)=an (U O (ys[j]?.getD 0)):=λys j hj=>by have:=iK ((w.alloc (ap (arr m) 100)).alloc (ap #[] 180)) ys 180 j hj;exact yM
 obtain⟨w1,u⟩:∃z,w.alloc (ap (arr m) 100)=z:=⟨_,rfl⟩;have S:w1.heap.size=w.heap.size+1:=by rw[<-u];simp
 have f:=ag u;have c0:=b1.at 0 aa;rw[u] at b0 D qw;clear u;have v:m[0]?.getD 0=ax m 0:=rfl;rw[v] at c0;cases be with
 |false=>
  rcases hm.kind with h|h|h
  ·have HM:Hid (fg Ba m=[0,0]):=by unfold Hid fg;rw[if_pos ⟨rfl,h⟩]
   rw[h] at c0;go_enter Gz.gf func94,ntmps94;go_wp2;go_ret;refine⟨_,1,rfl,aa,?_,by rw[f.out];exact(qw.trans D).alloc _⟩;rw[HM.out];have hz:w.heap.size<=((w.alloc (ap (arr m) 100)).alloc (ap #[] 180)).heap.size:=by simp only[NO];omega
   have:=az.lit (t:=180) (s:=2) ((w.alloc (ap (arr m) 100)).alloc (ap #[] 180)) _ hz 1 [0,0] rfl aw;exact yM
  ·have HM:Hid (fg Ba m=[0,1,1,0]++(dm (bE (ax m 1)) 2++dm (bE (ax m 2)) 2)++fQ m 4):=by exact LB
   rw[h] at c0;have i:=d [0,1,1,0];go_enter Gz.gf func94,ntmps94;go_wp2_with(at_builtin;go_loud (refine gh rfl rfl (Gz.gu underlying129) gZ rfl aw aw rfl (p.alloc _) ⟨_,0,ns⟩ [0,1,1,0] 2 rfl rfl ?_ ?_ ?_ ?_;omega;(simp only[NO];omega);exact i;intro I w3 H J;have x:Q w1 w3:=bH.toQ J (by rw[f.out];exact D.alloc _) (λg y=>by have:=(p.alloc (ap (arr [0,1,1,0]) 180)).below g y;omega);have A:=b0.q x;have c1:=A.at 1 aa;have c2:=A.at 2 aa;have c0:=A.at 0 aa;rw[v,h] at c0));have x1:m[1]?.getD 0=ax m 1:=rfl;have T:m[2]?.getD 0=ax m 2:=rfl;have E:=hm.vx;have F:=hm.vy;have K:az 180 2 w3 (w.heap.size+1) I 2 [0,1,1,0]:=H;have hz3:=x.size;rw[x1];refine(Dg (ax m 1) aa aa).mono ?_;rintro e w4⟨rfl,rfl⟩;obtain⟨i0,i1⟩:=sV E.1 E.2;have G:=ss (bE (ax m 1)) 2 w3 i0 aa aa;have V:=hQ (n:=bE (ax m 1)) i0 aa;go_wp2;refine G.mono ?_;rintro e w5⟨v5,rfl,W,L⟩;clear G;obtain⟨g5,c5,rfl⟩:=W.iP (qd (bE (ax m 1)));have X:=K.q L;have Z:=x.trans L;have hz5:=L.size;have d2:=(b0.q Z).at 2 aa;rw[T] at d2;go_wp2_with((at_builtin;go_loud (refine gh rfl rfl (Gz.gu underlying129) gZ rfl aw aw rfl X ⟨_,0,ns⟩ _ _ rfl kI ?_ ?_ W.src ?_;omega;omega;intro v6 w6 O6 G6));have M:Q w1 w6:=bH.toQ G6 Z (λg y=>by have:=X.below g y;omega);have d6:=(b0.q M).at 2 aa;rw[T] at d6);refine(Dg (ax m 2) aa aa).mono ?_;rintro e w7⟨rfl,rfl⟩;obtain⟨j0,j1⟩:=sV F.1 F.2;have G:=ss (bE (ax m 2)) 2 w6 j0 aa aa;have ahr:=hQ (n:=bE (ax m 2)) j0 aa;have hz6:=M.size;go_wp2;refine G.mono ?_;rintro e w8⟨v8,rfl,o8,N⟩;clear G;obtain⟨g8,c8,rfl⟩:=o8.iP (qd (bE (ax m 2)));have p9:=O6.q N;have R:=M.trans N;have hz8:=N.size;go_wp2_with(at_builtin;go_loud (refine gh rfl rfl (Gz.gu underlying129) gZ rfl aw aw rfl p9 ⟨_,0,ns⟩ _ _ rfl kI ?_ ?_ o8.src ?_;omega;omega;intro v9 w9 O8 G9));have k8:Q w1 w9:=bH.toQ G9 R (λg y=>by have:=p9.below g y;omega);have WP:2+dN (bE (ax m 1))+dN (bE (ax m 2))<=140:=aa;have BQ:Hid (fg Ba m=[0,1,1,0]++dm (bE (ax m 1)) 2++dm (bE (ax m 2)) 2++fQ m 4):=by rw[Hid,HM.out];simp
   obtain⟨L0,C⟩:∃z,[0,1,1,0]++dm (bE (ax m 1)) 2++dm (bE (ax m 2)) 2=z:=⟨_,rfl⟩;have O9:az 180 2 w9 (w.heap.size+1) v9 (2+dN (bE (ax m 1))+dN (bE (ax m 2))) L0:=by rw[<-C];exact O8
   rw[C] at BQ;clear C O8;go_wp2;have HO:=ag O9;have S':=ag k8;clear O9 k8;exact SE
  ·have HM:Hid (fg Ba m=[0,1,1,1]++jY (sub m 3 4)++fQ m 4):=by exact LB
   rw[h] at c0;have i:=d [0,1,1,1];go_enter Gz.gf func94,ntmps94;go_wp2_with(at_builtin;go_loud (refine gh rfl rfl (Gz.gu underlying129) gZ rfl aw aw rfl (p.alloc _) ⟨_,0,ns⟩ [0,1,1,1] 2 rfl rfl ?_ ?_ ?_ ?_;omega;(simp only[NO];omega);exact i;intro I w3 H J;have x:Q w1 w3:=bH.toQ J (by rw[f.out];exact D.alloc _) (λg y=>by have:=(p.alloc (ap (arr [0,1,1,1]) 180)).below g y;omega);have A:=b0.q x;have c1:=A.at 1 aa;have c2:=A.at 2 aa;have c0:=A.at 0 aa;rw[v,h] at c0));obtain⟨L1,b⟩:∃z:List Int,[0,1,1,1]=z:=⟨_,rfl⟩;have O4:az 180 2 w3 (w.heap.size+1) I 2 L1:=by rw[<-b];exact H
   rw[b] at HM;clear b H;have WP:2<=2:=ay _;have HO:=ag O4;have S':=ag x;clear O4 x;exact SG
 |true=>
  have h:=hi rfl
  have HM:Hid (fg AT m=[]++jY (sub m 3 4)++fQ m 4):=by unfold Hid fg;rw[if_neg (by intro k;cases k.1)];unfold mL preB;rw[h];rfl
  rw[h] at c0;rw[f.out] at p;have k0:=D;go_enter Gz.gf func94,ntmps94;go_wp2;rw[f.out];have WP:0<=2:=aa;obtain⟨L1,b⟩:∃z:List Int,[]=z:=⟨_,rfl⟩;rw[b] at HM p;clear b;have HO:=ag p;have S':=ag k0;clear p k0;exact SG
end
section
open Go.RowKit Go.WideShapes Go.ChangeShapes
structure bS(xs:List Int):Prop where
 even:∃n,xs.length=n*2
 ok:ib xs=AT
def bS.nil:bS []:=⟨⟨0,rfl⟩,rfl⟩
def Pt:∀(n:Nat)(xs ys:List Int),xs.length=n*2->ib (xs++ys)=(ib xs&&ib ys)
 |0,[],ys,_=>by rw[List.nil_append,show ib ([]:List Int)=AT from rfl,Bool.true_and]
 |n+1,c::b::r,ys,h=>by have:=Pt n r ys yA;rw[aje,aje,ib,this,ib,Bool.and_assoc,Bool.and_assoc,Bool.and_assoc]
 |n+1,[],_,h=>by simp at h
 |n+1,[_],_,h=>by simp at h;omega
def bS.app(h:bS xs)(k:bS ys):bS (xs++ys):=by obtain⟨n,b⟩:=h.even;obtain⟨m,hm⟩:=k.even;exact⟨⟨n+m,by rw[ahc];omega⟩,by rw[Pt n _ _ b,h.ok,k.ok];rfl⟩
def bS.pair{c b:Int}(h0:0<=c)(h1:c<=39)(d:b=0\/b=1):bS [c,b]:=⟨⟨1,rfl⟩,by unfold ib;simp[h0,h1,d,ib]⟩
def bS.flat{α:Type}{f:α->List Int}:∀{l:List α},(∀x∈l,bS (f x))->bS (l.flatMap f)
 |[],_=>bS.nil
 |x::r,h=>by rw[List.flatMap_cons];exact(h x au).app (bS.flat λy b=>h y (by simp[b]))
def bS.num{n b:Int}(h0:0<=b)(h1:b<=33):bS (dm n b):=by
 refine(bS.flat λj _=>?_).app (bS.flat λj _=>?_)
 ·refine bS.pair aa aa ?_;split
  ·omega
  ·omega
 ·refine bS.pair aa aa ?_;omega
def bS.runs(rs:List (Int×Int)):bS (iN rs):=bS.flat λr _=>(bS.num aa aa).app (bS.num aa aa)
def bS.blk(xs:List Int):bS (lY xs):=(bS.num aa aa).app (bS.runs _)
def bS.lvl(m:List Int)(k:Nat):bS (fQ m k):=bS.flat λj _=>bS.blk _
def bS.pre(m:List Int):bS (preB m):=by
 unfold preB;split
 ·exact(bS.num aa aa).app (bS.num aa aa)
 ·exact bS.flat λj _=>bS.num aa aa
def bS.aP(h:MV m)(hi:be=AT->ax m 0=2):bS (fg be m):=by
 unfold fg;split
 ·exact bS.pair aa aa (.inl rfl)
 ·rename_i d;refine(bS.app ?_ (bS.pre m)).app (bS.lvl m 4);cases be with
  |true=>exact bS.nil
  |false=>have h0:ax m 0≠0:=λe=>d ⟨rfl,e⟩;have:=h.kind;exact(bS.pair aa aa (.inr rfl)).app (bS.pair (c:=1) (b:=ax m 0-1) aa aa aa)
def Et:∀(ys:List Int)(z:Int),(iw ys z).length<=ys.length
 |[],_=>ay _
 |x::r,z=>by
  unfold iw;split
  ·have:=Et r (z+1);rw[ais];omega
  ·have:=Et r 0;rw[ais,ais];omega
def zT{α:Type}{f:α->List Int}(M:Nat):∀{l:List α},(∀x∈l,(f x).length<=M)->(l.flatMap f).length<=l.length*M
 |[],_=>by simp
 |x::r,h=>by have h1:=h x au;have d:=zT M (l:=r) λy b=>h y (by simp[b]);rw[List.flatMap_cons,ahc,ais,Nat.succ_mul];omega
def aaX(b:xs.length=16)(d:aW xs 4080=AT):(lY xs).length<=2048:=by
 have u:(dw xs).length<=16:=by have:=Et (lN xs) 0;unfold lN at this;rw[aiS] at this;exact aQ this aw
 unfold lY;rw[ahc,kI]
 have h1:(iN (dw xs)).length<=(dw xs).length*124:=zT 124 λr e=>by obtain⟨f,v,i,j,p⟩:=E6 b d r e;obtain⟨q,x⟩:=FT i j p;rw[ahc,kI,kI];have:=hQ (n:=r.1) f aa;have:=hQ (n:=bE r.2-1) q aa;omega
 have:=hQ (n:=((dw xs).length:Int)) aa aa;omega
def aaY(h:MV m):(fg be m).length<=10000:=by
 unfold fg;split
 ·simp
 ·have h1:(fQ m 4).length<=4*2048:=by
   have:=zT (f:=λj=>lY (Go.Proofs.Q0.lvl m j)) 2048 (l:=List.range 4) λj e=>by obtain⟨b,p⟩:=h.lvl j (fM.1 e);exact aaX p b
   exact this
  have y:(preB m).length<=248:=by
   unfold preB;split
   ·obtain⟨q,z⟩:=sV h.vx.1 h.vx.2;obtain⟨u,A⟩:=sV h.vy.1 h.vy.2;rw[ahc,kI,kI];have:=hQ (n:=bE (ax m 1)) q aa;have:=hQ (n:=bE (ax m 2)) u aa;omega
   ·have d:(sub m 3 4).length=4:=bZ (by rw[h.len];omega)
    have:=zT (f:=λx=>dm x 9) 62 (l:=sub m 3 4) λx v=>by
     obtain⟨i,hi,rfl⟩:=List.getElem_of_mem v;have b:(sub m 3 4)[i]=(sub m 3 4)[i]?.getD 0:=by simp[hi]
     rw[d] at hi;have:=h.tu i hi;rw[b,gj _ _ _ _ hi];unfold ax at this;rw[kI];have:=hQ (n:=m[3+i]?.getD 0) this.1 aa;omega
    rw[d] at this;exact this
  have C:(mL be m).length<=4:=by unfold mL;split<;>simp
  rw[ahc,ahc];omega
def adZ(b:m.length=71)(h:dR be m=AT):MV m/\(be=AT->ax m 0=2):=by unfold dR at h;simp only[Uy,Bool.or_eq_true,Bool.not_eq_true',beq_iff_eq] at h;exact⟨Aq b h.1,λhi=>h.2.resolve_left (by rw[hi];decide)⟩
def vL(b:xs.length=n*71)(d:k<n):(aP xs k).length=71:=bZ (by rw[b];omega)
def vw(be:Bool)(xs:List Int)(k:Nat):jJ be xs (k+1)=jJ be xs k++fg be (aP xs k):=by unfold jJ;rw[aiU,akl];exact Dh
def Eu(be:Bool)(xs:List Int)(k:Nat):gx be xs (k+1)=(gx be xs k&&dR be (aP xs k)):=by unfold gx;rw[aiU,List.all_append];simp
def Fw(h:gx be xs n=AT)(b:k<n):dR be (aP xs k)=AT:=gW.1 h k (fM.2 b)
def Qu(b:k<n)(h:dR be (aP xs k)=Ba):gx be xs n=Ba:=by cases d:gx be xs n with|false=>rfl|true=>rw[Fw d b] at h;cases h
def vT{be:Bool}{xs:List Int}{n:Nat}(b:xs.length=n*71)(h:gx be xs n=AT):∀k,k<=n->bS (jJ be xs k)/\(jJ be xs k).length<=k*10000
 |0,_=>⟨bS.nil,by simp[jJ]⟩
 |k+1,f=>by obtain⟨h1,i⟩:=vT b h k aa;obtain⟨d,e⟩:=adZ (vL b (show k<n by omega)) (Fw h (show k<n by omega));have j:=aaY (be:=be) d;rw[vw];exact⟨h1.app (bS.aP d e),by rw[ahc];omega⟩
def E7(b:xs.length=n*71)(h1:1<=n)(d:n<=4):dO be xs n=if gx be xs n=AT then an (l5 (jJ be xs n)) else ns:=by
 unfold dO;cases h:gx be xs n with
 |false=>simp
 |true=>
  obtain⟨e,f⟩:=vT b h n (ay _)
  have:Gk (jJ be xs n) ((jJ be xs n).length/2)=AT:=by unfold Gk;rw[e.ok];simp;omega
  rw[this];simp[h1,d]
def sO:∀(n:Nat)(xs:List Int),xs.length=n*2->ib xs=AT->∀k,k<n->0<=xs[k*2]?.getD 0/\xs[k*2]?.getD 0<=39/\(xs[k*2+1]?.getD 0=0\/xs[k*2+1]?.getD 0=1)
 |0,_,_,_,k,d=>absurd d aa
 |n+1,c::b::r,e,h,k,d=>by
  unfold ib at h;simp only[Uy,decide_eq_true_eq] at h;cases k with
  |zero=>exact⟨h.1.1.1,h.1.1.2,h.1.2⟩
  |succ k=>have:=sO n r (by simp at e;omega) h.2 k aa;rw[show(k+1)*2=k*2+1+1 by omega];exact this
 |n+1,[],h,_,_,_=>by simp at h
 |n+1,[_],h,_,_,_=>by simp at h;omega
def Oe:∀(n:Nat)(xs:List Int)(e:bg)(c b:Int),xs.length=n*2->nR (xs++[c,b]) e=ix (nR xs e) c.toNat b
 |0,[],e,c,b,_=>rfl
 |n+1,d::f::r,e,c,b,h=>by rw[aje,aje,nR,nR];exact Oe n r _ c b yA
 |n+1,[],_,_,_,h=>by simp at h
 |n+1,[_],_,_,_,h=>by simp at h;omega
end
section
open Go.RowKit Go.WideShapes Go.ChangeShapes
section
variable{t:SL}{s n B g c:Nat}{w:rl}{xs:List Int}
theorem az.range(h:az t s w B (Y (an ⟨g,0,ns⟩) n c) n xs)(o k:Nat)(b:o+k<=n*s):w.rangeAt g o ((sub xs o k).map (Value.int .i64)):=λj v hv=>by
 have d:=h.1
 have hj:j<k:=by have:=(ow.1 hv).1;rw[aiS,bZ aa] at this;exact this
 have:=h.cell (o+j) aa;exact JX
variable{P:Program}{ops:Array ajq}{rest:List ajq}{o:ajq}{a:Act}{Q':Exit->Act->rl->Prop}
def Di(b:o.guard=ns){ty:SL}{x:Operand}(e:o.op=.load ty x){g:Nat}(off:Nat)(f:a.eval x=d9 (an ⟨g,off,ns⟩)){xs:List Int}(h:az t s w B (Y (an ⟨g,0,ns⟩) n c) n xs)(i:off+k<=n*s){d:TypeDesc}
  (hu:P.underlying ty=an d)(hd:d.isRow=AT)(hi:(P.info? ty).map (·.size)=an k)
  (hK:aiB P ops Q' rest (a.put o.dst (bi (arr (sub xs off k)))) w):aiB P ops Q' (o::rest) a w:=
 wpList_load_mid b ty x e g off f _ d (h.range off k i) hu hd (by rw[aiS,bZ (by have:=h.1;omega)];exact hi) hK
def lE(xs:List Int)(o:Nat)(h:o+2<=xs.length):sub xs o 2=[xs[o]?.getD 0,xs[o+1]?.getD 0]:=by
 refine nt (by rw[bZ h];rfl) λi hi=>?_;rw[bZ h] at hi;rw[gj _ _ _ _ hi];rcases i with _|_|i
 ·rfl
 ·rfl
 ·omega
end
def zD:(Gz.prog.info? 180).map (·.size)=an 2:=aF
theorem ZD(e:bg)(c:Nat)(b:Int):(ix e c b).out.length<=e.out.length+2:=by
 have hm:(iB e c b).out=e.out:=by unfold iB;split<;>rfl
 have d:∀f:bg,(lO f).out.length=f.out.length+1:=λf=>pZ f;unfold ix jK;split
 ·grind
 ·simp_all
structure RE(xs:List Int)(k:Nat)(e:bg):Prop where
 run:e=nR (xs.take (k*2)) jf
 ok:cT e
 span:16777216<=e.span
 len:e.out.length<=k*2
def RE.zero(xs:List Int):RE xs 0 jf:=⟨by simp[nR],Qt.1,Qt.2,by simp[jf]⟩
def aaZ(h:k*2+2<=xs.length):xs.take ((k+1)*2)=xs.take (k*2)++[xs[k*2]?.getD 0,xs[k*2+1]?.getD 0]:=by have e:=List.take_add (l:=xs) (i:=k*2) (j:=2);rw[show(k+1)*2=k*2+2 by omega,e];congr 1;exact lE xs (k*2) h
def RE.succ{e:bg}(h:RE xs k e)(f:xs.length=n*2)(i:k<n)(h1:0<=xs[k*2]?.getD 0)(j:xs[k*2]?.getD 0<=39):
  RE xs (k+1) (ix e (xs[k*2]?.getD 0).toNat (xs[k*2+1]?.getD 0)):=by
 obtain⟨b,d⟩:=h.ok.step h.span (xs[k*2]?.getD 0).toNat (xs[k*2+1]?.getD 0) aa;refine⟨?_,b,d,?_⟩
 ·rw[aaZ aa,Oe k _ _ _ _ (by rw[List.length_take];omega),<-h.run]
 ·have:=ZD e (xs[k*2]?.getD 0).toNat (xs[k*2+1]?.getD 0);have:=h.len;omega
def RE.full{e:bg}(h:RE xs n e)(b:xs.length=n*2):e=nR xs jf:=by rw[h.run,ajv aa]
def mP:Nat->bg->bg
 |0,e=>e
 |k+1,e=>cu (mP k e)
def As:∀(j:Nat){e:bg},cT e->cT (mP j e)
 |0,_,h=>h
 |j+1,_,h=>(As j h).cu
def zU:∀(j:Nat)(e:bg),(mP j e).out.length=e.out.length+j
 |0,_=>rfl
 |j+1,e=>by rw[mP,pZ,zU j e];omega
def Yt:(Gz.prog.info? 5).map (λi=>(i.zero,i.size,i.bytes))=an (an (.int .u8 0),1,1):=aF
theorem uQ{v:Value}{ops:Array ajq}{rest:List ajq}{o:ajq}{a:Act}{Q':Exit->Act->rl->Prop}(d:o.guard=ns){x y:Operand}{st:SL}(i:o.op=.call {callee:=.builtin .append,args:=#[x,y],argTypes:=#[st,st]})
  (hu:Gz.prog.underlying st=an (.slice 5))(p:a.eval x=v)(b:aK w B v n xs)(ad:Addr)(ys:List Int)(m:Nat){c:Nat}(q:a.eval y=Y (an ad) m c)(u:ys.length=m)
  (A:n+m<=1000000000)(e:B<=w.heap.size)(hc:∀j,j<ys.length->w.cell? (ad.add j)=an (.int .u8 (ys[j]?.getD 0)))
  (h:∀v' w',aK w' B v' (n+m) (xs++ys)->w.grownBy w' v.ownBlock->aiB Gz.prog ops Q' rest (a.put o.dst v') w'):aiB Gz.prog ops Q' (o::rest) a w:=by
 obtain⟨i0,hi,f,hz1,hz2⟩:=info_parts Yt;refine wpList_append_own _ d x y st i B 5 i0 _ 1 1 hu hi f hz1 hz2 rfl aw v n _ p b.2 ad m c (ys.map (Value.int .u8)) q (by rw[aiS];omega) ?_ ?_ ?_ ?_ e ?_
 ·grind
 ·exact Df
 ·unfold maxLen;omega
 ·omega
 ·intro v' w' h1 z _;exact h v' w' ⟨by rw[ahc,b.1,u],by simpa using h1⟩ z
end
end Go.Proofs.Q0
