import Derived.Test.YtfmnlpedhgficaaGreatDoorK4
set_option maxRecDepth 100000
set_option maxHeartbeats 8000000
set_option linter.all false
open Go.Value renaming int->U,slice->Y,bool->a5,agg->a9,pointer->bi,tuple->ci,iface->em
open Go.IntKind renaming i64->O
open Go.Obj renaming cells->ac
open Go.Ending renaming returned->be
open Bool renaming and_eq_true->aft,and_false->ama,false->Bz,false_and->alX,true->AT
open Go renaming Oper->akG,TypeId->TO,World->AS,wpList->ajU
open Go.World renaming size_alloc->OF
open List renaming append_assoc->ajH,cons_append->akf,flatMap_append->alD,length_append->ajq,length_cons->ajE,length_map->ako,range_succ->akq,replicate->rl,take_of_length_le->ake
open Option renaming none->ns,some->an
namespace Go.Proofs
def Dw{p:Prop}(h:p:=by simp only[List.flatMap_cons,List.flatMap_nil,List.append_nil]):p:=h
abbrev oP:=@Classical.byContradiction
abbrev vB:=@List.mem_append
def C0{p:Prop}(h:p:=by rw[bS (by omega)];exact hk):p:=h
def zg{p:Prop}(h:p:=by rw[World.size_alloc,World.size_alloc] at this;exact this):p:=h
def Mn{p:Prop}(h:p:=by unfold Hid fi;rw[if_neg (by rw[h];intro k;cases k.2)];unfold m8 preB;rw[h];rfl):p:=h
end Go.Proofs
namespace Go.Proofs.Q0
open Go.Proofs.Tryz
variable{k n s B:Nat}{h l m r xs ys:List Int}{ap:Bool}{w:AS}{t:TO}
def Rf{x:Int}(h:0<=x)(k:x<=65534):(-16<=aX x/\aX x<=16)<->x<=32:=by
 unfold aX;split
 ·omega
 ·omega
def AO(b:k<h.length):aq (h++l) k=aq h k:=by unfold aq;rw[List.getElem?_append_left b]
def adM{o:Nat}(b:o+k<=h.length):sub (h++l) o k=sub h o k:=by unfold sub;rw[List.drop_append_of_le_length aa,List.take_append_of_le_length aA]
def OW(o:Nat)(e:o=h.length)(b:k=l.length):sub (h++l) o k=l:=by unfold sub;subst e;subst b;simp
def lM(h:List Int):Bool:=kt h&&lB h
def aaB(d:h.length=7)(b:aq h 0≠0):kt (h++l)=kt h:=by have e:∀k,k<7->aq (h++l) k=aq h k:=λk b=>AO aa;unfold kt jU lA mz;rw[e 0 al,e 1 al,e 2 al,e 3 al,e 4 al,e 5 al,e 6 al,adM aa,if_neg b,if_neg b]
def abV(d:h.length=7)(b:l.length=64)(f:aq h 0≠0):dt (h++l)=(lM h&&aS l 4080):=by have e:∀k,k<7->aq (h++l) k=aq h k:=λk f=>AO aa;unfold dt lM;rw[aaB d f,OW 7 d.symm b.symm];unfold lB;rw[e 1 al,e 2 al]
def adN(x y:Int):lM [1,x,y,0,0,0,0]=(decide (-16<=x/\x<=16)&&decide (-16<=y/\y<=16)):=rfl
def Rg{b:List Int}(h:b.length=4):lM ([2,0,0]++b)=b.all λx=>decide (0<=x/\x<=4):=by unfold lM kt;have d:aq ([2,0,0]++b) 0=2:=rfl;have e:lA ([2,0,0]++b)=AT:=rfl;have f:lB ([2,0,0]++b)=AT:=rfl;have i:=OW (h:=[2,0,0]) 3 rfl h.symm;rw[d,e,f,if_neg al,if_neg al,if_pos rfl];unfold mz;rw[i,Bool.and_true,Bool.and_true]
theorem abW{d:ax}:
  (∃h j,qM d=an (h,j)/\tH (d,0)=(h,(j,0))/\lM h=AT)\/
  (qM d=ns/\((tH (d,0)).2.2≠0\/lM (tH (d,0)).1=Bz)):=by
 unfold qM tH;cases f:(aQ 2 d).1 with
 |none=>exact .inr ⟨rfl,.inl (sU 2 (sG f 0))⟩
 |some x=>
  rw[sE f 0];have b:=kj f;dsimp only;generalize(aQ 2 d).2=d1;cases i:(aQ 2 d1).1 with
  |none=>exact .inr ⟨rfl,.inl (sG i 0)⟩
  |some y=>
   rw[sE i 0];have e:=kj i;have p:=adN (aX x) (aX y);have ex:=Rf b.1 b.2;have q:=Rf e.1 e.2;by_cases u:32<x\/32<y
   ·grind
   ·simp_all
def abX{d:ax}:
  (∃h i,na d=an (h,i)/\m7 (d,0)=(h,(i,0))/\lM h=AT)\/
  (na d=ns/\((m7 (d,0)).2.2≠0\/lM (m7 (d,0)).1=Bz)):=by
 unfold na m7;have e:=Et 4 (d,0);dsimp only;rcases Og 4 d with⟨r,d2,f,b,j⟩|⟨f,b⟩
 ·rw[f,b];rw[b] at e;exact .inl ⟨_,_,rfl,rfl,(Rg e).trans j⟩
 ·rw[f];refine .inr ⟨rfl,?_⟩;rcases b with b|b
  ·omega
  ·exact .inr ((Rg e).trans b)
def adO(ap:Bool)(d:ax):(l9 ap (d,0)).2=((l9 ap (d,0)).2.1,0):=by unfold l9;split<;>rfl
def adP(ap:Bool)(d:ax):iT ap (d,0)=((iT ap (d,0)).1,0):=by unfold iT;split<;>rfl
def OX(ap:Bool)(d:ax):
  (∃h b,mh ap d=an (h,b)/\fB ap (d,0)=(h,(b,0))/\lM h=AT)\/
  (mh ap d=ns/\((fB ap (d,0)).2.2≠0\/lM (fB ap (d,0)).1=Bz)):=by
 have e:=adO ap d;unfold mh fB;rw[e];split
 ·exact abW
 ·exact abX
def Oh(ap:Bool)(s:bw):aq (fB ap s).1 0≠0/\(ap=AT->aq (fB ap s).1 0=2):=by
 unfold fB;split
 ·rename_i h;refine⟨by show(1:Int)≠0;decide,λe=>?_⟩;subst e;exact absurd h (by show¬(2:Int)=1;decide)
 ·exact⟨by show(2:Int)≠0;decide,λ_=>rfl⟩
def aaC:dS Bz et=AT:=aE
theorem Zr(ap:Bool)(d:ax):
  (∃h f,gQ ap d=an (h,f)/\dX ap (d,0)=(h,(f,0))/\dS ap h=AT)\/
  (gQ ap d=ns/\((dX ap (d,0)).2.2≠0\/dS ap (dX ap (d,0)).1=Bz)):=by
 unfold gQ dX;by_cases i:ap=Bz/\cU d 0=0
 ·rw[if_pos i,if_pos (show ap=Bz/\cU ((d,0):bw).1 0=0 from i)];refine .inl ⟨_,_,rfl,rfl,?_⟩;rw[i.1];exact aaC
 ·rw[if_neg i,if_neg (show¬(ap=Bz/\cU ((d,0):bw).1 0=0) from i)];have e:=adP ap d;rw[e];dsimp only;generalize(iT ap (d,0)).1=d0;have q:=EM ap (d0,0);obtain⟨u,v⟩:=Oh ap (d0,0)
  have p:∀l:List Int,l.length=64->dS ap ((fB ap (d0,0)).1++l)=(lM (fB ap (d0,0)).1&&aS l 4080):=by intro l j;unfold dS;rw[abV q j u,AO aa];have:(!ap||aq (fB ap (d0,0)).1 0==2)=AT:=fu;rw[this,Bool.and_true]
  rcases OX ap d0 with⟨h,f,h1,b,z⟩|⟨h1,b⟩
  ·rw[h1];have j:=zM 4 (f,0);rcases OV 4 f with⟨r,d2,x,y,A⟩|⟨x,y⟩
   ·simp_all
   ·simp_all
  ·rw[h1];refine .inr ⟨rfl,?_⟩;rcases b with b|b
   ·exact .inl (EU 4 b)
   ·exact .inr (by rw[p _ (zM 4 _),b,alX])
def abY(h:m.length=71):aO (m++r) 0=m:=by unfold aO sub;rw[Nat.mul_zero,List.drop_zero,List.take_append_of_le_length aa,ake aa]
def abZ(h:m.length=71)(k:Nat):aO (m++r) (k+1)=aO r k:=by unfold aO sub;rw[show 71*(k+1)=m.length+71*k by omega,List.drop_append,List.drop_of_length_le aa];simp
def EW(ap:Bool)(h:m.length=71)(n:Nat):gx ap (m++r) (n+1)=(dS ap m&&gx ap r n):=by unfold gx;rw[List.range_succ_eq_map,List.all_cons,List.all_map,abY h];congr 1;congr 1;funext k;exact congrArg _ (abZ h k)
def Oi(ap:Bool):∀(k:Nat)(d:ax),
  (∃xs,jQ ap k d=an xs/\(eR ap k (d,0)).1=an xs/\gx ap xs k=AT)\/
  (jQ ap k d=ns/\∀xs,(eR ap k (d,0)).1=an xs->gx ap xs k=Bz)
 |0,d=>.inl ⟨[],rfl,rfl,rfl⟩
 |k+1,d=>by
  rw[jQ,eR];have f:=Eu ap (d,0);rcases Zr ap d with⟨h,j,h1,p,v⟩|⟨h1,p⟩
  ·rw[h1];rw[p] at f⊢;dsimp only at f⊢;rw[if_neg al];rcases Oi ap k j with⟨r,q,e,x⟩|⟨q,e⟩
   ·rw[q];refine .inl ⟨_,rfl,?_,by rw[EW ap f,v,x];rfl⟩;generalize eR ap k (j,0)=z at e;obtain⟨i,u⟩:=z;dsimp only at e;rw[e]
   ·rw[q];refine .inr ⟨rfl,λxs b=>?_⟩;generalize eR ap k (j,0)=z at e b;obtain⟨i,u⟩:=z;cases i with
    |none=>cases b
    |some r=>dsimp only at b e;injection b with b;rw[<-b,EW ap f,e r rfl,ama]
  ·rw[h1];refine .inr ⟨rfl,λxs b=>?_⟩;by_cases he:(dX ap (d,0)).2.2≠0
   ·rw[if_pos he] at b;cases b
   ·rw[if_neg he] at b;have hm:dS ap (dX ap (d,0)).1=Bz:=p.resolve_left he;generalize eR ap k (dX ap (d,0)).2=z at b;obtain⟨i,u⟩:=z;cases i with
    |none=>cases b
    |some r=>dsimp only at b;injection b with b;rw[<-b,EW ap f,hm,alX]
def Rh(h:gx ap xs n=Bz):eI ap xs n=ns:=by unfold eI;rw[h,ama,if_neg al]
structure ei(d:ax):Prop where
 ok:bT d
 code:d.code=0
 rest:d.rest=[]
def Ri{d:ax}(h:d.code=0)(k:d.rest=[]):(cV d).code=0/\(cV d).rest=[]:=by unfold cV;rw[h,k];exact⟨rfl,rfl⟩
def ei.bit{d:ax}(h:ei d)(c:Nat)(hc:c<40):cU d c=0:=by obtain⟨b,e⟩:=h.ok.ch c hc;have:=(lY h.ok.lo h.ok.hi b e).1;unfold cU;rw[h.code];unfold dZ;omega
theorem ei.jY{d:ax}(h:ei d)(c:Nat)(hc:c<40):ei (bO d c):=by
 have b:=h.ok.jY c hc;have e:=h.bit c hc;refine⟨b,?_,?_⟩<;>
 ·have hm:(dP d c).code=0/\(dP d c).rest=[]:=by
   unfold cU at e;unfold dP;split
   ·exact⟨h.code,h.rest⟩
   ·omega
  have h1:=Ri hm.1 hm.2;have f1:(feed (dP d c)).code=0/\(feed (dP d c)).rest=[]:=h1;have f:=Ri f1.1 f1.2;have f2:(feed (feed (dP d c))).code=0/\(feed (feed (dP d c))).rest=[]:=f;unfold bO jO;split
  ·grind
  ·simp_all
def ei.num{d:ax}(h:ei d){b:Nat}(e:b+6<40):(aQ b d).1=an 0/\ei (aQ b d).2:=by
 have h1:gT b 16 0 d=(an 0,bO d b):=by rw[gT,show b+min 0 5=b by omega,if_neg (by rw[h.bit b (by omega)];decide)]
 unfold aQ;rw[h1];exact⟨rfl,h.jY b aa⟩
def adQ:ei (eG []):=⟨Fp [],rfl,rfl⟩
def ei.levels{d:ax}(h:ei d):∃e,gP d=an (rl 16 0,e)/\ei e:=by obtain⟨h1,f⟩:=h.num (b:=16) al;refine⟨_,?_,f⟩;unfold gP;rw[h1];rfl
def ei.Uh:∀(k:Nat){d:ax},ei d->∃b,mg k d=an (rl (k*16) 0,b)/\ei b
 |0,d,h=>⟨d,rfl,h⟩
 |k+1,d,h=>by obtain⟨d1,h1,e⟩:=h.levels;obtain⟨d2,f,i⟩:=ei.Uh k e;refine⟨d2,?_,i⟩;rw[mg,h1];dsimp only;rw[f];dsimp only;rw[List.replicate_append_replicate,show 16+k*16=(k+1)*16 by omega]
def ei.tD:∀(k:Nat){d:ax},ei d->∃e,ld k d=an (rl k 0,e)/\ei e
 |0,d,h=>⟨d,rfl,h⟩
 |k+1,d,h=>by obtain⟨h1,f⟩:=h.num (b:=9) al;obtain⟨d2,i,j⟩:=ei.tD k f;refine⟨d2,?_,j⟩;rw[ld,h1];dsimp only;rw[if_neg al,i];rfl
def Tv(ap:Bool):List Int:=if ap then 2::rl 70 0 else et
def ei.ahp{d:ax}(ap:Bool)(h:ei d):∃b,gQ ap d=an (Tv ap,b)/\ei b:=by
 cases ap with
 |false=>refine⟨bO d 0,?_,h.jY 0 al⟩;unfold gQ;rw[if_pos ⟨rfl,h.bit 0 al⟩];rfl
 |true=>
  obtain⟨d1,h1,f⟩:=ei.tD 4 h;obtain⟨d2,i,j⟩:=ei.Uh 4 f;refine⟨d2,?_,j⟩
  have e:mh AT (iT AT (d,0)).1=an ([2,0,0,0,0,0,0],d1):=by have:mh AT (iT AT (d,0)).1=na d:=rfl;rw[this];unfold na;rw[h1];rfl
  unfold gQ;rw[if_neg (λx=>by cases x.1),e];dsimp only;rw[i];rfl
def wL(ap:Bool):Nat->List Int
 |0=>[]
 |k+1=>Tv ap++wL ap k
def ei.slice(ap:Bool):∀(k:Nat){d:ax},ei d->jQ ap k d=an (wL ap k)
 |0,_,_=>rfl
 |k+1,d,h=>by obtain⟨d1,h1,b⟩:=h.ahp ap;rw[jQ,h1];dsimp only;rw[ei.slice ap k b];rfl
def Zs:∀n,n<5->1<=n->(eI Bz (wL Bz n) n).isSome=AT/\(eI AT (wL AT n) n).isSome=AT:=by decide+kernel
def Qc:∀xs:List Int,(kF xs).length=xs.length
 |[]=>rfl
 |x::r=>by
  rw[kF];split
  ·simp[Qc r]
  ·rfl
def AP(xs:List Int):(gI xs).length=xs.length:=by simp[gI,Qc]
def qd(e:aY):(bV e).out.length=e.out.length+1:=by
 unfold bV;split
 ·simp[AP]
 ·simp
def adR{b:List Int}:mA b≠[]:=by intro h;have:=congrArg List.length h;unfold mA at this;rw[qd] at this;simp at this
def adS:eI ap xs n≠an []:=by
 unfold eI;split
 ·split
  ·intro h;injection h with h;exact adR h
  ·simp
 ·simp
def ab0(data:List Int)(n:Int)(ap:Bool):jv data n ap=BN data n ap:=by
 unfold jv BN;split
 ·rename_i q;rcases Oi ap n.toNat (eG data) with⟨xs,h1,d,u⟩|⟨h1,d⟩
  ·rw[h1,d];dsimp only;by_cases hd:data=[]
   ·subst hd;rw[ei.slice ap n.toNat adQ] at h1;injection h1 with h1;subst h1;obtain⟨e,f⟩:=Zs n.toNat aa aa;have i:(eI ap (wL ap n.toNat) n.toNat).isSome=AT:=by cases ap;exact e;exact f
    obtain⟨b,j⟩:=pO.1 i;rw[j];simp
   ·cases v:eI ap xs n.toNat with|none=>simp_all|some b=>simp
  ·rw[h1];cases p:(eR ap n.toNat (eG data,0)).1 with
   |none=>rfl
   |some xs=>dsimp only;rw[Rh (d xs p),if_neg aj]
 ·rfl
section
open Go.RowKit Go.WideShapes Go.ChangeShapes
def ay.src{g c:Nat}(h:ay t s w B (Y (an ⟨g,0,ns⟩) n c) n ys):∀j,j<ys.length->w.cell? ((⟨g,0,ns⟩:Addr).add j)=an (U O (ys[j]?.getD 0)):=λj b=>by
 have:=h.cell j (by rw[<-h.1];exact b);by_cases h0:j=0
 ·subst h0;simpa[Addr.add] using this
 ·simpa[Addr.add,h0] using this
def ay.gC{v:Value}(h:ay t s w B v n ys)(b:0<n):∃g c,v=Y (an ⟨g,0,ns⟩) n c:=by
 rcases h.dE with⟨_,h0⟩|⟨g,c,e,_⟩
 ·omega
 ·simp_all
def Fw:∀(ys:List Int)(z:Int),0<=z->∀r∈iH ys z,r.2∈ys/\r.2≠0/\0<=r.1/\r.1<z+ys.length
 |[],_,_,r,h=>by simp[iH] at h
 |x::ys,z,e,r,h=>by
  rw[iH] at h;split at h
  ·obtain⟨h1,b,d,f⟩:=Fw ys (z+1) aa r h;exact⟨pP _ h1,b,d,by simp;omega⟩
  ·rename_i i;rcases jH.1 h with rfl|h
   ·exact⟨nB ..,i,e,by simp;omega⟩
   ·obtain⟨h1,b,d,f⟩:=Fw ys 0 aa r h;exact⟨pP _ h1,b,d,by simp;omega⟩
def Fx(v:xs.length=16)(d:aS xs 4080=AT):∀r∈dy xs,0<=r.1/\r.1<=15/\ -4080<=r.2/\r.2<=4080/\r.2≠0:=by intro r f;obtain⟨h1,j,p,q⟩:=Fw _ 0 aa r f;rw[EO] at q;obtain⟨i,hi,e⟩:=oR.1 h1;have u:∀i∈gZ,i<16:=al;have b:=u i hi;have:=nM d i aa;rw[e] at this;exact⟨p,aa,this.1,this.2,j⟩
def Gq{v:Int}(h1: -4080<=v)(b:v<=4080)(h0:v≠0):0<=bu v-1/\bu v-1<=8159:=by unfold bu;split<;>omega
def Zt{b:List (Int×Int)}(d:k<b.length):iU (b.take (k+1))=iU (b.take k)++(dn b[k].1 23++dn (bu b[k].2-1) 30):=by unfold iU;rw[List.take_succ_eq_append_getElem d,alD];exact Dw
def ig{n:Int}(h0:0<=n)(h1:n<=65533):dN n<=31:=by unfold dN;have:(n+1).toNat.log2<16:=(Nat.log2_lt aa).2 aa;omega
def qe(n:Int):0<dN n:=by unfold dN;omega
def ab1(w:AS)(E:xs.length=16)(hb:aS xs 4080=AT):
  Calls Gz.prog 131 #[a9 (arr xs)] w λe w'=>∃v' n,e=be v'/\n<=1100/\ay 164 2 w' w.heap.size v' n (my xs)/\Q w w':=by
 have s1:=bQ xs;rw[E] at s1;have b0:=Nb.new 94 16 w xs E;have y:=ET xs;have HR:=af (Fx E hb);have A:=adJ (w.alloc (ac (arr xs) 94)) E;go_enter Gz.gf func131,ntmps131;go_wp2_with(refine e8 (n:=16) rfl _ _ rfl _ rfl _ aG _ (Gz.gu underlying94) rfl cN ?_);refine A.mono ?_;rintro e p⟨v2,rfl,H,q2⟩;clear A b0;obtain⟨A2,c2,rfl⟩:=H.form;have R2:=af H.rd;have Q2:Q w p:=((Q.refl w).alloc _).trans q2;have C:=af Q2;have d:Hid (my xs=dn (dy xs).length 16++iU (dy xs)):=rfl;clear H q2 Q2;generalize dy xs=v at y HR R2 d;obtain⟨m,hm⟩:∃m,v.length=m:=⟨_,rfl⟩;rw[hm] at y d;rw[hm];have Vb:(m:Int)<=16:=aa;have b:=sD (m:Int) 16 p aa aa aa;go_wp2;refine b.mono ?_;rintro e w3⟨v3,rfl,o3,q3⟩;clear b;have IM:=ig (n:=(m:Int)) aa aa;go_wp2;go_loopw[4,5] (λu i wr=>∃(k cnt:Nat),k<=m/\i=U O k/\cnt<=31+62*k/\Hid (ay 164 2 wr p.heap.size u cnt (dn m 16++iU (v.take k))/\Q p wr)) (λ_ i _=>m-(intOf i).toNat)
 case atStart=>exact⟨0,_,aa,rfl,aa,by simpa[iU] using o3,q3⟩
 case round=>
  obtain⟨k,cnt,hk,rfl,UV,hK⟩:=hrel;obtain⟨F,x⟩:=hK.out;clear hK o3 q3;by_cases I:k<m
  ·have i6:(k:Int)<(m:Int):=by omega
   have f:k<v.length:=aa;obtain⟨f1,f2⟩:=Bn v k f;have G:=Zt f;have j:=HR.out v[k] (sf f);generalize v[k]=r at f1 f2 G j;obtain⟨z,l⟩:=r;dsimp only at f1 f2 G j;obtain⟨z0,z1,l0,l1,l2⟩:=j;obtain⟨J,oo,rfl,D,hc⟩:=R2.out.q x (av _) ny;have c1:=hc (k*2) ny;have K:=hc (k*2+1) ny;rw[f1] at c1;rw[f2,<-Nat.add_assoc] at K;have HT:=af G;clear hc f1 f2 G;have b:=sD z 23 wr z0 aa aa;obtain⟨i0,i1⟩:=Gq l0 l1 l2;have aiV:=ig (n:=z) z0 aa;have aiW:=ig (n:=bu l-1) i0 aa;have aiX:=x.size;go_wp2;refine b.mono ?_;rintro e w5⟨v5,rfl,o5,L⟩;clear b;obtain⟨g5,c5,rfl⟩:=o5.gC (qe z);have M:=af x;have k3:=F.q L;have k4:=x.trans L;have ahq:=L.size;have D3:=af K;clear F x c1 K;go_wp2_with((at_builtin;refine gi rfl rfl (Gz.gu underlying128) ie rfl al al rfl k3 ⟨_,0,ns⟩ _ _ rfl kX aa aa o5.src ?_;intro v6 N O6 G6);have R:Q p N:=bD.toQ G6 k4 λg S=>k3.below g S;have d6:N.cell? ⟨J,oo+k*2+1,ns⟩=an (U O l):=(R.cell J _ D).trans ((M.out.cell J _ D).symm.trans D3.out));refine(Dv l aa aa).mono ?_;rintro e w7⟨rfl,rfl⟩;have b:=sD (bu l-1) 30 N i0 aa aa;go_wp2;refine b.mono ?_;rintro e w8⟨v8,rfl,o8,T⟩;clear b;obtain⟨g8,c8,rfl⟩:=o8.gC (qe (bu l-1));have k9:=O6.q T;have V:=R.trans T;have aiY:=T.size;have aiZ:=R.size;clear d6 D3;go_wp2_with(at_builtin;refine gi rfl rfl (Gz.gu underlying128) ie rfl al al rfl k9 ⟨_,0,ns⟩ _ _ rfl kX aa aa o8.src ?_;intro v9 w9 O9 G9);have W:Q p w9:=bD.toQ G9 V λg S=>k9.below g S;go_roundw;case rel=>exact⟨k+1,cnt+dN z+dN (bu l-1),aa,aF,aa,by rw[HT.out,<-ajH,<-ajH];exact O9,W⟩
   case measure=>exact aT
  ·have X:k=m:=by omega
   have Z:=C.out.size;rw[X,ake aa] at F;clear I;go_wp2;go_ret;exact⟨_,cnt,rfl,aa,by rw[d.out];exact F.mono Z,C.out.trans x⟩
end
def iX:List Int->Int
 |[]=>0
 |x::r=>x+256*iX r
def bytes(xs:List Int):Prop:=∀x∈xs,0<=x/\x<=255
def Oj:∀{xs:List Int},bytes xs->bytes (kF xs)
 |[],_=>λ_ h=>by simp[kF] at h
 |x::r,h=>by
  rw[kF];have e:=h x (nB ..);have d:bytes r:=λy b=>h y (pP _ b);split
  ·intro y b;rcases jH.1 b with rfl|b
   ·omega
   ·exact Oj d y b
  ·intro y b;rcases jH.1 b with rfl|b
   ·omega
   ·exact d y b
def Qd:∀{xs:List Int},(∃x∈xs,x≠255)->iX (kF xs)=iX xs+1
 |[],⟨_,h,_⟩=>by simp at h
 |x::r,⟨y,b,d⟩=>by
  rw[kF];split
  ·rename_i e
   have:∃z∈r,z≠255:=by
    rcases jH.1 b with rfl|b
    ·exact absurd e d
    ·exact⟨y,b,d⟩
   rw[iX,iX,Qd this];omega
  ·rw[iX,iX];omega
def OY:∀{xs:List Int},(∀x∈xs,x=255)->iX xs=256^xs.length-1
 |[],_=>rfl
 |x::r,h=>by rw[iX,OY λy b=>h y (List.mem_cons_of_mem _ b),h x (List.mem_cons_self ..),ajE,Int.pow_succ];omega
structure cP(e:aY):Prop where
 lo:4096<=e.span
 hi:e.span<=4294967295
 l0:0<=e.low
 l1:e.low+e.span<=8589934591
 len:e.ch.length=40
 ch:∀k,k<40->1<=e.ch[k]?.getD 0/\e.ch[k]?.getD 0<=4095
 out:bytes e.out
 val:iX e.out.reverse*4294967296+e.low+e.span<=4294967296*256^e.out.length
def cP.room{e:aY}(h:cP e)(k:4294967296<=e.low):∃x∈e.out.reverse,x≠255:=by refine oP λd=>?_;have f:∀x∈e.out.reverse,x=255:=λx i=>oP λb=>d ⟨x,i,b⟩;have j:=h.val;rw[OY f,List.length_reverse] at j;have:=h.lo;omega
def OZ(h:bytes xs):bytes xs.reverse:=λx b=>h x (by simpa using b)
def aaD(h:bytes xs):bytes (gI xs):=OZ (Oj (OZ h))
def Ok{x:Int}(h:bytes xs)(h0:0<=x)(h1:x<=255):bytes (xs++[x]):=by
 intro y b;rcases vB.1 b with b|b
 ·exact h y b
 ·simp_all
def cP.put{e:aY}(h:cP e)(s:Int)(h1:4096<=s)(b:s<=4294967295)(i:s<=256*e.span):cP {bV e with span:=s}:=by
 have:=h.l0;have j:=h.val;have d:(256:Int)^(e.out.length+1)=256^e.out.length*256:=Int.pow_succ ..;unfold bV;split
 ·rename_i f;refine⟨h1,b,?_,?_,h.len,h.ch,Ok (aaD h.out) aa aa,?_⟩
  ·show 0<=(e.low-4294967296)%16777216*256;omega
  ·show(e.low-4294967296)%16777216*256+s<=_;omega
  ·show iX (gI e.out++[(e.low-4294967296)/16777216%256]).reverse*4294967296+(e.low-4294967296)%16777216*256+s<=4294967296*256^(gI e.out++[(e.low-4294967296)/16777216%256]).length;have hc:(gI e.out).reverse=kF e.out.reverse:=by unfold gI;rw[List.reverse_reverse]
   rw[List.reverse_append,ajq,AP,List.reverse_singleton,List.singleton_append,iX,hc,Qd (h.room f),List.length_singleton,d];omega
 ·rename_i f;refine⟨h1,b,?_,?_,h.len,h.ch,Ok h.out aa aa,?_⟩
  ·show 0<=e.low%16777216*256;omega
  ·show e.low%16777216*256+s<=_;omega
  ·show iX (e.out++[e.low/16777216%256]).reverse*4294967296+e.low%16777216*256+s<=4294967296*256^(e.out++[e.low/16777216%256]).length;rw[List.reverse_append,ajq,List.reverse_singleton,List.singleton_append,iX,List.length_singleton,d];omega
def vO(e:aY):(bV e).span=e.span:=by unfold bV;split<;>rfl
def cP.bV{e:aY}(h:cP e):cP (bV e):=by
 have:=h.put e.span h.lo h.hi (by have:=h.lo;omega)
 have b:({Go.Proofs.Q0.bV e with span:=e.span}:aY)=Go.Proofs.Q0.bV e:=by have:=vO e;generalize Go.Proofs.Q0.bV e=f at this;cases f;simp at this;rw[this]
 rw[b] at this;exact this
def cP.grow{e:aY}(h:cP e)(b:e.span<16777216):cP (mb e):=h.put (e.span*256) (by have:=h.lo;omega) aa aa
def cP.ren{e:aY}(h:cP e):cP (jW e)/\16777216<=(jW e).span:=by
 have:=h.lo;unfold jW;split
 ·rename_i h1;split
  ·rename_i b;have g:=h.grow h1;exact⟨g.grow b,by show 16777216<=e.span*256*256;omega⟩
  ·exact⟨h.grow h1,by show 16777216<=e.span*256;omega⟩
 ·simp_all
def cP.nk{e:aY}(h:cP e)(u:16777216<=e.span)(c:Nat)(b:Int)(hc:c<40):cP (iL e c b):=by
 obtain⟨i,j⟩:=h.ch c hc;obtain⟨v,x,_,_⟩:=lY u h.hi i j;have l:=h.len
 have d:∀b:Int,∀k,k<40->1<=(e.ch.set c (bj (e.ch[c]?.getD 0) b))[k]?.getD 0/\(e.ch.set c (bj (e.ch[c]?.getD 0) b))[k]?.getD 0<=4095:=by
  intro b k y;by_cases p:c=k
  ·subst p;simp only[List.getElem?_set_self (show c<e.ch.length by omega),Option.getD_some];exact OI i j
  ·rw[List.getElem?_set_ne p];exact h.ch k y
 have:=h.l0;have:=h.l1;have z:=h.val;have q:4096<=iW e c/\iW e c<=e.span-4096:=⟨v,x⟩;generalize f:iW e c=B at q;unfold iL;rw[f];split
 ·exact⟨q.1,by show B<=_;omega,h.l0,by show e.low+B<=_;omega,by simp[l],d 0,h.out,by show iX e.out.reverse*4294967296+e.low+B<=4294967296*256^e.out.length;omega⟩
 ·exact⟨by show 4096<=e.span-B;omega,by show e.span-B<=_;omega,by show 0<=e.low+B;omega,by show e.low+B+(e.span-B)<=_;omega,by simp[l],d 1,h.out,by show iX e.out.reverse*4294967296+(e.low+B)+(e.span-B)<=4294967296*256^e.out.length;omega⟩
def cP.step{e:aY}(h:cP e)(d:16777216<=e.span)(c:Nat)(b:Int)(hc:c<40):cP (iI e c b)/\16777216<=(iI e c b).span:=(h.nk d c b hc).ren
def Rj:cP ju/\16777216<=ju.span:=
 ⟨⟨al,al,al,al,rfl,λk b=>by have:ju.ch=rl 40 2048:=rfl;rw[this,List.getElem?_replicate,if_pos b];decide,λ_ h=>by simp[ju] at h,al⟩,al⟩
section
open Go.RowKit Go.WideShapes Go.ChangeShapes
def ay.lit(w:AS)(B:Nat)(b:B<=w.heap.size)(n:Nat)(ys:List Int)(h:ys.length=n*s)(d:n<=maxLen):ay t s (w.alloc (ac (arr ys) t)) B (Y (an ⟨w.heap.size,0,ns⟩) n n) n ys:=by refine⟨h,by rw[ako];exact h,.inr ⟨w.heap.size,n,arr ys,rfl,b,heap_alloc_new w _,av _,d,by rw[bQ];exact h,?_⟩⟩;rw[abM,ake (by rw[ako,h];exact Nat.le_refl _)]
structure MV(m:List Int):Prop where
 len:m.length=71
 kind:aq m 0=0\/aq m 0=1\/aq m 0=2
 vx: -16<=aq m 1/\aq m 1<=16
 vy: -16<=aq m 2/\aq m 2<=16
 tD:∀k,k<4->0<=aq m (3+k)/\aq m (3+k)<=4
 lv:aS (sub m 7 64) 4080=AT
def AQ(p:m.length=71)(h:dt m=AT):MV m:=by
 unfold dt at h;simp only[aft] at h;obtain⟨⟨b,d⟩,f⟩:=h;unfold lB at d;simp only[aft,decide_eq_true_eq] at d
 have j:jU m=AT->∀k,k<4->0<=aq m (3+k)/\aq m (3+k)<=4:=by
  intro j;unfold jU at j;intro k hk;rcases k with _|_|_|_|k
  ·simp_all
  ·simp_all
  ·simp_all
  ·simp_all
  ·omega
 unfold kt at b;split at b
 ·simp only[aft] at b;exact⟨p,.inl aG,d.1,d.2,j b.1.2,f⟩
 ·split at b
  ·exact⟨p,.inr (.inl aG),d.1,d.2,j b,f⟩
  ·split at b
   ·simp only[aft] at b;refine⟨p,.inr (.inr aG),d.1,d.2,λk hk=>?_,f⟩;have hm:=b.1
    have:=hU.1 hm (aq m (3+k)) (by
     have e:=gq m 3 4 k hk;have i:k<(sub m 3 4).length:=C0;have:(sub m 3 4)[k]?.getD 0=(sub m 3 4)[k]:=by simp[i]
     unfold aq;rw[<-e,this];exact sf i)
    exact of_decide_eq_true this
   ·cases b
def adT{M:Int}{o b d:Nat}(h:aS (sub xs o k) M=AT)(h1:o<=b)(p:b+d<=o+k)(q:o+k<=xs.length):aS (sub xs b d) M=AT:=by
 refine hU.2 λx f=>?_;obtain⟨i,hi,rfl⟩:=List.getElem_of_mem f;have hlen:(sub xs b d).length=d:=bS aa
 have e:(sub xs b d)[i]=(sub xs o k)[b+i-o]?.getD 0:=by
  have j:(sub xs b d)[i]=(sub xs b d)[i]?.getD 0:=by simp[hi]
  rw[j,gq _ _ _ _ aa,gq _ _ _ _ aa];congr 2;omega
 rw[e];exact decide_eq_true (nM h _ (by rw[bS (by omega)];omega))
def MV.lvl(h:MV m)(k:Nat)(b:k<4):aS (lvl m k) 4080=AT/\(lvl m k).length=16:=
 ⟨adT h.lv aa aa (by rw[h.len];omega),bS (by rw[h.len];omega)⟩
def td{v:Int}(h1: -16<=v)(b:v<=16):0<=bu v/\bu v<=32:=by unfold bu;split<;>omega
def NC(d:m.length=71)(hk:k<4):kn ((sub m 3 4).take (k+1))=kn ((sub m 3 4).take k)++dn (aq m (3+k)) 9:=by unfold kn;have b:k<(sub m 3 4).length:=C0;rw[List.take_succ_eq_append_getElem b,alD];have:=gq m 3 4 k hk;unfold aq;rw[<-this];simp[b]
def EX(m:List Int)(k:Nat):fU m (k+1)=fU m k++my (lvl m k):=by unfold fU;rw[akq,alD];exact Dw
def Tw{p:Prop}(h:p:=by(go_loopw[5,7] (λu i wr=>∃(k cnt:Nat),k<=4/\i=.int .i64 k/\cnt<=140+1100*k/\Hid (ay 164 2 wr (w.heap.size+1) u cnt (L0++fU m k)/\Q w1 wr)) λ_ i _=>4-(intOf i).toNat;(case atStart=>exact⟨0,_,by omega,rfl,UV,by simpa[fU] using HO.out,PB.out⟩);(case round=>obtain⟨k,cnt,T,rfl,D,hK⟩:=hrel;obtain⟨j,b⟩:=hK.out;clear hK;(try clear HO PB);by_cases d:k<4;(case pos=>have E:(k:Int)<4:=(by omega);have V:=b0.q b;have F:=b.size;obtain⟨G,H⟩:=hm.lvl k d;have I:sub m (7+k*16) 16=lvl m k:=(by unfold lvl;rw[Nat.mul_comm 16 k]);have A:=ab1 wr H G;have f:=EX m k;have v:=af f;clear f;go_wp2_with(refine Ml (n:=71) rfl _ _ rfl _ (7+k*16) rfl _ (by assumption) 16 (by omega) _ (Gz.gu underlying94) rfl cN ?_);refine A.mono ?_;rintro e wn⟨W,n,rfl,X,on,x⟩;clear A;have y:0<n:=(by have:=on.1;unfold my at this;rw[List.length_append,kX] at this;have:=qe ((dy (lvl m k)).length:Int);omega);obtain⟨Z,cn,rfl⟩:=on.gC y;have C:=j.q x;have J:=b.trans x;have K:=x.size;have hlen:=on.1;clear j b;go_wp2_with(at_builtin;go_loud (refine gi rfl rfl (Gz.gu underlying128) ie rfl (by decide) (by decide) rfl C ⟨_,0,none⟩ _ _ rfl hlen ?_ ?_ on.src ?_;omega;omega;intro vz L M N));have R:Q w1 L:=bD.toQ N J (λg S=>by have:=C.below g S;omega);go_roundw;(case rel=>exact⟨k+1,cnt+n,by omega,by go_num,by omega,by rw[v.out,<-List.append_assoc];exact M,R⟩);(case measure=>simp[intOf];omega));(case neg=>have z:k=4:=(by omega);rw[z] at j;clear d;go_wp2;go_ret;refine⟨_,cnt,rfl,by omega,?_,qw.trans b⟩;rw[Cg.out];exact j.mono (by omega))))):p:=h
def Tx{p:Prop}(h:p:=by(go_loopw[5,6] (λu i wr=>∃(k cnt:Nat),k<=4/\i=.int .i64 k/\cnt<=2+31*k/\Hid (ay 164 2 wr (w.heap.size+1) u cnt (L1++kn ((sub m 3 4).take k))/\Q w1 wr)) λ_ i _=>4-(intOf i).toNat;(case atStart=>exact⟨0,_,by omega,rfl,UV,by simpa[kn] using HO.out,PB.out⟩);(case round=>obtain⟨k,cnt,hk,rfl,H,hK⟩:=hrel;obtain⟨f,j⟩:=hK.out;clear hK;(try clear HO PB);by_cases b:k<4;(case pos=>have I:(k:Int)<4:=(by omega);have J:=b0.q j;have K:=j.size;obtain⟨A,L⟩:=hm.tD k b;have C:=J.at (3+k) (by omega);have v:m[3+k]?.getD 0=aq m (3+k):=rfl;rw[v] at C;have d:=NC hm.len b;generalize aq m (3+k)=md at A L C d;have F:=sD md 9 wr A (by omega) (by omega);have M:=ig (n:=md) A (by omega);have D:=af d;clear d v;go_wp2;refine F.mono ?_;rintro e wn⟨vn,rfl,on,E⟩;clear F;obtain⟨gn,cn,rfl⟩:=on.gC (qe md);have G:=f.q E;have N:=j.trans E;have R:=E.size;have hlen:=on.1;clear f j C;go_wp2_with(at_builtin;go_loud (refine gi rfl rfl (Gz.gu underlying128) ie rfl (by decide) (by decide) rfl G ⟨_,0,none⟩ _ _ rfl hlen ?_ ?_ on.src ?_;omega;omega;intro vz S T V));have W:Q w1 S:=bD.toQ V N (λg X=>by have:=G.below g X;omega);go_roundw;(case rel=>exact⟨k+1,cnt+dN md,by omega,by go_num,by omega,by rw[D.out,<-List.append_assoc];exact T,W⟩);(case measure=>simp[intOf];omega));(case neg=>have x:k=4:=(by omega);rw[x,List.take_of_length_le (by rw[bS (by rw[hm.len];omega)];omega)] at f;clear b;obtain⟨L0,y⟩:∃z,L1++kn (sub m 3 4)=z:=⟨_,rfl⟩;rw[y] at f HM;have Cg:=HM;have UV:cnt<=140:=(by omega);have Z:¬(k:Int)<4:=(by omega);clear y x;go_wp2;have HO:=af f;have PB:=af j;clear f j;exact Tw)))):p:=h
def Qe(ap:Bool)(w:AS)(hm:MV m)(hi:ap=AT->aq m 0=2):
  Calls Gz.prog 93 #[a9 (arr m),a5 ap] w λe w'=>∃v' n,e=be v'/\n<=5000/\ay 164 2 w' w.heap.size v' n (fi ap m)/\Q w w':=by
 have s1:=bQ m;rw[hm.len] at s1;have b0:=Nb.new 97 71 w m hm.len;have b1:=b0.alloc (ac #[] 164);have p:=ay.iV 164 2 (w.alloc (ac (arr m) 97)) (w.heap.size+1) aj;have D:Q (w.alloc (ac (arr m) 97)) ((w.alloc (ac (arr m) 97)).alloc (ac #[] 164)):=(Q.refl _).alloc _;have qw:Q w (w.alloc (ac (arr m) 97)):=(Q.refl _).alloc _;rw[OF] at p
 have d:∀ys:List Int,∀j,j<ys.length->(((w.alloc (ac (arr m) 97)).alloc (ac #[] 164)).alloc (ac (arr ys) 164)).cell? ((⟨w.heap.size+1+1,0,ns⟩:Addr).add j)=an (U O (ys[j]?.getD 0)):=λys j hj=>by have:=ji ((w.alloc (ac (arr m) 97)).alloc (ac #[] 164)) ys 164 j hj;exact zg
 obtain⟨w1,u⟩:∃z,w.alloc (ac (arr m) 97)=z:=⟨_,rfl⟩;have S:w1.heap.size=w.heap.size+1:=by rw[<-u];simp
 have f:=af u;have c0:=b1.at 0 aa;rw[u] at b0 D qw;clear u;have v:m[0]?.getD 0=aq m 0:=rfl;rw[v] at c0;cases ap with
 |false=>
  rcases hm.kind with h|h|h
  ·have HM:Hid (fi Bz m=[0,0]):=by unfold Hid fi;rw[if_pos ⟨rfl,h⟩]
   rw[h] at c0;go_enter Gz.gf func93,ntmps93;go_wp2;go_ret;refine⟨_,1,rfl,aa,?_,by rw[f.out];exact(qw.trans D).alloc _⟩;rw[HM.out];have hz:w.heap.size<=((w.alloc (ac (arr m) 97)).alloc (ac #[] 164)).heap.size:=by simp only[OF];omega
   have:=ay.lit (t:=164) (s:=2) ((w.alloc (ac (arr m) 97)).alloc (ac #[] 164)) _ hz 1 [0,0] rfl al;exact zg
  ·have HM:Hid (fi Bz m=[0,1,1,0]++(dn (bu (aq m 1)) 2++dn (bu (aq m 2)) 2)++fU m 4):=by exact Mn
   rw[h] at c0;have i:=d [0,1,1,0];go_enter Gz.gf func93,ntmps93;go_wp2_with(at_builtin;go_loud (refine gi rfl rfl (Gz.gu underlying128) ie rfl al al rfl (p.alloc _) ⟨_,0,ns⟩ [0,1,1,0] 2 rfl rfl ?_ ?_ ?_ ?_;omega;(simp only[OF];omega);exact i;intro I w3 H J;have x:Q w1 w3:=bD.toQ J (by rw[f.out];exact D.alloc _) (λg y=>by have:=(p.alloc (ac (arr [0,1,1,0]) 164)).below g y;omega);have A:=b0.q x;have c1:=A.at 1 aa;have c2:=A.at 2 aa;have c0:=A.at 0 aa;rw[v,h] at c0));have x1:m[1]?.getD 0=aq m 1:=rfl;have T:m[2]?.getD 0=aq m 2:=rfl;have E:=hm.vx;have F:=hm.vy;have K:ay 164 2 w3 (w.heap.size+1) I 2 [0,1,1,0]:=H;have hz3:=x.size;rw[x1];refine(Dv (aq m 1) aa aa).mono ?_;rintro e w4⟨rfl,rfl⟩;obtain⟨i0,i1⟩:=td E.1 E.2;have G:=sD (bu (aq m 1)) 2 w3 i0 aa aa;have V:=ig (n:=bu (aq m 1)) i0 aa;go_wp2;refine G.mono ?_;rintro e w5⟨v5,rfl,W,L⟩;clear G;obtain⟨g5,c5,rfl⟩:=W.gC (qe (bu (aq m 1)));have X:=K.q L;have Z:=x.trans L;have hz5:=L.size;have d2:=(b0.q Z).at 2 aa;rw[T] at d2;go_wp2_with((at_builtin;go_loud (refine gi rfl rfl (Gz.gu underlying128) ie rfl al al rfl X ⟨_,0,ns⟩ _ _ rfl kX ?_ ?_ W.src ?_;omega;omega;intro v6 w6 O6 G6));have M:Q w1 w6:=bD.toQ G6 Z (λg y=>by have:=X.below g y;omega);have d6:=(b0.q M).at 2 aa;rw[T] at d6);refine(Dv (aq m 2) aa aa).mono ?_;rintro e w7⟨rfl,rfl⟩;obtain⟨j0,j1⟩:=td F.1 F.2;have G:=sD (bu (aq m 2)) 2 w6 j0 aa aa;have ai0:=ig (n:=bu (aq m 2)) j0 aa;have hz6:=M.size;go_wp2;refine G.mono ?_;rintro e w8⟨v8,rfl,o8,N⟩;clear G;obtain⟨g8,c8,rfl⟩:=o8.gC (qe (bu (aq m 2)));have p9:=O6.q N;have R:=M.trans N;have hz8:=N.size;go_wp2_with(at_builtin;go_loud (refine gi rfl rfl (Gz.gu underlying128) ie rfl al al rfl p9 ⟨_,0,ns⟩ _ _ rfl kX ?_ ?_ o8.src ?_;omega;omega;intro v9 w9 O8 G9));have k8:Q w1 w9:=bD.toQ G9 R (λg y=>by have:=p9.below g y;omega);have UV:2+dN (bu (aq m 1))+dN (bu (aq m 2))<=140:=aa;have Cg:Hid (fi Bz m=[0,1,1,0]++dn (bu (aq m 1)) 2++dn (bu (aq m 2)) 2++fU m 4):=by rw[Hid,HM.out];simp
   obtain⟨L0,C⟩:∃z,[0,1,1,0]++dn (bu (aq m 1)) 2++dn (bu (aq m 2)) 2=z:=⟨_,rfl⟩;have O9:ay 164 2 w9 (w.heap.size+1) v9 (2+dN (bu (aq m 1))+dN (bu (aq m 2))) L0:=by rw[<-C];exact O8
   rw[C] at Cg;clear C O8;go_wp2;have HO:=af O9;have PB:=af k8;clear O9 k8;exact Tw
  ·have HM:Hid (fi Bz m=[0,1,1,1]++kn (sub m 3 4)++fU m 4):=by exact Mn
   rw[h] at c0;have i:=d [0,1,1,1];go_enter Gz.gf func93,ntmps93;go_wp2_with(at_builtin;go_loud (refine gi rfl rfl (Gz.gu underlying128) ie rfl al al rfl (p.alloc _) ⟨_,0,ns⟩ [0,1,1,1] 2 rfl rfl ?_ ?_ ?_ ?_;omega;(simp only[OF];omega);exact i;intro I w3 H J;have x:Q w1 w3:=bD.toQ J (by rw[f.out];exact D.alloc _) (λg y=>by have:=(p.alloc (ac (arr [0,1,1,1]) 164)).below g y;omega);have A:=b0.q x;have c1:=A.at 1 aa;have c2:=A.at 2 aa;have c0:=A.at 0 aa;rw[v,h] at c0));obtain⟨L1,b⟩:∃z:List Int,[0,1,1,1]=z:=⟨_,rfl⟩;have O4:ay 164 2 w3 (w.heap.size+1) I 2 L1:=by rw[<-b];exact H
   rw[b] at HM;clear b H;have UV:2<=2:=av _;have HO:=af O4;have PB:=af x;clear O4 x;exact Tx
 |true=>
  have h:=hi rfl
  have HM:Hid (fi AT m=[]++kn (sub m 3 4)++fU m 4):=by unfold Hid fi;rw[if_neg (by intro k;cases k.1)];unfold m8 preB;rw[h];rfl
  rw[h] at c0;rw[f.out] at p;have k0:=D;go_enter Gz.gf func93,ntmps93;go_wp2;rw[f.out];have UV:0<=2:=aa;obtain⟨L1,b⟩:∃z:List Int,[]=z:=⟨_,rfl⟩;rw[b] at HM p;clear b;have HO:=af p;have PB:=af k0;clear p k0;exact Tx
end
section
open Go.RowKit Go.WideShapes Go.ChangeShapes
structure bN(xs:List Int):Prop where
 even:∃n,xs.length=n*2
 ok:iq xs=AT
def bN.nil:bN []:=⟨⟨0,rfl⟩,rfl⟩
def Qf:∀(n:Nat)(xs ys:List Int),xs.length=n*2->iq (xs++ys)=(iq xs&&iq ys)
 |0,[],ys,_=>by rw[List.nil_append,show iq ([]:List Int)=AT from rfl,Bool.true_and]
 |n+1,c::b::r,ys,h=>by have:=Qf n r ys (by simp at h;omega);rw[akf,akf,iq,this,iq,Bool.and_assoc,Bool.and_assoc,Bool.and_assoc]
 |n+1,[],_,h=>by simp at h
 |n+1,[_],_,h=>by simp at h;omega
def bN.app(h:bN xs)(k:bN ys):bN (xs++ys):=by obtain⟨n,b⟩:=h.even;obtain⟨m,hm⟩:=k.even;exact⟨⟨n+m,by rw[ajq];omega⟩,by rw[Qf n _ _ b,h.ok,k.ok];rfl⟩
def bN.pair{c b:Int}(h0:0<=c)(h1:c<=39)(d:b=0\/b=1):bN [c,b]:=⟨⟨1,rfl⟩,by unfold iq;simp[h0,h1,d,iq]⟩
def bN.flat{α:Type}{f:α->List Int}:∀{l:List α},(∀x∈l,bN (f x))->bN (l.flatMap f)
 |[],_=>bN.nil
 |x::r,h=>by rw[List.flatMap_cons];exact(h x aj).app (bN.flat λy b=>h y (by simp[b]))
def bN.num{n b:Int}(h0:0<=b)(h1:b<=33):bN (dn n b):=by
 refine(bN.flat λj _=>?_).app (bN.flat λj _=>?_)
 ·refine bN.pair aa aa ?_;split
  ·omega
  ·omega
 ·refine bN.pair aa aa ?_;omega
def bN.runs(b:List (Int×Int)):bN (iU b):=bN.flat λr _=>(bN.num aa aa).app (bN.num aa aa)
def bN.blk(xs:List Int):bN (my xs):=(bN.num aa aa).app (bN.runs _)
def bN.lvl(m:List Int)(k:Nat):bN (fU m k):=bN.flat λj _=>bN.blk _
def bN.pre(m:List Int):bN (preB m):=by
 unfold preB;split
 ·exact(bN.num aa aa).app (bN.num aa aa)
 ·exact bN.flat λj _=>bN.num aa aa
def bN.aO(h:MV m)(hi:ap=AT->aq m 0=2):bN (fi ap m):=by
 unfold fi;split
 ·exact bN.pair aa aa (.inl rfl)
 ·rename_i d;refine(bN.app ?_ (bN.pre m)).app (bN.lvl m 4);cases ap with
  |true=>exact bN.nil
  |false=>have h0:aq m 0≠0:=λe=>d ⟨rfl,e⟩;have:=h.kind;exact(bN.pair aa aa (.inr rfl)).app (bN.pair (c:=1) (b:=aq m 0-1) aa aa aa)
def EY:∀(ys:List Int)(z:Int),(iH ys z).length<=ys.length
 |[],_=>av _
 |x::r,z=>by
  unfold iH;split
  ·have:=EY r (z+1);rw[ajE];omega
  ·have:=EY r 0;rw[ajE,ajE];omega
def Af{α:Type}{f:α->List Int}(M:Nat):∀{l:List α},(∀x∈l,(f x).length<=M)->(l.flatMap f).length<=l.length*M
 |[],_=>by simp
 |x::r,h=>by have h1:=h x aj;have d:=Af M (l:=r) λy b=>h y (by simp[b]);rw[List.flatMap_cons,ajq,ajE,Nat.succ_mul];omega
def ab2(b:xs.length=16)(d:aS xs 4080=AT):(my xs).length<=2048:=by
 have u:(dy xs).length<=16:=by have:=EY (ma xs) 0;unfold ma at this;rw[ako] at this;exact aI this al
 unfold my;rw[ajq,kX]
 have h1:(iU (dy xs)).length<=(dy xs).length*124:=Af 124 λr e=>by obtain⟨f,v,i,j,p⟩:=Fx b d r e;obtain⟨q,x⟩:=Gq i j p;rw[ajq,kX,kX];have:=ig (n:=r.1) f aa;have:=ig (n:=bu r.2-1) q aa;omega
 have:=ig (n:=((dy xs).length:Int)) aa aa;omega
def ab3(h:MV m):(fi ap m).length<=10000:=by
 unfold fi;split
 ·simp
 ·have h1:(fU m 4).length<=4*2048:=by
   have:=Af (f:=λj=>my (Go.Proofs.Q0.lvl m j)) 2048 (l:=List.range 4) λj e=>by obtain⟨b,p⟩:=h.lvl j (fR.1 e);exact ab2 p b
   exact this
  have y:(preB m).length<=248:=by
   unfold preB;split
   ·obtain⟨q,z⟩:=td h.vx.1 h.vx.2;obtain⟨u,A⟩:=td h.vy.1 h.vy.2;rw[ajq,kX,kX];have:=ig (n:=bu (aq m 1)) q aa;have:=ig (n:=bu (aq m 2)) u aa;omega
   ·have d:(sub m 3 4).length=4:=bS (by rw[h.len];omega)
    have:=Af (f:=λx=>dn x 9) 62 (l:=sub m 3 4) λx v=>by
     obtain⟨i,hi,rfl⟩:=List.getElem_of_mem v;have b:(sub m 3 4)[i]=(sub m 3 4)[i]?.getD 0:=by simp[hi]
     rw[d] at hi;have:=h.tD i hi;rw[b,gq _ _ _ _ hi];unfold aq at this;rw[kX];have:=ig (n:=m[3+i]?.getD 0) this.1 aa;omega
    rw[d] at this;exact this
  have C:(m8 ap m).length<=4:=by unfold m8;split<;>simp
  rw[ajq,ajq];omega
def afh(b:m.length=71)(h:dS ap m=AT):MV m/\(ap=AT->aq m 0=2):=by unfold dS at h;simp only[aft,Bool.or_eq_true,Bool.not_eq_true',beq_iff_eq] at h;exact⟨AQ b h.1,λhi=>h.2.resolve_left (by rw[hi];decide)⟩
def wm(b:xs.length=n*71)(d:k<n):(aO xs k).length=71:=bS (by rw[b];omega)
def vP(ap:Bool)(xs:List Int)(k:Nat):jV ap xs (k+1)=jV ap xs k++fi ap (aO xs k):=by unfold jV;rw[akq,alD];exact Dw
def EZ(ap:Bool)(xs:List Int)(k:Nat):gx ap xs (k+1)=(gx ap xs k&&dS ap (aO xs k)):=by unfold gx;rw[akq,List.all_append];simp
def F2(h:gx ap xs n=AT)(b:k<n):dS ap (aO xs k)=AT:=hU.1 h k (fR.2 b)
def Rk(b:k<n)(h:dS ap (aO xs k)=Bz):gx ap xs n=Bz:=by cases d:gx ap xs n with|false=>rfl|true=>rw[F2 d b] at h;cases h
def wF{ap:Bool}{xs:List Int}{n:Nat}(b:xs.length=n*71)(h:gx ap xs n=AT):∀k,k<=n->bN (jV ap xs k)/\(jV ap xs k).length<=k*10000
 |0,_=>⟨bN.nil,by simp[jV]⟩
 |k+1,f=>by obtain⟨h1,i⟩:=wF b h k aa;obtain⟨d,e⟩:=afh (wm b (show k<n by omega)) (F2 h (show k<n by omega));have j:=ab3 (ap:=ap) d;rw[vP];exact⟨h1.app (bN.aO d e),by rw[ajq];omega⟩
def Fy(b:xs.length=n*71)(h1:1<=n)(d:n<=4):eI ap xs n=if gx ap xs n=AT then an (mA (jV ap xs n)) else ns:=by
 unfold eI;cases h:gx ap xs n with
 |false=>simp
 |true=>
  obtain⟨e,f⟩:=wF b h n (av _)
  have:GS (jV ap xs n) ((jV ap xs n).length/2)=AT:=by unfold GS;rw[e.ok];simp;omega
  rw[this];simp[h1,d]
def sV:∀(n:Nat)(xs:List Int),xs.length=n*2->iq xs=AT->∀k,k<n->0<=xs[k*2]?.getD 0/\xs[k*2]?.getD 0<=39/\(xs[k*2+1]?.getD 0=0\/xs[k*2+1]?.getD 0=1)
 |0,_,_,_,k,d=>absurd d aa
 |n+1,c::b::r,e,h,k,d=>by
  unfold iq at h;simp only[aft,decide_eq_true_eq] at h;cases k with
  |zero=>exact⟨h.1.1.1,h.1.1.2,h.1.2⟩
  |succ k=>have:=sV n r (by simp at e;omega) h.2 k aa;rw[show(k+1)*2=k*2+1+1 by omega];exact this
 |n+1,[],h,_,_,_=>by simp at h
 |n+1,[_],h,_,_,_=>by simp at h;omega
def O5:∀(n:Nat)(xs:List Int)(e:aY)(c b:Int),xs.length=n*2->oj (xs++[c,b]) e=iI (oj xs e) c.toNat b
 |0,[],e,c,b,_=>rfl
 |n+1,d::f::r,e,c,b,h=>by rw[akf,akf,oj,oj];exact O5 n r _ c b (by simp at h;omega)
 |n+1,[],_,_,_,h=>by simp at h
 |n+1,[_],_,_,_,h=>by simp at h;omega
end
section
open Go.RowKit Go.WideShapes Go.ChangeShapes
section
variable{t:TO}{s n B g c:Nat}{w:AS}{xs:List Int}
theorem ay.range(h:ay t s w B (Y (an ⟨g,0,ns⟩) n c) n xs)(o k:Nat)(b:o+k<=n*s):w.rangeAt g o ((sub xs o k).map (Value.int .i64)):=λj v hv=>by
 have d:=h.1
 have hj:j<k:=by have:=(ia.1 hv).1;rw[ako,bS aa] at this;exact this
 have:=h.cell (o+j) aa;exact Ks
variable{P:Program}{ops:Array akG}{rest:List akG}{o:akG}{a:Act}{Q':Exit->Act->AS->Prop}
def Dx(b:o.guard=ns){ty:TO}{x:Operand}(e:o.op=.load ty x){g:Nat}(off:Nat)(f:a.eval x=bi (an ⟨g,off,ns⟩)){xs:List Int}(h:ay t s w B (Y (an ⟨g,0,ns⟩) n c) n xs)(i:off+k<=n*s){d:TypeDesc}
  (hu:P.underlying ty=an d)(hd:d.isRow=AT)(hi:(P.info? ty).map (·.size)=an k)
  (hK:ajU P ops Q' rest (a.put o.dst (a9 (arr (sub xs off k)))) w):ajU P ops Q' (o::rest) a w:=
 wpList_load_mid b ty x e g off f _ d (h.range off k i) hu hd (by rw[ako,bS (by have:=h.1;omega)];exact hi) hK
def lW(xs:List Int)(o:Nat)(h:o+2<=xs.length):sub xs o 2=[xs[o]?.getD 0,xs[o+1]?.getD 0]:=by
 refine nJ (by rw[bS h];rfl) λi hi=>?_;rw[bS h] at hi;rw[gq _ _ _ _ hi];rcases i with _|_|i
 ·rfl
 ·rfl
 ·omega
end
def zN:(Gz.prog.info? 164).map (·.size)=an 2:=aE
theorem aaE(e:aY)(c:Nat)(b:Int):(iI e c b).out.length<=e.out.length+2:=by
 have hm:(iL e c b).out=e.out:=by unfold iL;split<;>rfl
 have d:∀f:aY,(mb f).out.length=f.out.length+1:=λf=>qd f;unfold iI jW;split
 ·grind
 ·simp_all
structure RE(xs:List Int)(k:Nat)(e:aY):Prop where
 run:e=oj (xs.take (k*2)) ju
 ok:cP e
 span:16777216<=e.span
 len:e.out.length<=k*2
def RE.zero(xs:List Int):RE xs 0 ju:=⟨by simp[oj],Rj.1,Rj.2,by simp[ju]⟩
def ab4(h:k*2+2<=xs.length):xs.take ((k+1)*2)=xs.take (k*2)++[xs[k*2]?.getD 0,xs[k*2+1]?.getD 0]:=by have e:=List.take_add (l:=xs) (i:=k*2) (j:=2);rw[show(k+1)*2=k*2+2 by omega,e];congr 1;exact lW xs (k*2) h
def RE.succ{e:aY}(h:RE xs k e)(f:xs.length=n*2)(i:k<n)(h1:0<=xs[k*2]?.getD 0)(j:xs[k*2]?.getD 0<=39):
  RE xs (k+1) (iI e (xs[k*2]?.getD 0).toNat (xs[k*2+1]?.getD 0)):=by
 obtain⟨b,d⟩:=h.ok.step h.span (xs[k*2]?.getD 0).toNat (xs[k*2+1]?.getD 0) aa;refine⟨?_,b,d,?_⟩
 ·rw[ab4 aa,O5 k _ _ _ _ (by rw[List.length_take];omega),<-h.run]
 ·have:=aaE e (xs[k*2]?.getD 0).toNat (xs[k*2+1]?.getD 0);have:=h.len;omega
def RE.full{e:aY}(h:RE xs n e)(b:xs.length=n*2):e=oj xs ju:=by rw[h.run,ake aa]
def nd:Nat->aY->aY
 |0,e=>e
 |k+1,e=>bV (nd k e)
def AU:∀(j:Nat){e:aY},cP e->cP (nd j e)
 |0,_,h=>h
 |j+1,_,h=>(AU j h).bV
def Ag:∀(j:Nat)(e:aY),(nd j e).out.length=e.out.length+j
 |0,_=>rfl
 |j+1,e=>by rw[nd,qd,Ag j e];omega
def Zu:(Gz.prog.info? 5).map (λi=>(i.zero,i.size,i.bytes))=an (an (.int .u8 0),1,1):=aE
theorem W6{v:Value}{ops:Array akG}{rest:List akG}{o:akG}{a:Act}{Q':Exit->Act->AS->Prop}(d:o.guard=ns){x y:Operand}{st:TO}(i:o.op=.call {callee:=.builtin .append,args:=#[x,y],argTypes:=#[st,st]})
  (hu:Gz.prog.underlying st=an (.slice 5))(p:a.eval x=v)(b:aK w B v n xs)(ad:Addr)(ys:List Int){m c:Nat}(q:a.eval y=Y (an ad) m c)(u:ys.length=m)
  (A:n+m<=1000000000)(e:B<=w.heap.size)(hc:∀j,j<ys.length->w.cell? (ad.add j)=an (.int .u8 (ys[j]?.getD 0)))
  (h:∀v' w',aK w' B v' (n+m) (xs++ys)->w.grownBy w' v.ownBlock->ajU Gz.prog ops Q' rest (a.put o.dst v') w'):ajU Gz.prog ops Q' (o::rest) a w:=by
 obtain⟨i0,hi,f,hz1,hz2⟩:=info_parts Zu;refine wpList_append_own _ d x y st i B 5 i0 _ 1 1 hu hi f hz1 hz2 rfl al v n _ p b.2 ad m c (ys.map (Value.int .u8)) q (by rw[ako];omega) ?_ ?_ ?_ ?_ e ?_
 ·grind
 ·exact Du
 ·unfold maxLen;omega
 ·omega
 ·intro v' w' h1 z _;exact h v' w' ⟨by rw[ajq,b.1,u],by simpa using h1⟩ z
end
end Go.Proofs.Q0
