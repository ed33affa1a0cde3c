import Derived.Test.YtjjdeakghpmpfaaGreatDoorK6
set_option maxRecDepth 100000
set_option maxHeartbeats 8000000
set_option linter.all false
open Go.Value renaming int->U,slice->Y,bool->a9,agg->a5,pointer->ci,tuple->dl,iface->em
open Go.IntKind renaming i64->O
open Go.Obj renaming cells->ac
open Go.Ending renaming returned->be
open Bool renaming and_eq_true->OF,and_false->akt
open Go.World renaming size_alloc->BE
open List renaming all_cons->akM,append_assoc->aiK,cons_append->ajn,flatMap_append->akN,getElem?_set_ne->akJ,length_append->aiw,length_cons->aiS,length_map->ajA,mem_cons_of_mem->akK,range_succ->aju,replicate->an,take_of_length_le->aks
namespace Go.Proofs
abbrev mI:=@List.mem_cons_self
abbrev kT:=@List.mem_cons
abbrev pf:=@akK
def CY{p:Prop}(h:p:=by simp only[List.flatMap_cons,List.flatMap_nil,List.append_nil]):p:=h
abbrev nP:=@Classical.byContradiction
def Ce{p:Prop}(h:p:=by rw[bP (by omega)];exact hk):p:=h
def yg{p:Prop}(h:p:=by rw[World.size_alloc,World.size_alloc] at this;exact this):p:=h
def LQ{p:Prop}(h:p:=by unfold Hid eU;rw[if_neg (by rw[h];intro k;cases k.2)];unfold ml preB;rw[h];rfl):p:=h
end Go.Proofs
namespace Go.Proofs.Q0
open Go.Proofs.Tryz
variable{xs h l m r ys:List Int}{k n s:Nat}{ap:Bool}{t:TypeId}
def jQ:Nat->ay->Option (List (Int×Int)×ay)
 |0,d=>some ([],d)
 |k+1,d=>
  match(aQ 23 d).1,(aQ 30 (aQ 23 d).2).1 with
  |some z,some l=>
   if 8159<l then none else
   match jQ k (aQ 30 (aQ 23 d).2).2 with
   |some (r,a)=>some ((z,aW (l+1))::r,a)
   |none=>none
  |_,_=>none
def gg(d:ay):Option (List Int×ay):=
 match(aQ 16 d).1 with
 |some m=>
  if 16<m then none else
  match jQ m.toNat (aQ 16 d).2 with
  |some (r,a)=>(fZ r).map λb=>(b,a)
  |none=>none
 |none=>none
def lq:Nat->ay->Option (List Int×ay)
 |0,d=>some ([],d)
 |k+1,d=>
  match gg d with
  |some (b,d1)=>
   match lq k d1 with
   |some (r,d2)=>some (b++r,d2)
   |none=>none
  |none=>none
def ko:Nat->ay->Option (List Int×ay)
 |0,d=>some ([],d)
 |k+1,d=>
  match(aQ 9 d).1 with
  |some m=>
   if 4<m then none else
   match ko k (aQ 9 d).2 with
   |some (r,d2)=>some (m::r,d2)
   |none=>none
  |none=>none
def qh(d:ay):Option (List Int×ay):=
 match(aQ 2 d).1,(aQ 2 (aQ 2 d).2).1 with
 |some x,some y=>if 32<x\/32<y then none else some ([1,aW x,aW y,0,0,0,0],(aQ 2 (aQ 2 d).2).2)
 |_,_=>none
def mo(d:ay):Option (List Int×ay):=(ko 4 d).map λr=>([2,0,0]++r.1,r.2)
def lu(ap:Bool)(d:ay):Option (List Int×ay):=
 if(lj ap (d,0)).1=1 then qh (lj ap (d,0)).2.1 else mo (lj ap (d,0)).2.1
def gi(ap:Bool)(d:ay):Option (List Int×ay):=
 if ap=false/\cP d 0=0 then some (dZ,bJ d 0)
 else match lu ap (iw ap (d,0)).1 with
  |some (h,d1)=>(lq 4 d1).map λr=>(h++r.1,r.2)
  |none=>none
def jm(ap:Bool):Nat->ay->Option (List Int)
 |0,_=>some []
 |k+1,d=>
  match gi ap d with
  |some (m,d1)=>(jm ap k d1).map λr=>m++r
  |none=>none
def iR(data:List Int)(n:Int)(ap:Bool):Option (List Int):=
 if 1<=n/\n<=4 then
  match jm ap n.toNat (eu data) with
  |none=>none
  |some xs=>if(ew ap xs n.toNat).getD []=data.map j3 then some xs else none
 else none
def rY(b:Nat){s:bA}(h:s.2≠0):(bk b s).2.2≠0:=by
 unfold bk;split
 ·simp
 ·exact h
def uN:∀(k:Nat){s:bA},s.2≠0->(eJ k s).2.2≠0
 |0,_,h=>h
 |k+1,_,h=>uN k (rY 30 (rY 23 h))
def XW{s:bA}(h:s.2≠0):(hO s).2.2≠0:=by
 have:=uN (min (bk 16 s).1 17).toNat (rY 16 h);unfold hO;dsimp only;split
 ·omega
 ·simp_all
def Ed:∀(k:Nat){s:bA},s.2≠0->(eS k s).2.2≠0
 |0,_,h=>h
 |k+1,_,h=>Ed k (XW h)
def NG:∀(k:Nat){s:bA},s.2≠0->(gN k s).2.2≠0
 |0,_,h=>h
 |k+1,_,h=>NG k (rY 9 h)
def rF{b:Nat}{d:ay}{n:Int}(h:(aQ b d).1=some n)(e:Nat):bk b (d,e)=(n,((aQ b d).2,e)):=by
 unfold bk;split<;>rename_i x y<;>rw[y] at h<;>cases h
 rw[y]
def rG{b:Nat}{d:ay}(h:(aQ b d).1=none)(e:Nat):(bk b (d,e)).2.2≠0:=by
 unfold bk;split
 ·simp
 ·simp_all
def ZS{l:Int}(h:0<=l)(k:l<=8159): -4080<=aW (l+1)/\aW (l+1)<=4080:=by
 unfold aW;split
 ·omega
 ·omega
def acY{l:Int}(h:8159<l)(k:l<=65534):aW (l+1)=0\/¬(-4080<=aW (l+1)/\aW (l+1)<=4080):=by
 unfold aW;split
 ·omega
 ·omega
def Ow:∀(k:Nat)(d:ay),
  (∃r c,jQ k d=some (r,c)/\eJ k (d,0)=(r,(c,0))/\∀p∈r,-4080<=p.2/\p.2<=4080)\/
  (jQ k d=none/\((eJ k (d,0)).2.2≠0\/∃p∈(eJ k (d,0)).1,p.2=0\/¬(-4080<=p.2/\p.2<=4080)))
 |0,d=>.inl ⟨[],d,rfl,rfl,λ_ h=>by simp at h⟩
 |k+1,d=>by
  rw[jQ,eJ];dsimp only;cases g:(aQ 23 d).1 with
  |none=>exact .inr ⟨rfl,.inl (uN k (rY 30 (rG g 0)))⟩
  |some z=>
   rw[rF g 0];dsimp only;generalize i:(aQ 23 d).2=d1;cases e:(aQ 30 d1).1 with
   |none=>exact .inr ⟨rfl,.inl (uN k (rG e 0))⟩
   |some l=>
    rw[rF e 0];have a:=jK e;dsimp only;generalize(aQ 30 d1).2=d2;by_cases f:8159<l
    ·rw[if_pos f];exact .inr ⟨rfl,.inr ⟨_,mI ..,acY f a.2⟩⟩
    ·rw[if_neg f];rcases Ow k d2 with⟨r,c,h1,b,j⟩|⟨h1,b⟩
     ·rw[h1,b];refine .inl ⟨_,_,rfl,rfl,?_⟩;intro p hp;rcases kT.1 hp with rfl|hp
      ·exact ZS a.1 aa
      ·exact j p hp
     ·rw[h1];refine .inr ⟨rfl,?_⟩;rcases b with b|⟨p,hp,b⟩
      ·exact .inl b
      ·exact .inr ⟨p,pf _ hp,b⟩
def acZ:∀i,i<16->∀j,j<16->gF[i]?.getD 0=gF[j]?.getD 0->i=j:=aq
def NH:∀(d:List (Int×Int))(b:List Int)(p:Nat){c:List Int},b.length=16->fC d b p=some c->∀j,j<p->j<16->c[gF[j]?.getD 0]?.getD 0=b[gF[j]?.getD 0]?.getD 0
 |[],b,p,c,_,h,_,_,_=>by simp[fC] at h;rw[h]
 |(z,l)::r,b,p,c,f,h,j,g,a=>by
  rw[fC] at h;split at h
  ·cases h
  ·rename_i i;rw[NH r _ _ (by simp[f]) h j aa a];rw[akJ];intro e;have:=acZ (p+z.toNat) aa j a e;omega
def PG:∀(a:List (Int×Int))(b:List Int)(p:Nat){c:List Int},b.length=16->fC a b p=some c->∀q∈a,q.2≠0/\∃j,j<16/\c[j]?.getD 0=q.2
 |[],b,p,c,_,h,q,hq=>by simp at hq
 |(z,l)::r,b,p,c,d,h,q,hq=>by
  rw[fC] at h;split at h
  ·cases h
  ·rename_i f;rcases kT.1 hq with rfl|hq
   ·refine⟨λe=>f (.inl e),gF[p+z.toNat]?.getD 0,sC _ aa,?_⟩;rw[NH r _ _ (by simp[d]) h (p+z.toNat) aa aa];have:=sC (p+z.toNat) aa;rw[List.getElem?_set_self aa];rfl
   ·exact PG r _ _ (by simp[d]) h q hq
def QE(M:Int):∀(f:List (Int×Int))(b:List Int)(p:Nat){c:List Int},fC f b p=some c->aS b M=true->(∀q∈f,-M<=q.2/\q.2<=M)->aS c M=true
 |[],b,p,c,h,a,_=>by simp[fC] at h;rw[<-h];exact a
 |(z,l)::r,b,p,c,h,a,hq=>by
  rw[fC] at h;split at h
  ·cases h
  ·refine QE M r _ _ h ?_ λq d=>hq q (pf _ d);refine gY.2 λx e=>?_;rcases List.mem_or_eq_of_mem_set e with e|rfl
   ·exact gY.1 a x e
   ·exact decide_eq_true (hq (z,x) (mI ..))
def aev{M:Int}(j:Nat)(a:j<xs.length)(h:¬(-M<=xs[j]?.getD 0/\xs[j]?.getD 0<=M)):aS xs M=false:=by
 cases e:aS xs M with
 |false=>rfl
 |true=>have:=gY.1 e (xs[j]?.getD 0) (by rw[List.getElem?_eq_getElem a];exact rk a);exact absurd (of_decide_eq_true this) h
def XX(d:ay):
  (∃b e,gg d=some (b,e)/\hO (d,0)=(b,(e,0))/\aS b 4080=true)\/
  (gg d=none/\((hO (d,0)).2.2≠0\/aS (hO (d,0)).1 4080=false)):=by
 unfold gg;cases hm:(aQ 16 d).1 with
 |none=>
  refine .inr ⟨rfl,.inl ?_⟩;have:=uN (min (bk 16 (d,0)).1 17).toNat (rG hm 0);unfold hO;dsimp only;generalize eJ (min (bk 16 (d,0)).1 17).toNat (bk 16 (d,0)).2=r at this⊢;split
  ·exact this
  ·show(if r.2.2=0 then 2 else r.2.2)≠0;rw[if_neg this];exact this
 |some m=>
  unfold hO;rw[rF hm 0];dsimp only;generalize(aQ 16 d).2=d1;by_cases c:16<m
  ·rw[if_pos c];refine .inr ⟨rfl,.inl ?_⟩;rw[show(min m 17).toNat=17 by omega];have g:=Oq 17 (d1,0);generalize eJ 17 (d1,0)=r at g⊢;have i:fZ r.1=none:=Oo _ _ _ aa aa;rw[i];show(if r.2.2=0 then 2 else r.2.2)≠0;split
   ·decide
   ·assumption
  ·rw[if_neg c,show(min m 17).toNat=m.toNat by omega];rcases Ow m.toNat d1 with⟨r,e,h1,a,o⟩|⟨h1,a⟩
   ·rw[h1,a];dsimp only;cases f:fZ r with|none=>simp|some b=>exact .inl ⟨b,e,rfl,rfl,QE 4080 r _ _ f aq o⟩
   ·rw[h1];refine .inr ⟨rfl,?_⟩;generalize eJ m.toNat (d1,0)=r at a⊢;cases f:fZ r.1 with
    |none=>grind
    |some b=>
     rcases a with a|⟨p,q,a⟩
     ·exact .inl a
     ·right
      obtain⟨u,j,v,w⟩:=PG r.1 _ _ aD f p q;refine aev j (by rw[yM f];exact v) ?_;rw[w];rcases a with a|a
      ·exact absurd a u
      ·exact a
def mW(xs ys:List Int)(M:Int):aS (xs++ys) M=(aS xs M&&aS ys M):=by simp[aS]
def Ox:∀(k:Nat)(d:ay),
  (∃b e,lq k d=some (b,e)/\eS k (d,0)=(b,(e,0))/\aS b 4080=true)\/
  (lq k d=none/\((eS k (d,0)).2.2≠0\/aS (eS k (d,0)).1 4080=false))
 |0,d=>.inl ⟨[],d,rfl,rfl,rfl⟩
 |k+1,d=>by
  rw[lq,eS];dsimp only;rcases XX d with⟨b,e,h1,a,g⟩|⟨h1,a⟩
  ·rw[h1,a];dsimp only;rcases Ox k e with⟨r,d2,f,c,i⟩|⟨f,c⟩
   ·rw[f,c];exact .inl ⟨_,_,rfl,rfl,by rw[mW,g,i];rfl⟩
   ·rw[f];refine .inr ⟨rfl,?_⟩;rcases c with c|c
    ·exact .inl c
    ·exact .inr (by rw[mW,c,akt])
  ·rw[h1];refine .inr ⟨rfl,?_⟩;rcases a with a|a
   ·exact .inl (Ed k a)
   ·exact .inr (by rw[mW,a,Bool.false_and])
def NI:∀(k:Nat)(d:ay),
  (∃b e,ko k d=some (b,e)/\gN k (d,0)=(b,(e,0))/\(b.all λx=>decide (0<=x/\x<=4))=true)\/
  (ko k d=none/\((gN k (d,0)).2.2≠0\/((gN k (d,0)).1.all λx=>decide (0<=x/\x<=4))=false))
 |0,d=>.inl ⟨[],d,rfl,rfl,rfl⟩
 |k+1,d=>by
  rw[ko,gN];dsimp only;cases hm:(aQ 9 d).1 with
  |none=>exact .inr ⟨rfl,.inl (NG k (rG hm 0))⟩
  |some m=>
   rw[rF hm 0];have g:=jK hm;dsimp only;generalize(aQ 9 d).2=d1;by_cases f:4<m
   ·rw[if_pos f];refine .inr ⟨rfl,.inr ?_⟩;rw[akM,decide_eq_false aa,Bool.false_and]
   ·rw[if_neg f];rcases NI k d1 with⟨r,d2,c,a,i⟩|⟨c,a⟩
    ·rw[c,a];exact .inl ⟨_,_,rfl,rfl,by rw[akM,i,decide_eq_true aa];rfl⟩
    ·rw[c];refine .inr ⟨rfl,?_⟩;rcases a with a|a
     ·exact .inl a
     ·exact .inr (by rw[akM,a,akt])
def QF{x:Int}(h:0<=x)(k:x<=65534):(-16<=aW x/\aW x<=16)<->x<=32:=by
 unfold aW;split
 ·omega
 ·omega
def zT(a:k<h.length):al (h++l) k=al h k:=by unfold al;rw[List.getElem?_append_left a]
def ac0{o:Nat}(a:o+k<=h.length):sub (h++l) o k=sub h o k:=by unfold sub;rw[List.drop_append_of_le_length aa,List.take_append_of_le_length aA]
def Oy(o:Nat)(e:o=h.length)(a:k=l.length):sub (h++l) o k=l:=by unfold sub;subst e;subst a;simp
def kO(h:List Int):Bool:=jP h&&kD h
def ZT(b:h.length=7)(a:al h 0≠0):jP (h++l)=jP h:=by have e:∀k,k<7->al (h++l) k=al h k:=λk a=>zT aa;unfold jP js kC lI;rw[e 0 aq,e 1 aq,e 2 aq,e 3 aq,e 4 aq,e 5 aq,e 6 aq,ac0 aa,if_neg a,if_neg a]
def abl(b:h.length=7)(a:l.length=64)(c:al h 0≠0):df (h++l)=(kO h&&aS l 4080):=by have e:∀k,k<7->al (h++l) k=al h k:=λk c=>zT aa;unfold df kO;rw[ZT b c,Oy 7 b.symm a.symm];unfold kD;rw[e 1 aq,e 2 aq]
def ac1(x y:Int):kO [1,x,y,0,0,0,0]=(decide (-16<=x/\x<=16)&&decide (-16<=y/\y<=16)):=rfl
def QG{a:List Int}(h:a.length=4):kO ([2,0,0]++a)=a.all λx=>decide (0<=x/\x<=4):=by unfold kO jP;have b:al ([2,0,0]++a) 0=2:=rfl;have c:kC ([2,0,0]++a)=true:=rfl;have d:kD ([2,0,0]++a)=true:=rfl;have e:=Oy (h:=[2,0,0]) 3 rfl h.symm;rw[b,c,d,if_neg aq,if_neg aq,if_pos rfl];unfold lI;rw[e,Bool.and_true,Bool.and_true]
def abm{d:ay}:
  (∃h f,qh d=some (h,f)/\sU (d,0)=(h,(f,0))/\kO h=true)\/
  (qh d=none/\((sU (d,0)).2.2≠0\/kO (sU (d,0)).1=false)):=by
 unfold qh sU;cases c:(aQ 2 d).1 with
 |none=>exact .inr ⟨rfl,.inl (rY 2 (rG c 0))⟩
 |some x=>
  rw[rF c 0];have a:=jK c;dsimp only;generalize(aQ 2 d).2=d1;cases e:(aQ 2 d1).1 with
  |none=>exact .inr ⟨rfl,.inl (rG e 0)⟩
  |some y=>
   rw[rF e 0];have b:=jK e;have g:=ac1 (aW x) (aW y);have ex:=QF a.1 a.2;have i:=QF b.1 b.2;by_cases j:32<x\/32<y
   ·grind
   ·simp_all
def abn{d:ay}:
  (∃h e,mo d=some (h,e)/\mi (d,0)=(h,(e,0))/\kO h=true)\/
  (mo d=none/\((mi (d,0)).2.2≠0\/kO (mi (d,0)).1=false)):=by
 unfold mo mi;have b:=DT 4 (d,0);dsimp only;rcases NI 4 d with⟨r,d2,c,a,f⟩|⟨c,a⟩
 ·rw[c,a];rw[a] at b;exact .inl ⟨_,_,rfl,rfl,(QG b).trans f⟩
 ·rw[c];refine .inr ⟨rfl,?_⟩;rcases a with a|a
  ·omega
  ·exact .inr ((QG b).trans a)
def ac2(ap:Bool)(d:ay):(lj ap (d,0)).2=((lj ap (d,0)).2.1,0):=by unfold lj;split<;>rfl
def ac3(ap:Bool)(d:ay):iw ap (d,0)=((iw ap (d,0)).1,0):=by unfold iw;split<;>rfl
def Oz(ap:Bool)(d:ay):
  (∃h a,lu ap d=some (h,a)/\e8 ap (d,0)=(h,(a,0))/\kO h=true)\/
  (lu ap d=none/\((e8 ap (d,0)).2.2≠0\/kO (e8 ap (d,0)).1=false)):=by
 have e:=ac2 ap d;unfold lu e8;rw[e];split
 ·exact abm
 ·exact abn
def NJ(ap:Bool)(s:bA):al (e8 ap s).1 0≠0/\(ap=true->al (e8 ap s).1 0=2):=by
 unfold e8;split
 ·rename_i h;refine⟨by show(1:Int)≠0;decide,λe=>?_⟩;subst e;exact absurd h (by show¬(2:Int)=1;decide)
 ·exact⟨by show(2:Int)≠0;decide,λ_=>rfl⟩
def ZU:dN false dZ=true:=aC
def YJ(ap:Bool)(d:ay):
  (∃h b,gi ap d=some (h,b)/\dR ap (d,0)=(h,(b,0))/\dN ap h=true)\/
  (gi ap d=none/\((dR ap (d,0)).2.2≠0\/dN ap (dR ap (d,0)).1=false)):=by
 unfold gi dR;by_cases c:ap=false/\cP d 0=0
 ·rw[if_pos c,if_pos (show ap=false/\cP ((d,0):bA).1 0=0 from c)];refine .inl ⟨_,_,rfl,rfl,?_⟩;rw[c.1];exact ZU
 ·rw[if_neg c,if_neg (show¬(ap=false/\cP ((d,0):bA).1 0=0) from c)];have e:=ac3 ap d;rw[e];dsimp only;generalize(iw ap (d,0)).1=d0;have i:=D8 ap (d0,0);obtain⟨j,o⟩:=NJ ap (d0,0)
  have g:∀l:List Int,l.length=64->dN ap ((e8 ap (d0,0)).1++l)=(kO (e8 ap (d0,0)).1&&aS l 4080):=by intro l f;unfold dN;rw[abl i f j,zT aa];have:(!ap||al (e8 ap (d0,0)).1 0==2)=true:=eO;rw[this,Bool.and_true]
  rcases Oz ap d0 with⟨h,b,h1,a,u⟩|⟨h1,a⟩
  ·rw[h1];have f:=zd 4 (b,0);rcases Ox 4 b with⟨r,d2,p,q,v⟩|⟨p,q⟩
   ·simp_all
   ·simp_all
  ·rw[h1];refine .inr ⟨rfl,?_⟩;rcases a with a|a
   ·exact .inl (Ed 4 a)
   ·exact .inr (by rw[g _ (zd 4 _),a,Bool.false_and])
def abo(h:m.length=71):aO (m++r) 0=m:=by unfold aO sub;rw[Nat.mul_zero,List.drop_zero,List.take_append_of_le_length aa,aks aa]
def abp(h:m.length=71)(k:Nat):aO (m++r) (k+1)=aO r k:=by unfold aO sub;rw[show 71*(k+1)=m.length+71*k by omega,List.drop_append,List.drop_of_length_le aa];simp
def Ee(ap:Bool)(h:m.length=71)(n:Nat):fR ap (m++r) (n+1)=(dN ap m&&fR ap r n):=by unfold fR;rw[List.range_succ_eq_map,akM,List.all_map,abo h];congr 1;congr 1;funext k;exact congrArg _ (abp h k)
def NK(ap:Bool):∀(k:Nat)(d:ay),
  (∃xs,jm ap k d=some xs/\(eI ap k (d,0)).1=some xs/\fR ap xs k=true)\/
  (jm ap k d=none/\∀xs,(eI ap k (d,0)).1=some xs->fR ap xs k=false)
 |0,d=>.inl ⟨[],rfl,rfl,rfl⟩
 |k+1,d=>by
  rw[jm,eI];have c:=DU ap (d,0);rcases YJ ap d with⟨h,f,h1,g,o⟩|⟨h1,g⟩
  ·rw[h1];rw[g] at c⊢;dsimp only at c⊢;rw[if_neg aq];rcases NK ap k f with⟨r,i,b,p⟩|⟨i,b⟩
   ·rw[i];refine .inl ⟨_,rfl,?_,by rw[Ee ap c,o,p];rfl⟩;generalize eI ap k (f,0)=z at b;obtain⟨e,j⟩:=z;dsimp only at b;rw[b]
   ·rw[i];refine .inr ⟨rfl,λxs a=>?_⟩;generalize eI ap k (f,0)=z at b a;obtain⟨e,j⟩:=z;cases e with
    |none=>cases a
    |some r=>dsimp only at a b;injection a with a;rw[<-a,Ee ap c,b r rfl,akt]
  ·rw[h1];refine .inr ⟨rfl,λxs a=>?_⟩;by_cases he:(dR ap (d,0)).2.2≠0
   ·rw[if_pos he] at a;cases a
   ·rw[if_neg he] at a;have hm:dN ap (dR ap (d,0)).1=false:=g.resolve_left he;generalize eI ap k (dR ap (d,0)).2=z at a;obtain⟨e,j⟩:=z;cases e with
    |none=>cases a
    |some r=>dsimp only at a;injection a with a;rw[<-a,Ee ap c,hm,Bool.false_and]
def QH(h:fR ap xs n=false):ew ap xs n=none:=by unfold ew;rw[h,akt,if_neg aq]
structure dU(d:ay):Prop where
 ok:bQ d
 code:d.code=0
 rest:d.rest=[]
def QI{d:ay}(h:d.code=0)(k:d.rest=[]):(cR d).code=0/\(cR d).rest=[]:=by unfold cR;rw[h,k];exact⟨rfl,rfl⟩
def dU.bit{d:ay}(h:dU d)(c:Nat)(hc:c<40):cP d c=0:=by obtain⟨a,b⟩:=h.ok.ch c hc;have:=(kX h.ok.lo h.ok.hi a b).1;unfold cP;rw[h.code];unfold dS;omega
def dU.jx{d:ay}(h:dU d)(c:Nat)(hc:c<40):dU (bJ d c):=by
 have a:=h.ok.jx c hc;have b:=h.bit c hc;refine⟨a,?_,?_⟩<;>
 ·have hm:(dM d c).code=0/\(dM d c).rest=[]:=by
   unfold cP at b;unfold dM;split
   ·exact⟨h.code,h.rest⟩
   ·omega
  have h1:=QI hm.1 hm.2;have f1:(feed (dM d c)).code=0/\(feed (dM d c)).rest=[]:=h1;have e:=QI f1.1 f1.2;have f2:(feed (feed (dM d c))).code=0/\(feed (feed (dM d c))).rest=[]:=e;unfold bJ ji;split
  ·grind
  ·simp_all
def dU.num{d:ay}(h:dU d){b:Nat}(a:b+6<40):(aQ b d).1=some 0/\dU (aQ b d).2:=by
 have h1:gr b 16 0 d=(some 0,bJ d b):=by rw[gr,show b+min 0 5=b by omega,if_neg (by rw[h.bit b (by omega)];decide)]
 unfold aQ;rw[h1];exact⟨rfl,h.jx b aa⟩
def ac4:dU (eu []):=⟨EG [],rfl,rfl⟩
def dU.levels{d:ay}(h:dU d):∃a,gg d=some (an 16 0,a)/\dU a:=by obtain⟨h1,c⟩:=h.num (b:=16) aq;refine⟨_,?_,c⟩;unfold gg;rw[h1];rfl
def dU.Tz:∀(k:Nat){d:ay},dU d->∃a,lq k d=some (an (k*16) 0,a)/\dU a
 |0,d,h=>⟨d,rfl,h⟩
 |k+1,d,h=>by obtain⟨d1,h1,b⟩:=h.levels;obtain⟨d2,c,e⟩:=dU.Tz k b;refine⟨d2,?_,e⟩;rw[lq,h1];dsimp only;rw[c];dsimp only;rw[List.replicate_append_replicate,show 16+k*16=(k+1)*16 by omega]
def dU.sO:∀(k:Nat){d:ay},dU d->∃a,ko k d=some (an k 0,a)/\dU a
 |0,d,h=>⟨d,rfl,h⟩
 |k+1,d,h=>by obtain⟨h1,c⟩:=h.num (b:=9) aq;obtain⟨d2,e,f⟩:=dU.sO k c;refine⟨d2,?_,f⟩;rw[ko,h1];dsimp only;rw[if_neg aq,e];rfl
def SP(ap:Bool):List Int:=if ap then 2::an 70 0 else dZ
def dU.agA{d:ay}(ap:Bool)(h:dU d):∃a,gi ap d=some (SP ap,a)/\dU a:=by
 cases ap with
 |false=>refine⟨bJ d 0,?_,h.jx 0 aq⟩;unfold gi;rw[if_pos ⟨rfl,h.bit 0 aq⟩];rfl
 |true=>
  obtain⟨d1,h1,b⟩:=dU.sO 4 h;obtain⟨d2,c,f⟩:=dU.Tz 4 b;refine⟨d2,?_,f⟩
  have e:lu true (iw true (d,0)).1=some ([2,0,0,0,0,0,0],d1):=by have:lu true (iw true (d,0)).1=mo d:=rfl;rw[this];unfold mo;rw[h1];rfl
  unfold gi;rw[if_neg (λx=>by cases x.1),e];dsimp only;rw[c];rfl
def vt(ap:Bool):Nat->List Int
 |0=>[]
 |k+1=>SP ap++vt ap k
def dU.slice(ap:Bool):∀(k:Nat){d:ay},dU d->jm ap k d=some (vt ap k)
 |0,_,_=>rfl
 |k+1,d,h=>by obtain⟨d1,h1,a⟩:=h.agA ap;rw[jm,h1];dsimp only;rw[dU.slice ap k a];rfl
def YK:∀n,n<5->1<=n->(ew false (vt false n) n).isSome=true/\(ew true (vt true n) n).isSome=true:=by decide+kernel
def PI:∀xs:List Int,(jV xs).length=xs.length
 |[]=>rfl
 |x::r=>by
  rw[jV];split
  ·simp[PI r]
  ·rfl
def zU(xs:List Int):(fV xs).length=xs.length:=by simp[fV,PI]
def pA(e:aZ):(bT e).out.length=e.out.length+1:=by
 unfold bT;split
 ·simp[zU]
 ·simp
def ac5{a:List Int}:lJ a≠[]:=by intro h;have:=congrArg List.length h;unfold lJ at this;rw[pA] at this;simp at this
def ac6:ew ap xs n≠some []:=by
 unfold ew;split
 ·split
  ·intro h;injection h with h;exact ac5 h
  ·simp
 ·simp
def abq(data:List Int)(n:Int)(ap:Bool):iR data n ap=AK data n ap:=by
 unfold iR AK;split
 ·rename_i i;rcases NK ap n.toNat (eu data) with⟨xs,h1,a,j⟩|⟨h1,a⟩
  ·rw[h1,a];dsimp only;by_cases hd:data=[]
   ·subst hd;rw[dU.slice ap n.toNat ac4] at h1;injection h1 with h1;subst h1;obtain⟨c,d⟩:=YK n.toNat aa aa;have e:(ew ap (vt ap n.toNat) n.toNat).isSome=true:=by cases ap;exact c;exact d
    obtain⟨b,f⟩:=pe.1 e;rw[f];simp
   ·cases o:ew ap xs n.toNat with|none=>simp_all|some b=>simp
  ·rw[h1];cases g:(eI ap n.toNat (eu data,0)).1 with
   |none=>rfl
   |some xs=>dsimp only;rw[QH (a xs g),if_neg aj]
 ·rfl
section
open Go.RowKit Go.WideShapes Go.ChangeShapes
def az.src{g c B:Nat}{w:World}(h:az t s w B (Y (some ⟨g,0,none⟩) n c) n ys):∀j,j<ys.length->w.cell? ((⟨g,0,none⟩:Addr).add j)=some (U O (ys[j]?.getD 0)):=λj a=>by
 have:=h.cell j (by rw[<-h.1];exact a);by_cases h0:j=0
 ·subst h0;simpa[Addr.add] using this
 ·simpa[Addr.add,h0] using this
def az.fS{B:Nat}{w:World}{v:Value}(h:az t s w B v n ys)(a:0<n):∃g c,v=Y (some ⟨g,0,none⟩) n c:=by
 rcases h.dD with⟨_,h0⟩|⟨g,c,e,_⟩
 ·omega
 ·simp_all
def EO:∀(ys:List Int)(z:Int),0<=z->∀r∈ia ys z,r.2∈ys/\r.2≠0/\0<=r.1/\r.1<z+ys.length
 |[],_,_,r,h=>by simp[ia] at h
 |x::ys,z,c,r,h=>by
  rw[ia] at h;split at h
  ·obtain⟨h1,a,b,d⟩:=EO ys (z+1) aa r h;exact⟨pf _ h1,a,b,by simp;omega⟩
  ·rename_i e;rcases kT.1 h with rfl|h
   ·exact⟨mI ..,e,c,by simp;omega⟩
   ·obtain⟨h1,a,b,d⟩:=EO ys 0 aa r h;exact⟨pf _ h1,a,b,by simp;omega⟩
def EP(o:xs.length=16)(b:aS xs 4080=true):∀r∈dm xs,0<=r.1/\r.1<=15/\ -4080<=r.2/\r.2<=4080/\r.2≠0:=by intro r c;obtain⟨h1,d,f,g⟩:=EO _ 0 aa r c;rw[Ea] at g;obtain⟨i,hi,e⟩:=nS.1 h1;have j:∀i∈gF,i<16:=aq;have a:=j i hi;have:=mU b i aa;rw[e] at this;exact⟨f,aa,this.1,this.2,d⟩
def FM{v:Int}(h1: -4080<=v)(a:v<=4080)(h0:v≠0):0<=bu v-1/\bu v-1<=8159:=by unfold bu;split<;>omega
def YL{a:List (Int×Int)}(b:k<a.length):ix (a.take (k+1))=ix (a.take k)++(c7 a[k].1 23++c7 (bu a[k].2-1) 30):=by unfold ix;rw[List.take_succ_eq_append_getElem b,akN];exact CY
def gL{n:Int}(h0:0<=n)(h1:n<=65533):dI n<=31:=by unfold dI;have:(n+1).toNat.log2<16:=(Nat.log2_lt aa).2 aa;omega
def pB(n:Int):0<dI n:=by unfold dI;omega
def abr(w:World)(A:xs.length=16)(hb:aS xs 4080=true):
  Calls Gz.prog 120 #[a5 (arr xs)] w λe w'=>∃v' n,e=be v'/\n<=1100/\az 154 2 w' w.heap.size v' n (lH xs)/\Q w w':=by
 have s1:=bO xs;rw[A] at s1;have b0:=Nb.new 82 16 w xs A;have p:=Ec xs;have HR:=af (EP A hb);have v:=acX (w.alloc (ac (arr xs) 82)) A;go_enter Gz.gf func120,ntmps120;go_wp2_with(refine eQ (n:=16) rfl _ _ rfl _ rfl _ aG _ (Gz.gu underlying82) rfl cL ?_);refine v.mono ?_;rintro e f⟨v2,rfl,D,T⟩;clear v b0;obtain⟨A2,c2,rfl⟩:=D.form;have V:=af D.rd;have W:Q w f:=((Q.refl w).alloc _).trans T;have x:=af W;have b:Hid (lH xs=c7 (dm xs).length 16++ix (dm xs)):=rfl;clear D T W;generalize dm xs=j at p HR V b;obtain⟨m,hm⟩:∃m,j.length=m:=⟨_,rfl⟩;rw[hm] at p b;rw[hm];have Uy:(m:Int)<=16:=aa;have a:=rE (m:Int) 16 f aa aa aa;go_wp2;refine a.mono ?_;rintro e w3⟨v3,rfl,X,Z⟩;clear a;have Uz:=gL (n:=(m:Int)) aa aa;go_wp2;go_loopw[4,5] (λu i wr=>∃(k cnt:Nat),k<=m/\i=U O k/\cnt<=31+62*k/\Hid (az 154 2 wr f.heap.size u cnt (c7 m 16++ix (j.take k))/\Q f wr)) (λ_ i _=>m-(intOf i).toNat)
 case atStart=>exact⟨0,_,aa,rfl,aa,by simpa[ix] using X,Z⟩
 case round=>
  obtain⟨k,cnt,hk,rfl,X',hK⟩:=hrel;obtain⟨B,o⟩:=hK.out;clear hK X Z;by_cases E:k<m
  ·have ka:(k:Int)<(m:Int):=by omega
   have c:k<j.length:=aa;obtain⟨f1,f2⟩:=Ai j k c;have C:=YL c;have d:=HR.out j[k] (rk c);generalize j[k]=r at f1 f2 C d;obtain⟨z,l⟩:=r;dsimp only at f1 f2 C d;obtain⟨z0,z1,l0,l1,l2⟩:=d;obtain⟨F,oo,rfl,y,hc⟩:=V.out.q o (au _) mF;have c1:=hc (k*2) mF;have G:=hc (k*2+1) mF;rw[f1] at c1;rw[f2,<-Nat.add_assoc] at G;have HT:=af C;clear hc f1 f2 C;have a:=rE z 23 wr z0 aa aa;obtain⟨i0,i1⟩:=FM l0 l1 l2;have ahW:=gL (n:=z) z0 aa;have ahX:=gL (n:=bu l-1) i0 aa;have ahY:=o.size;go_wp2;refine a.mono ?_;rintro e w5⟨v5,rfl,o5,H⟩;clear a;obtain⟨g5,c5,rfl⟩:=o5.fS (pB z);have I:=af o;have k3:=B.q H;have k4:=o.trans H;have agB:=H.size;have D3:=af G;clear B o c1 G;go_wp2_with((at_builtin;refine fN rfl rfl (Gz.gu underlying118) gJ rfl aq aq rfl k3 ⟨_,0,none⟩ _ _ rfl ki aa aa o5.src ?_;intro v6 J O6 G6);have K:Q f J:=bC.toQ G6 k4 λg L=>k3.below g L;have d6:J.cell? ⟨F,oo+k*2+1,none⟩=some (U O l):=(K.cell F _ y).trans ((I.out.cell F _ y).symm.trans D3.out));refine(CX l aa aa).mono ?_;rintro e w7⟨rfl,rfl⟩;have a:=rE (bu l-1) 30 J i0 aa aa;go_wp2;refine a.mono ?_;rintro e w8⟨v8,rfl,o8,M⟩;clear a;obtain⟨g8,c8,rfl⟩:=o8.fS (pB (bu l-1));have k9:=O6.q M;have N:=K.trans M;have ahZ:=M.size;have ah0:=K.size;clear d6 D3;go_wp2_with(at_builtin;refine fN rfl rfl (Gz.gu underlying118) gJ rfl aq aq rfl k9 ⟨_,0,none⟩ _ _ rfl ki aa aa o8.src ?_;intro v9 w9 O9 G9);have P:Q f w9:=bC.toQ G9 N λg L=>k9.below g L;go_roundw;case rel=>exact⟨k+1,cnt+dI z+dI (bu l-1),aa,aH,aa,by rw[HT.out,<-aiK,<-aiK];exact O9,P⟩
   case measure=>exact bg
  ·have R:k=m:=by omega
   have S:=x.out.size;rw[R,aks aa] at B;clear E;go_wp2;go_ret;exact⟨_,cnt,rfl,aa,by rw[b.out];exact B.mono S,x.out.trans o⟩
end
def iz:List Int->Int
 |[]=>0
 |x::r=>x+256*iz r
def bytes(xs:List Int):Prop:=∀x∈xs,0<=x/\x<=255
def NL:∀{xs:List Int},bytes xs->bytes (jV xs)
 |[],_=>λ_ h=>by simp[jV] at h
 |x::r,h=>by
  rw[jV];have c:=h x (mI ..);have b:bytes r:=λy a=>h y (pf _ a);split
  ·intro y a;rcases kT.1 a with rfl|a
   ·omega
   ·exact NL b y a
  ·intro y a;rcases kT.1 a with rfl|a
   ·omega
   ·exact b y a
def PK:∀{xs:List Int},(∃x∈xs,x≠255)->iz (jV xs)=iz xs+1
 |[],⟨_,h,_⟩=>by simp at h
 |x::r,⟨y,a,b⟩=>by
  rw[jV];split
  ·rename_i e
   have:∃z∈r,z≠255:=by
    rcases kT.1 a with rfl|a
    ·exact absurd e b
    ·exact⟨y,a,b⟩
   rw[iz,iz,PK this];omega
  ·rw[iz,iz];omega
def OA:∀{xs:List Int},(∀x∈xs,x=255)->iz xs=256^xs.length-1
 |[],_=>rfl
 |x::r,h=>by rw[iz,OA λy a=>h y (akK _ a),h x (List.mem_cons_self ..),aiS,Int.pow_succ];omega
structure cO(e:aZ):Prop where
 lo:4096<=e.span
 hi:e.span<=4294967295
 l0:0<=e.low
 l1:e.low+e.span<=8589934591
 len:e.ch.length=40
 ch:∀k,k<40->1<=e.ch[k]?.getD 0/\e.ch[k]?.getD 0<=4095
 out:bytes e.out
 val:iz e.out.reverse*4294967296+e.low+e.span<=4294967296*256^e.out.length
def cO.room{e:aZ}(h:cO e)(k:4294967296<=e.low):∃x∈e.out.reverse,x≠255:=by refine nP λb=>?_;have c:∀x∈e.out.reverse,x=255:=λx d=>nP λa=>b ⟨x,d,a⟩;have f:=h.val;rw[OA c,List.length_reverse] at f;have:=h.lo;omega
def OB(h:bytes xs):bytes xs.reverse:=λx a=>h x (by simpa using a)
def ZV(h:bytes xs):bytes (fV xs):=OB (NL (OB h))
def NM{x:Int}(h:bytes xs)(h0:0<=x)(h1:x<=255):bytes (xs++[x]):=by
 intro y a;rcases List.mem_append.1 a with a|a
 ·exact h y a
 ·simp_all
def cO.put{e:aZ}(h:cO e)(s:Int)(h1:4096<=s)(a:s<=4294967295)(d:s<=256*e.span):cO {bT e with span:=s}:=by
 have:=h.l0;have f:=h.val;have b:(256:Int)^(e.out.length+1)=256^e.out.length*256:=Int.pow_succ ..;unfold bT;split
 ·rename_i c;refine⟨h1,a,?_,?_,h.len,h.ch,NM (ZV h.out) aa aa,?_⟩
  ·show 0<=(e.low-4294967296)%16777216*256;omega
  ·show(e.low-4294967296)%16777216*256+s<=_;omega
  ·show iz (fV e.out++[(e.low-4294967296)/16777216%256]).reverse*4294967296+(e.low-4294967296)%16777216*256+s<=4294967296*256^(fV e.out++[(e.low-4294967296)/16777216%256]).length;have hc:(fV e.out).reverse=jV e.out.reverse:=by unfold fV;rw[List.reverse_reverse]
   rw[List.reverse_append,aiw,zU,List.reverse_singleton,List.singleton_append,iz,hc,PK (h.room c),List.length_singleton,b];omega
 ·rename_i c;refine⟨h1,a,?_,?_,h.len,h.ch,NM h.out aa aa,?_⟩
  ·show 0<=e.low%16777216*256;omega
  ·show e.low%16777216*256+s<=_;omega
  ·show iz (e.out++[e.low/16777216%256]).reverse*4294967296+e.low%16777216*256+s<=4294967296*256^(e.out++[e.low/16777216%256]).length;rw[List.reverse_append,aiw,List.reverse_singleton,List.singleton_append,iz,List.length_singleton,b];omega
def uO(e:aZ):(bT e).span=e.span:=by unfold bT;split<;>rfl
def cO.bT{e:aZ}(h:cO e):cO (bT e):=by
 have:=h.put e.span h.lo h.hi (by have:=h.lo;omega)
 have a:({Go.Proofs.Q0.bT e with span:=e.span}:aZ)=Go.Proofs.Q0.bT e:=by have:=uO e;generalize Go.Proofs.Q0.bT e=f at this;cases f;simp at this;rw[this]
 rw[a] at this;exact this
def cO.grow{e:aZ}(h:cO e)(a:e.span<16777216):cO (ll e):=h.put (e.span*256) (by have:=h.lo;omega) aa aa
def cO.ren{e:aZ}(h:cO e):cO (jv e)/\16777216<=(jv e).span:=by
 have:=h.lo;unfold jv;split
 ·rename_i h1;split
  ·rename_i a;have g:=h.grow h1;exact⟨g.grow a,by show 16777216<=e.span*256*256;omega⟩
  ·exact⟨h.grow h1,by show 16777216<=e.span*256;omega⟩
 ·simp_all
def cO.mA{e:aZ}(h:cO e)(o:16777216<=e.span)(c:Nat)(b:Int)(hc:c<40):cO (ig e c b):=by
 obtain⟨f,g⟩:=h.ch c hc;obtain⟨p,q,_,_⟩:=kX o h.hi f g;have l:=h.len
 have a:∀b:Int,∀k,k<40->1<=(e.ch.set c (bj (e.ch[c]?.getD 0) b))[k]?.getD 0/\(e.ch.set c (bj (e.ch[c]?.getD 0) b))[k]?.getD 0<=4095:=by
  intro b k u;by_cases i:c=k
  ·subst i;simp only[List.getElem?_set_self (show c<e.ch.length by omega),Option.getD_some];exact Oj f g
  ·rw[akJ i];exact h.ch k u
 have:=h.l0;have:=h.l1;have v:=h.val;have j:4096<=iy e c/\iy e c<=e.span-4096:=⟨p,q⟩;generalize d:iy e c=B at j;unfold ig;rw[d];split
 ·exact⟨j.1,by show B<=_;omega,h.l0,by show e.low+B<=_;omega,by simp[l],a 0,h.out,by show iz e.out.reverse*4294967296+e.low+B<=4294967296*256^e.out.length;omega⟩
 ·exact⟨by show 4096<=e.span-B;omega,by show e.span-B<=_;omega,by show 0<=e.low+B;omega,by show e.low+B+(e.span-B)<=_;omega,by simp[l],a 1,h.out,by show iz e.out.reverse*4294967296+(e.low+B)+(e.span-B)<=4294967296*256^e.out.length;omega⟩
def cO.step{e:aZ}(h:cO e)(a:16777216<=e.span)(c:Nat)(b:Int)(hc:c<40):cO (ib e c b)/\16777216<=(ib e c b).span:=(h.mA a c b hc).ren
def QJ:cO iQ/\16777216<=iQ.span:=
 ⟨⟨aq,aq,aq,aq,rfl,λk a=>by have:iQ.ch=an 40 2048:=rfl;rw[this,List.getElem?_replicate,if_pos a];decide,λ_ h=>by simp[iQ] at h,aq⟩,aq⟩
section
open Go.RowKit Go.WideShapes Go.ChangeShapes
def az.lit(w:World)(B:Nat)(a:B<=w.heap.size)(n:Nat)(ys:List Int)(h:ys.length=n*s)(b:n<=maxLen):az t s (w.alloc (ac (arr ys) t)) B (Y (some ⟨w.heap.size,0,none⟩) n n) n ys:=by refine⟨h,by rw[ajA];exact h,.inr ⟨w.heap.size,n,arr ys,rfl,a,heap_alloc_new w _,au _,b,by rw[bO];exact h,?_⟩⟩;rw[abc,aks (by rw[ajA,h];exact Nat.le_refl _)]
structure MV(m:List Int):Prop where
 len:m.length=71
 kind:al m 0=0\/al m 0=1\/al m 0=2
 vx: -16<=al m 1/\al m 1<=16
 vy: -16<=al m 2/\al m 2<=16
 sO:∀k,k<4->0<=al m (3+k)/\al m (3+k)<=4
 lv:aS (sub m 7 64) 4080=true
def zV(g:m.length=71)(h:df m=true):MV m:=by
 unfold df at h;simp only[OF] at h;obtain⟨⟨a,b⟩,c⟩:=h;unfold kD at b;simp only[OF,decide_eq_true_eq] at b
 have f:js m=true->∀k,k<4->0<=al m (3+k)/\al m (3+k)<=4:=by
  intro f;unfold js at f;intro k hk;rcases k with _|_|_|_|k
  ·simp_all
  ·simp_all
  ·simp_all
  ·simp_all
  ·omega
 unfold jP at a;split at a
 ·simp only[OF] at a;exact⟨g,.inl aG,b.1,b.2,f a.1.2,c⟩
 ·split at a
  ·exact⟨g,.inr (.inl aG),b.1,b.2,f a,c⟩
  ·split at a
   ·simp only[OF] at a;refine⟨g,.inr (.inr aG),b.1,b.2,λk hk=>?_,c⟩;have hm:=a.1
    have:=gY.1 hm (al m (3+k)) (by
     have e:=fP m 3 4 k hk;have d:k<(sub m 3 4).length:=Ce;have:(sub m 3 4)[k]?.getD 0=(sub m 3 4)[k]:=by simp[d]
     unfold al;rw[<-e,this];exact rk d)
    exact of_decide_eq_true this
   ·cases a
def ac7{M:Int}{o a b:Nat}(h:aS (sub xs o k) M=true)(h1:o<=a)(f:a+b<=o+k)(g:o+k<=xs.length):aS (sub xs a b) M=true:=by
 refine gY.2 λx c=>?_;obtain⟨i,hi,rfl⟩:=List.getElem_of_mem c;have hlen:(sub xs a b).length=b:=bP aa
 have e:(sub xs a b)[i]=(sub xs o k)[a+i-o]?.getD 0:=by
  have d:(sub xs a b)[i]=(sub xs a b)[i]?.getD 0:=by simp[hi]
  rw[d,fP _ _ _ _ aa,fP _ _ _ _ aa];congr 2;omega
 rw[e];exact decide_eq_true (mU h _ (by rw[bP (by omega)];omega))
def MV.lvl(h:MV m)(k:Nat)(a:k<4):aS (lvl m k) 4080=true/\(lvl m k).length=16:=
 ⟨ac7 h.lv aa aa (by rw[h.len];omega),bP (by rw[h.len];omega)⟩
def si{v:Int}(h1: -16<=v)(a:v<=16):0<=bu v/\bu v<=32:=by unfold bu;split<;>omega
def MZ(b:m.length=71)(hk:k<4):jL ((sub m 3 4).take (k+1))=jL ((sub m 3 4).take k)++c7 (al m (3+k)) 9:=by unfold jL;have a:k<(sub m 3 4).length:=Ce;rw[List.take_succ_eq_append_getElem a,akN];have:=fP m 3 4 k hk;unfold al;rw[<-this];simp[a]
def Ef(m:List Int)(k:Nat):fD m (k+1)=fD m k++lH (lvl m k):=by unfold fD;rw[aju,akN];exact CY
def SQ{p:Prop}(h:p:=by(go_loopw[5,7] (λu i wr=>∃(k cnt:Nat),k<=4/\i=.int .i64 k/\cnt<=140+1100*k/\Hid (az 154 2 wr (w.heap.size+1) u cnt (L0++fD m k)/\Q w1 wr)) λ_ i _=>4-(intOf i).toNat;(case atStart=>exact⟨0,_,by omega,rfl,X',by simpa[fD] using HO.out,RT.out⟩);(case round=>obtain⟨k,cnt,M,rfl,z,hK⟩:=hrel;obtain⟨d,a⟩:=hK.out;clear hK;(try clear HO RT);by_cases b:k<4;(case pos=>have A:(k:Int)<4:=(by omega);have N:=b0.q a;have B:=a.size;obtain⟨C,D⟩:=hm.lvl k b;have E:sub m (7+k*16) 16=lvl m k:=(by unfold lvl;rw[Nat.mul_comm 16 k]);have x:=abr wr D C;have c:=Ef m k;have f:=af c;clear c;go_wp2_with(refine LP (n:=71) rfl _ _ rfl _ (7+k*16) rfl _ (by assumption) 16 (by omega) _ (Gz.gu underlying82) rfl cL ?_);refine x.mono ?_;rintro e wn⟨P,n,rfl,R,on,j⟩;clear x;have o:0<n:=(by have:=on.1;unfold lH at this;rw[List.length_append,ki] at this;have:=pB ((dm (lvl m k)).length:Int);omega);obtain⟨S,T,rfl⟩:=on.fS o;have y:=d.q j;have F:=a.trans j;have G:=j.size;have hlen:=on.1;clear d a;go_wp2_with(at_builtin;go_loud (refine fN rfl rfl (Gz.gu underlying118) gJ rfl (by decide) (by decide) rfl y ⟨_,0,none⟩ _ _ rfl hlen ?_ ?_ on.src ?_;omega;omega;intro V H I J));have K:Q w1 H:=bC.toQ J F (λg L=>by have:=y.below g L;omega);go_roundw;(case rel=>exact⟨k+1,cnt+n,by omega,by go_num,by omega,by rw[f.out,<-List.append_assoc];exact I,K⟩);(case measure=>simp[intOf];omega));(case neg=>have v:k=4:=(by omega);rw[v] at d;clear b;go_wp2;go_ret;refine⟨_,cnt,rfl,by omega,?_,qw.trans a⟩;rw[Bm.out];exact d.mono (by omega))))):p:=h
def SS{p:Prop}(h:p:=by(go_loopw[5,6] (λu i wr=>∃(k cnt:Nat),k<=4/\i=.int .i64 k/\cnt<=2+31*k/\Hid (az 154 2 wr (w.heap.size+1) u cnt (L1++jL ((sub m 3 4).take k))/\Q w1 wr)) λ_ i _=>4-(intOf i).toNat;(case atStart=>exact⟨0,_,by omega,rfl,X',by simpa[jL] using HO.out,RT.out⟩);(case round=>obtain⟨k,cnt,T,rfl,D,hK⟩:=hrel;obtain⟨c,d⟩:=hK.out;clear hK;(try clear HO RT);by_cases a:k<4;(case pos=>have E:(k:Int)<4:=(by omega);have F:=b0.q d;have G:=d.size;obtain⟨v,H⟩:=hm.sO k a;have x:=F.at (3+k) (by omega);have f:m[3+k]?.getD 0=al m (3+k):=rfl;rw[f] at x;have b:=MZ hm.len a;generalize al m (3+k)=md at v H x b;have B:=rE md 9 wr v (by omega) (by omega);have I:=gL (n:=md) v (by omega);have y:=af b;clear b f;go_wp2;refine B.mono ?_;rintro e wn⟨V,rfl,on,A⟩;clear B;obtain⟨W,X,rfl⟩:=on.fS (pB md);have C:=c.q A;have J:=d.trans A;have K:=A.size;have hlen:=on.1;clear c d x;go_wp2_with(at_builtin;go_loud (refine fN rfl rfl (Gz.gu underlying118) gJ rfl (by decide) (by decide) rfl C ⟨_,0,none⟩ _ _ rfl hlen ?_ ?_ on.src ?_;omega;omega;intro Z L M N));have P:Q w1 L:=bC.toQ N J (λg R=>by have:=C.below g R;omega);go_roundw;(case rel=>exact⟨k+1,cnt+dI md,by omega,by go_num,by omega,by rw[y.out,<-List.append_assoc];exact M,P⟩);(case measure=>simp[intOf];omega));(case neg=>have j:k=4:=(by omega);rw[j,List.take_of_length_le (by rw[bP (by rw[hm.len];omega)];omega)] at c;clear a;obtain⟨L0,o⟩:∃z,L1++jL (sub m 3 4)=z:=⟨_,rfl⟩;rw[o] at c HM;have Bm:=HM;have X':cnt<=140:=(by omega);have S:¬(k:Int)<4:=(by omega);clear o j;go_wp2;have HO:=af c;have RT:=af d;clear c d;exact SQ)))):p:=h
def PL(ap:Bool)(w:World)(hm:MV m)(hi:ap=true->al m 0=2):
  Calls Gz.prog 82 #[a5 (arr m),a9 ap] w λe w'=>∃v' n,e=be v'/\n<=5000/\az 154 2 w' w.heap.size v' n (eU ap m)/\Q w w':=by
 have s1:=bO m;rw[hm.len] at s1;have b0:=Nb.new 85 71 w m hm.len;have b1:=b0.alloc (ac #[] 154);have f:=az.jT 154 2 (w.alloc (ac (arr m) 85)) (w.heap.size+1) aj;have y:Q (w.alloc (ac (arr m) 85)) ((w.alloc (ac (arr m) 85)).alloc (ac #[] 154)):=(Q.refl _).alloc _;have qw:Q w (w.alloc (ac (arr m) 85)):=(Q.refl _).alloc _;rw[BE] at f
 have b:∀ys:List Int,∀j,j<ys.length->(((w.alloc (ac (arr m) 85)).alloc (ac #[] 154)).alloc (ac (arr ys) 154)).cell? ((⟨w.heap.size+1+1,0,none⟩:Addr).add j)=some (U O (ys[j]?.getD 0)):=λys j hj=>by have:=iJ ((w.alloc (ac (arr m) 85)).alloc (ac #[] 154)) ys 154 j hj;exact yg
 obtain⟨w1,i⟩:∃z,w.alloc (ac (arr m) 85)=z:=⟨_,rfl⟩;have L:w1.heap.size=w.heap.size+1:=by rw[<-i];simp
 have c:=af i;have c0:=b1.at 0 aa;rw[i] at b0 y qw;clear i;have o:m[0]?.getD 0=al m 0:=rfl;rw[o] at c0;cases ap with
 |false=>
  rcases hm.kind with h|h|h
  ·have HM:Hid (eU false m=[0,0]):=by unfold Hid eU;rw[if_pos ⟨rfl,h⟩]
   rw[h] at c0;go_enter Gz.gf func82,ntmps82;go_wp2;go_ret;refine⟨_,1,rfl,aa,?_,by rw[c.out];exact(qw.trans y).alloc _⟩;rw[HM.out];have hz:w.heap.size<=((w.alloc (ac (arr m) 85)).alloc (ac #[] 154)).heap.size:=by simp only[BE];omega
   have:=az.lit (t:=154) (s:=2) ((w.alloc (ac (arr m) 85)).alloc (ac #[] 154)) _ hz 1 [0,0] rfl aq;exact yg
  ·have HM:Hid (eU false m=[0,1,1,0]++(c7 (bu (al m 1)) 2++c7 (bu (al m 2)) 2)++fD m 4):=by exact LQ
   rw[h] at c0;have d:=b [0,1,1,0];go_enter Gz.gf func82,ntmps82;go_wp2_with(at_builtin;go_loud (refine fN rfl rfl (Gz.gu underlying118) gJ rfl aq aq rfl (f.alloc _) ⟨_,0,none⟩ [0,1,1,0] 2 rfl rfl ?_ ?_ ?_ ?_;omega;(simp only[BE];omega);exact d;intro E w3 D F;have p:Q w1 w3:=bC.toQ F (by rw[c.out];exact y.alloc _) (λg u=>by have:=(f.alloc (ac (arr [0,1,1,0]) 154)).below g u;omega);have v:=b0.q p;have c1:=v.at 1 aa;have c2:=v.at 2 aa;have c0:=v.at 0 aa;rw[o,h] at c0));have x1:m[1]?.getD 0=al m 1:=rfl;have M:m[2]?.getD 0=al m 2:=rfl;have A:=hm.vx;have B:=hm.vy;have G:az 154 2 w3 (w.heap.size+1) E 2 [0,1,1,0]:=D;have hz3:=p.size;rw[x1];refine(CX (al m 1) aa aa).mono ?_;rintro e w4⟨rfl,rfl⟩;obtain⟨i0,i1⟩:=si A.1 A.2;have C:=rE (bu (al m 1)) 2 w3 i0 aa aa;have N:=gL (n:=bu (al m 1)) i0 aa;go_wp2;refine C.mono ?_;rintro e w5⟨v5,rfl,P,H⟩;clear C;obtain⟨g5,c5,rfl⟩:=P.fS (pB (bu (al m 1)));have R:=G.q H;have S:=p.trans H;have hz5:=H.size;have d2:=(b0.q S).at 2 aa;rw[M] at d2;go_wp2_with((at_builtin;go_loud (refine fN rfl rfl (Gz.gu underlying118) gJ rfl aq aq rfl R ⟨_,0,none⟩ _ _ rfl ki ?_ ?_ P.src ?_;omega;omega;intro v6 T O6 G6));have I:Q w1 T:=bC.toQ G6 S (λg u=>by have:=R.below g u;omega);have d6:=(b0.q I).at 2 aa;rw[M] at d6);refine(CX (al m 2) aa aa).mono ?_;rintro e w7⟨rfl,rfl⟩;obtain⟨V,j1⟩:=si B.1 B.2;have C:=rE (bu (al m 2)) 2 T V aa aa;have W:=gL (n:=bu (al m 2)) V aa;have hz6:=I.size;go_wp2;refine C.mono ?_;rintro e w8⟨v8,rfl,X,J⟩;clear C;obtain⟨g8,c8,rfl⟩:=X.fS (pB (bu (al m 2)));have Z:=O6.q J;have K:=I.trans J;have hz8:=J.size;go_wp2_with(at_builtin;go_loud (refine fN rfl rfl (Gz.gu underlying118) gJ rfl aq aq rfl Z ⟨_,0,none⟩ _ _ rfl ki ?_ ?_ X.src ?_;omega;omega;intro v9 w9 O8 G9));have k8:Q w1 w9:=bC.toQ G9 K (λg u=>by have:=Z.below g u;omega);have X':2+dI (bu (al m 1))+dI (bu (al m 2))<=140:=aa;have Bm:Hid (eU false m=[0,1,1,0]++c7 (bu (al m 1)) 2++c7 (bu (al m 2)) 2++fD m 4):=by rw[Hid,HM.out];simp
   obtain⟨L0,x⟩:∃z,[0,1,1,0]++c7 (bu (al m 1)) 2++c7 (bu (al m 2)) 2=z:=⟨_,rfl⟩;have O9:az 154 2 w9 (w.heap.size+1) v9 (2+dI (bu (al m 1))+dI (bu (al m 2))) L0:=by rw[<-x];exact O8
   rw[x] at Bm;clear x O8;go_wp2;have HO:=af O9;have RT:=af k8;clear O9 k8;exact SQ
  ·have HM:Hid (eU false m=[0,1,1,1]++jL (sub m 3 4)++fD m 4):=by exact LQ
   rw[h] at c0;have d:=b [0,1,1,1];go_enter Gz.gf func82,ntmps82;go_wp2_with(at_builtin;go_loud (refine fN rfl rfl (Gz.gu underlying118) gJ rfl aq aq rfl (f.alloc _) ⟨_,0,none⟩ [0,1,1,1] 2 rfl rfl ?_ ?_ ?_ ?_;omega;(simp only[BE];omega);exact d;intro E w3 D F;have p:Q w1 w3:=bC.toQ F (by rw[c.out];exact y.alloc _) (λg u=>by have:=(f.alloc (ac (arr [0,1,1,1]) 154)).below g u;omega);have v:=b0.q p;have c1:=v.at 1 aa;have c2:=v.at 2 aa;have c0:=v.at 0 aa;rw[o,h] at c0));obtain⟨L1,a⟩:∃z:List Int,[0,1,1,1]=z:=⟨_,rfl⟩;have O4:az 154 2 w3 (w.heap.size+1) E 2 L1:=by rw[<-a];exact D
   rw[a] at HM;clear a D;have X':2<=2:=au _;have HO:=af O4;have RT:=af p;clear O4 p;exact SS
 |true=>
  have h:=hi rfl
  have HM:Hid (eU true m=[]++jL (sub m 3 4)++fD m 4):=by unfold Hid eU;rw[if_neg (by intro k;cases k.1)];unfold ml preB;rw[h];rfl
  rw[h] at c0;rw[c.out] at f;have k0:=y;go_enter Gz.gf func82,ntmps82;go_wp2;rw[c.out];have X':0<=2:=aa;obtain⟨L1,a⟩:∃z:List Int,[]=z:=⟨_,rfl⟩;rw[a] at HM f;clear a;have HO:=af f;have RT:=af k0;clear f k0;exact SS
end
section
open Go.RowKit Go.WideShapes Go.ChangeShapes
structure bI(xs:List Int):Prop where
 even:∃n,xs.length=n*2
 ok:gR xs=true
def bI.nil:bI []:=⟨⟨0,rfl⟩,rfl⟩
def PM:∀(n:Nat)(xs ys:List Int),xs.length=n*2->gR (xs++ys)=(gR xs&&gR ys)
 |0,[],ys,_=>by rw[List.nil_append,show gR ([]:List Int)=true from rfl,Bool.true_and]
 |n+1,c::b::r,ys,h=>by have:=PM n r ys (by simp at h;omega);rw[ajn,ajn,gR,this,gR,Bool.and_assoc,Bool.and_assoc,Bool.and_assoc]
 |n+1,[],_,h=>by simp at h
 |n+1,[_],_,h=>by simp at h;omega
def bI.app(h:bI xs)(k:bI ys):bI (xs++ys):=by obtain⟨n,a⟩:=h.even;obtain⟨m,hm⟩:=k.even;exact⟨⟨n+m,by rw[aiw];omega⟩,by rw[PM n _ _ a,h.ok,k.ok];rfl⟩
def bI.pair{c b:Int}(h0:0<=c)(h1:c<=39)(a:b=0\/b=1):bI [c,b]:=⟨⟨1,rfl⟩,by unfold gR;simp[h0,h1,a,gR]⟩
def bI.flat{α:Type}{f:α->List Int}:∀{l:List α},(∀x∈l,bI (f x))->bI (l.flatMap f)
 |[],_=>bI.nil
 |x::r,h=>by rw[List.flatMap_cons];exact(h x aj).app (bI.flat λy a=>h y (by simp[a]))
def bI.num{n b:Int}(h0:0<=b)(h1:b<=33):bI (c7 n b):=by
 refine(bI.flat λj _=>?_).app (bI.flat λj _=>?_)
 ·refine bI.pair aa aa ?_;split
  ·omega
  ·omega
 ·refine bI.pair aa aa ?_;omega
def bI.runs(a:List (Int×Int)):bI (ix a):=bI.flat λr _=>(bI.num aa aa).app (bI.num aa aa)
def bI.blk(xs:List Int):bI (lH xs):=(bI.num aa aa).app (bI.runs _)
def bI.lvl(m:List Int)(k:Nat):bI (fD m k):=bI.flat λj _=>bI.blk _
def bI.pre(m:List Int):bI (preB m):=by
 unfold preB;split
 ·exact(bI.num aa aa).app (bI.num aa aa)
 ·exact bI.flat λj _=>bI.num aa aa
def bI.aO(h:MV m)(hi:ap=true->al m 0=2):bI (eU ap m):=by
 unfold eU;split
 ·exact bI.pair aa aa (.inl rfl)
 ·rename_i a;refine(bI.app ?_ (bI.pre m)).app (bI.lvl m 4);cases ap with
  |true=>exact bI.nil
  |false=>have h0:al m 0≠0:=λe=>a ⟨rfl,e⟩;have:=h.kind;exact(bI.pair aa aa (.inr rfl)).app (bI.pair (c:=1) (b:=al m 0-1) aa aa aa)
def Eg:∀(ys:List Int)(z:Int),(ia ys z).length<=ys.length
 |[],_=>au _
 |x::r,z=>by
  unfold ia;split
  ·have:=Eg r (z+1);rw[aiS];omega
  ·have:=Eg r 0;rw[aiS,aiS];omega
def zw{α:Type}{f:α->List Int}(M:Nat):∀{l:List α},(∀x∈l,(f x).length<=M)->(l.flatMap f).length<=l.length*M
 |[],_=>by simp
 |x::r,h=>by have h1:=h x aj;have b:=zw M (l:=r) λy a=>h y (by simp[a]);rw[List.flatMap_cons,aiw,aiS,Nat.succ_mul];omega
def abt(a:xs.length=16)(b:aS xs 4080=true):(lH xs).length<=2048:=by
 have j:(dm xs).length<=16:=by have:=Eg (lk xs) 0;unfold lk at this;rw[ajA] at this;exact aJ this aq
 unfold lH;rw[aiw,ki]
 have h1:(ix (dm xs)).length<=(dm xs).length*124:=zw 124 λr c=>by obtain⟨d,o,e,f,g⟩:=EP a b r c;obtain⟨i,p⟩:=FM e f g;rw[aiw,ki,ki];have:=gL (n:=r.1) d aa;have:=gL (n:=bu r.2-1) i aa;omega
 have:=gL (n:=((dm xs).length:Int)) aa aa;omega
def abu(h:MV m):(eU ap m).length<=10000:=by
 unfold eU;split
 ·simp
 ·have h1:(fD m 4).length<=4*2048:=by
   have:=zw (f:=λj=>lH (Go.Proofs.Q0.lvl m j)) 2048 (l:=List.range 4) λj c=>by obtain⟨a,d⟩:=h.lvl j (fz.1 c);exact abt d a
   exact this
  have p:(preB m).length<=248:=by
   unfold preB;split
   ·obtain⟨e,q⟩:=si h.vx.1 h.vx.2;obtain⟨g,u⟩:=si h.vy.1 h.vy.2;rw[aiw,ki,ki];have:=gL (n:=bu (al m 1)) e aa;have:=gL (n:=bu (al m 2)) g aa;omega
   ·have b:(sub m 3 4).length=4:=bP (by rw[h.len];omega)
    have:=zw (f:=λx=>c7 x 9) 62 (l:=sub m 3 4) λx o=>by
     obtain⟨i,hi,rfl⟩:=List.getElem_of_mem o;have a:(sub m 3 4)[i]=(sub m 3 4)[i]?.getD 0:=by simp[hi]
     rw[b] at hi;have:=h.sO i hi;rw[a,fP _ _ _ _ hi];unfold al at this;rw[ki];have:=gL (n:=m[3+i]?.getD 0) this.1 aa;omega
    rw[b] at this;exact this
  have v:(ml ap m).length<=4:=by unfold ml;split<;>simp
  rw[aiw,aiw];omega
def aew(a:m.length=71)(h:dN ap m=true):MV m/\(ap=true->al m 0=2):=by unfold dN at h;simp only[OF,Bool.or_eq_true,Bool.not_eq_true',beq_iff_eq] at h;exact⟨zV a h.1,λhi=>h.2.resolve_left (by rw[hi];decide)⟩
def u4(a:xs.length=n*71)(b:k<n):(aO xs k).length=71:=bP (by rw[a];omega)
def uP(ap:Bool)(xs:List Int)(k:Nat):ju ap xs (k+1)=ju ap xs k++eU ap (aO xs k):=by unfold ju;rw[aju,akN];exact CY
def Eh(ap:Bool)(xs:List Int)(k:Nat):fR ap xs (k+1)=(fR ap xs k&&dN ap (aO xs k)):=by unfold fR;rw[aju,List.all_append];simp
def Fp(h:fR ap xs n=true)(a:k<n):dN ap (aO xs k)=true:=gY.1 h k (fz.2 a)
def QK(a:k<n)(h:dN ap (aO xs k)=false):fR ap xs n=false:=by cases b:fR ap xs n with|false=>rfl|true=>rw[Fp b a] at h;cases h
def vl{ap:Bool}{xs:List Int}{n:Nat}(a:xs.length=n*71)(h:fR ap xs n=true):∀k,k<=n->bI (ju ap xs k)/\(ju ap xs k).length<=k*10000
 |0,_=>⟨bI.nil,by simp[ju]⟩
 |k+1,d=>by obtain⟨h1,e⟩:=vl a h k aa;obtain⟨b,c⟩:=aew (u4 a (show k<n by omega)) (Fp h (show k<n by omega));have f:=abu (ap:=ap) b;rw[uP];exact⟨h1.app (bI.aO b c),by rw[aiw];omega⟩
def ET(a:xs.length=n*71)(h1:1<=n)(b:n<=4):ew ap xs n=if fR ap xs n=true then some (lJ (ju ap xs n)) else none:=by
 unfold ew;cases h:fR ap xs n with
 |false=>simp
 |true=>
  obtain⟨c,d⟩:=vl a h n (au _)
  have:Gg (ju ap xs n) ((ju ap xs n).length/2)=true:=by unfold Gg;rw[c.ok];simp;omega
  rw[this];simp[h1,b]
def rZ:∀(n:Nat)(xs:List Int),xs.length=n*2->gR xs=true->∀k,k<n->0<=xs[k*2]?.getD 0/\xs[k*2]?.getD 0<=39/\(xs[k*2+1]?.getD 0=0\/xs[k*2+1]?.getD 0=1)
 |0,_,_,_,k,a=>absurd a aa
 |n+1,c::b::r,d,h,k,a=>by
  unfold gR at h;simp only[OF,decide_eq_true_eq] at h;cases k with
  |zero=>exact⟨h.1.1.1,h.1.1.2,h.1.2⟩
  |succ k=>have:=rZ n r (by simp at d;omega) h.2 k aa;rw[show(k+1)*2=k*2+1+1 by omega];exact this
 |n+1,[],h,_,_,_=>by simp at h
 |n+1,[_],h,_,_,_=>by simp at h;omega
def OC:∀(n:Nat)(xs:List Int)(e:aZ)(c b:Int),xs.length=n*2->nk (xs++[c,b]) e=ib (nk xs e) c.toNat b
 |0,[],e,c,b,_=>rfl
 |n+1,a::d::r,e,c,b,h=>by rw[ajn,ajn,nk,nk];exact OC n r _ c b (by simp at h;omega)
 |n+1,[],_,_,_,h=>by simp at h
 |n+1,[_],_,_,_,h=>by simp at h;omega
end
end Go.Proofs.Q0
