/- Joined texts: the walk by computed conditions, the contracts of the functions, the plain laws. -/
import Derived.Test.YtfegegkkdfkllaaGreatDoorB1
import Derived.Test.YtfegegkkdfkllaaGreatDoorB2
import Derived.Test.YtfegegkkdfkllaaGreatDoorB3
set_option linter.unusedVariables false
set_option linter.unusedSimpArgs false
set_option maxRecDepth 100000
set_option maxHeartbeats 0
noncomputable section
open Array renaming toList->Mm
open Bool renaming and_eq_true->NK,and_true->Ei,eq_false_iff->DC,eq_iff_iff->MG,false_or->LF,not_and->Gj,not_eq_true'->Lc,not_eq_true->Iu,not_or->GW,or_assoc->Cf,or_eq_false_iff->LA,or_eq_true->L4
open ByteArray renaming data->Mn,mk->Mi
open Decidable renaming em->EX
open Go renaming Code->Np,LoopState->NQ
open Go.Code renaming exit->Jk,ret->Lg
open Go.Fo renaming Maps->Mk
open Go.Fo.Bd renaming d->N3
open Go.Fo.Ev renaming b->ME,d->NM
open Go.Fo.Fm renaming broads->MC,bs->NJ,d->NX,induct->KY,kind->NU,l->Nt,mk->Kt,n->NA,name->NG,sem->Ll,semL->Kj,ts->NH
open Go.Fo.Gr renaming d->Ny
open Go.Fo.In renaming d->MZ
open Go.Fo.Le renaming d->N8,groups->F0
open Go.Fo.Maps renaming ea->Fp,es->Ar
open Go.Fo.Mv renaming d->Ic
open Go.Fo.Pe renaming away->Jh,d->N9
open Go.Fo.Pl renaming d->Nr
open Go.Fo.Pn renaming frozen->ML,rules->Lu,sc->NT
open Go.Fo.Rm renaming d->N6
open Go.Fo.Ru renaming body->M9,d->Na,each->MF,hard->LM,name->Kx,weight->LD
open Go.Fo.Sc renaming groups->Nb,lessons->Nj,people->Nd,rooms->Nh,slots->Ni
open Go.Fo.Sl renaming d->Nx
open Go.Fo.Tm renaming d->Nc
open Go.IntKind renaming i64->Nq,wrap->Nl
open Go.LoopState renaming busy->J3,done->J4,ready->Mg
open Go.Sx renaming PCall->Nn,PFn->OB,PFnA->Lz,PYield->Mo
open Go.Sx.AV renaming any->OI,clo->Ml,d->OF,iptr->Ma,map->L1,msl->MP,ptr->N5,yld->NE
open Go.Sx.Box renaming cells->Ns,loop->M7,map->Kw,vec->Lo
open Go.Sx.D renaming agg->NY,bool->OD,int->OH,sl->OE,str->NZ,toBool->Kz,toInt->NO,toSl->MT,toStr->MJ
open Go.Sx.Ext renaming below->EE
open Go.Sx.PFnA renaming walk->IH
open Go.Sx.PYield renaming walk->Jl
open Go.Sx.Sh renaming bool->Jy,int->NP,norm->MK,ok->L2,sl->NB,str->NC
open Go.Value renaming int->BL
open Iff renaming rfl->D8
open Int renaming add_zero->CF,lt_or_eq_of_le->IV,mul_comm->EV,mul_le_mul_of_nonneg_left->HG,mul_nonneg->JX,mul_zero->EY,natCast_ediv->C7,tdiv_eq_ediv_of_nonneg->HF,toNat->N1,toNat_natCast->M1,toNat_zero->Cm
open List renaming all->LV,all_append->J2,all_cons->J7,all_eq_true->ND,all_nil->CG,any->Lv,any_append->Hl,any_cons->K7,any_eq_true->Jb,any_nil->Hf,append->IL,contains_cons->Hu,contains_iff_mem->Jf,countP_le_length->IY,drop->Lx,drop_eq_nil_of_le->Ls,drop_length->E9,eq_nil_of_length_eq_zero->Ju,eq_of_mem_replicate->Hy,ext_getElem?->Jc,find?_cons->KP,foldl_cons->It,getElem?_eq_getElem->LR,getElem?_eq_none->My,getElem?_eq_some_iff->Df,getElem?_map->M6,getElem?_modify->FR,getElem?_set->LQ,length->OJ,length_map->Nv,length_take->Kr,lookup->IM,map->OM,map_append->Lq,map_cons->Mf,map_map->Io,map_replicate->I9,map_set->ET,map_take->Ce,mem_map->Mj,mem_of_getElem?->MX,mem_of_mem_take->Je,replicate->M4,replicate_succ->G2,reverse->Mx,take->NW,take_length->La,take_of_length_le->MY,take_sublist->E0,take_zero->K5
open Nat renaming add_div_right->DE,add_sub_cancel->IX,div_add_mod->Hm,div_eq_of_lt->Hn,div_le_self->Cv,eq_zero_or_pos->I8,le_refl->MS,lt_or_ge->M0,mod_eq_of_lt->G6,mod_lt->IK,mul_add->EK,mul_add_div->Es,mul_add_mod->Er,mul_assoc->Eh,mul_comm->JH,mul_div_cancel->DK,mul_le_mul->Em,mul_mod_right->DD,mul_one->IN,mul_pos->GV,pow_succ->EZ,zero_le->L6,zero_mul->Gq
open Option renaming getD->Nz,isSome->IR,rec->GJ
open Prod renaming fst->N7,snd->NV
open _root_ renaming List->ON,Option->OK,True->OG,absurd->No,congrArg->Mz,decide_eq_false_iff_not->M2,decide_eq_true_eq->NR,if_neg->N2,if_pos->Nf,of_decide_eq_true->M3
namespace Go.Fo
open Go Go.Sx Go.Proofs
section
def zP (s:Sc) (bs:ON Bd):ON Int:=bs.map λb=>zY s b.sort
theorem ZX (s:Sc) {bs:ON Bd}{x:Nat}{b:Bd}(h:bs[x]? = some b):zP s (bs.take (x+1))=zP s (bs.take x)++[zY s b.sort]:=by unfold zP;rw[yp h];simp
theorem uv (s:Sc) (bs:ON Bd):(zP s bs).length=bs.length:=by simp[zP]
mutual
def Fm.broadP (s:Sc):Fm->Int
 |.mk _ _ _ _ bs l=>zI 1048577 (zI 1048577 (Fm.broadsP s l 0*zV 1048577 s bs)+1)
def Fm.broadsP (s:Sc):ON Fm->Int->Int
 |[],n=>n
 |x::r,n=>Fm.broadsP s r (zI 1048577 (n+Fm.broadP s x))
end
theorem Fm.broadP_eq (s:Sc) (f:Fm):f.broadP s=zI 1048577 (zI 1048577 (Fm.broadsP s f.l 0*zV 1048577 s f.bs)+1):=by cases f;rw[Fm.broadP];rfl
def xA (s:Sc):ON Ru->Int->Int->Bool
 |[],n,b=>decide (n>4096)||decide (b>1048576)
 |r::q,n,b=>xA s q (n+zV 1048577 s r.each) (zI 1048577 (b+zI 1048577 (zV 1048577 s r.each*r.body.broadP s)))
theorem f6 {s:Sc}(hs:s.Fits) (f:Fm):0<=f.broadP s/\f.broadP s<=1048577:=by
 have key:∀(l:ON Fm),(∀x∈l,0<=x.broadP s/\x.broadP s<=1048577)->∀n,0<=n->n<=1048577->0<=Fm.broadsP s l n/\Fm.broadsP s l n<=1048577:=by
  intro l;induction l with
  |nil=>intro _ n h1 h2;rw[Fm.broadsP];exact⟨h1,h2⟩
  |cons x r ih =>
   intro h n h1 h2;rw[Fm.broadsP];have hx:=h x (by simp);have hc:=y5 (c:=1048577) (x:=n+x.broadP s) (by decide) (by omega);exact ih (λy hy=>h y (by simp[hy])) _ hc.1 hc.2
 induction f using KY with
 |h f ih =>
 rw[Fm.broadP_eq];have h1:=key f.l ih 0 (by decide) (by decide);have h2:=yd hs (c:=1048577) (by decide) f.bs;have h3:=y5 (c:=1048577) (x:=Fm.broadsP s f.l 0*zV 1048577 s f.bs) (by decide) (JX h1.1 h2.1);exact y5 (by decide) (by omega)
theorem TC (l:ON Int) (n:Int) (h:l.length<1099511627777):FA (l.map intD) [.int .i64 n] 1 8:=by
 refine⟨?_,by simp;omega⟩;rw[ND];intro d hd;rcases ON.mem_append.1 hd with hd|hd
 ·obtain⟨t,_,rfl⟩:=Mj.1 hd;rfl
 ·simp at hd;subst hd;rfl
section
variable {G:Nat->OK (ON D)}
theorem Q3 (env:ON Ev) (hl:env.length<1099511627776):PFnV Tryz.prog G 140 [.sl (env.map NM)] 3 (· = env.map NM):=by
 refine PFnV.walk (fn:=Tryz.f140) (code:=z6 Tryz.f140) mixed L0 Tryz.func140 (by kernel_rfl) u3 ?_;apply @z7 _ (∀(b:Bool),(b=true->OM NM env=[])->(b=true->[]=OM NM env)/\(b=false->FA [] (OM NM env) (nat_lit 3) (nat_lit 32)/\OJ (Mx ([]:ON D))+OJ (OM NM env)=OJ (Mx ([]:ON D)++OM NM env)/\3=3/\Mx ([]:ON D)++OM NM env=OM NM env))
 ·kernel_rfl
 have hc:=bW env;unfold xW at hc;refine λb hb=>⟨λh=>by rw[hb h],λ_=>⟨⟨by simpa using hc,by simp;omega⟩,?_⟩⟩;simp
def bG (a:ON Ev) (b:Nat) (c:ON Bd) (d:ON Int):ON Ev:=a++yR (NW b c) d
def ld (a:ON Ev) (b:Nat) (c:ON Bd) (d:ON Int):ON D:=OM NM (bG a b c d)
def Ua (a:ON Int) (b:Nat):D:=OH .i64 (NO (Nz (z1 (OM intD a) (N1 (b:Int)) 0) default))
def UZ (a:ON Int) (b:Nat) (c:ON Bd):ON D:=Mx [NY (Mx [(λ(x:Sh×Nat)=>match x with|(sh,j)=>MK sh (Nz (z1 (OM intD a) (N1 (b:Int)) j) default)) (NP .i64,0),(λ(x:Sh×Nat)=>match x with|(sh,j)=>MK sh (Nz (z1 (OM N3 c) (N1 (b:Int)) j) default)) (NP .i64,0+1),(λ(x:Sh×Nat)=>match x with|(sh,j)=>MK sh (Nz (z1 (OM N3 c) (N1 (b:Int)) j) default)) (NC,0)])]
theorem h88 (env:ON Ev) (bs:ON Bd) (t:ON Int) (hl:env.length<1099511627776) (hb:bs.length<1099511627776) (ht:bs.length<=t.length):OB Tryz.prog G 88 [.sl (env.map NM),.sl (bs.map N3),vl t] (· = [.sl ((env++yR bs t).map NM)]):=by
 unfold vl;refine zr (LL [(3,zT (α:=Nat) Tryz.prog G L0 0 (zz (z6 Tryz.f88) 0) [2,11,12] (λx=>x<=bs.length) (λx=>bs.length - x) (λx=>[(0,.vec 0 ((env++yR (bs.take x) t).map NM)),(13,.d (.int .i64 x))]) (λ_ x=>[.vec (env++yR (bs.take x) t).length 3]))]) Tryz.func88 ⟨_,rfl⟩ (zm zy) ?_;apply @z7 _ (PFnV Tryz.prog G 140 [OE (OM NM env)] 3 λ(l:ON D)=>∃(x0:Nat),x0<=OJ bs/\((l=ld env x0 bs t/\OM intD t=OM intD t/\OM N3 bs=OM N3 bs/\(↑(OJ (OM N3 bs)):Int)=(↑(OJ (OM N3 bs)):Int)/\(0:Int)=(x0:Int)/\OG)/\OJ l=OJ (bG env x0 bs t)/\OG)/\∀(x:Nat),x<=OJ bs->(decide ((x:Int)<(↑(OJ (OM N3 bs)):Int))=true->((0:Int)<=(x:Int)/\(OM N3 bs)[N1 (x:Int)]? = some (zk [NC,NP .i64] (OM N3 bs) (N1 (x:Int))))/\((0:Int)<=(x:Int)/\(OM intD t)[N1 (x:Int)]? = some (Ua t x))/\(OJ (bG env x bs t)=OJ (ld env x bs t)/\3=3/\FA (ld env x bs t) [NY [.str (MJ (Nz (z1 (OM N3 bs) (N1 (x:Int)) 0) default)),.int .i64 (NO (Nz (z1 (OM N3 bs) (N1 (x:Int)) (0+1)) default)),Ua t x]] (nat_lit 3) (nat_lit 32))/\∃(y:Nat),y<=OJ bs/\OJ bs - y<OJ bs - x/\(ld env x bs t++UZ t x bs=ld env y bs t/\OM intD t=OM intD t/\OM N3 bs=OM N3 bs/\(↑(OJ (OM N3 bs)):Int)=(↑(OJ (OM N3 bs)):Int)/\Nl .i64 ((x:Int)+1)=(y:Int)/\OG)/\OJ (ld env x bs t)+OJ (UZ t x bs)=OJ (bG env y bs t)/\OG)/\(decide ((x:Int)<(↑(OJ (OM N3 bs)):Int))=false->[OE (ld env x bs t)]=[OE (OM NM (env++yR bs t))]))
 ·kernel_rfl
 delta ld bG Ua UZ;have hE:∀(l:ON Ev) (e:Ev),l.length<2199023255553->FA (l.map NM) [e.d] 3 32:=λl e h=>by have:=bW (l++[e]);unfold xW at this;refine⟨by simpa using this,by simp;omega⟩
 have hEl:∀x,(yR (bs.take x) t).length<=bs.length:=λx=>by unfold yR;simp;omega
 refine(Q3 env hl).mono ?_;rintro _ rfl;refine⟨0,by omega,⟨⟨by simp[yR],rfl,rfl,rfl,rfl,trivial⟩,by simp[yR],trivial⟩,λx hx=>⟨λhlt=>?_,λhge=>?_⟩⟩
 ·simp only[Nv,NR]at hlt;obtain⟨b,hbx,hm⟩:=zt (l:=bs) (x:=x) (by omega);obtain⟨v,hv,_⟩:=zt (l:=t) (x:=x) (by omega);have ei (n:Int):NO (Nz (some (OH .i64 n)) default)=n:=rfl;have es (n:Nm):MJ (Nz (some (NZ n)) default)=n:=rfl;have hg:0<=(x:Int)/\(OM N3 bs)[x]? = some b.d:=⟨by omega,by rw[M6,hbx];rfl⟩;rw[M1];dsimp only;rw[tt hbx,rp hbx,tW hbx,xe hv,ei,ei,es];have hlen:=hEl x;refine⟨hg,⟨by omega,uG hv⟩,⟨by simp,rfl,hE _ ⟨b.name,b.sort,v⟩ (by simp;omega)⟩,x+1,by omega,by omega,⟨?_,rfl,rfl,rfl,by rw[zu (by omega) (by omega)];rfl,trivial⟩,?_,trivial⟩
  ·rw[bS hbx hv,←ON.append_assoc,Lq (l₂:=[_])];rfl
  ·rw[bS hbx hv];simp;omega
 ·simp only[Nv,M2]at hge;rw[MY (by omega)]
def uf (a:Sc) (b:Nat) (c:ON Bd):ON D:=OM intD (zP a (NW b c))
def ue (a:Sc):Prop:=OM Nx (Ni a)=OM Nx (Ni a)/\OM N6 (Nh a)=OM N6 (Nh a)/\OM N9 (Nd a)=OM N9 (Nd a)/\OM Ny (Nb a)=OM Ny (Nb a)/\OM N8 (Nj a)=OM N8 (Nj a)/\OG
theorem h134 (s:Sc) (bs:ON Bd) (hs:s.Fits) (hb:bs.length<1099511627776):OB Tryz.prog G 134 [s.d,.sl (bs.map N3)] (· = [vl (zP s bs)]):=by
 have h158:=λk=>h158 (G:=G) s k hs;rw[zf]at *;unfold vl;refine zr (LL [(3,zT (α:=Nat) Tryz.prog G L0 0 (zz (z6 Tryz.f134) 0) [2,8,9] (λx=>x<=bs.length) (λx=>bs.length - x) (λx=>[(5,.vec 1 ((zP s (bs.take x)).map intD)),(10,.d (.int .i64 x))]) (λH x=>[H.getD 0 .dead,.vec x 1]))]) Tryz.func134 ⟨_,rfl⟩ (zm zy) ?_;apply @z7 _ (∃(x0:Nat),x0<=OJ bs/\((N5 0 0=N5 0 0/\([]=uf s x0 bs/\OJ ([]:ON D)<=x0)/\OM N3 bs=OM N3 bs/\(↑(OJ (OM N3 bs)):Int)=(↑(OJ (OM N3 bs)):Int)/\(0:Int)=(x0:Int)/\OG)/\ue s/\OG)/\∀(x:Nat),x<=OJ bs->(decide ((x:Int)<(↑(OJ (OM N3 bs)):Int))=true->((0:Int)<=(x:Int)/\(OM N3 bs)[N1 (x:Int)]? = some (zk [NC,NP .i64] (OM N3 bs) (N1 (x:Int))))/\OB Tryz.prog G 158 [NY [.sl (OM Nx (Ni s)),.sl (OM N6 (Nh s)),.sl (OM N9 (Nd s)),.sl (OM Ny (Nb s)),.sl (OM N8 (Nj s))],.int .i64 (NO (Nz (z1 (OM N3 bs) (N1 (x:Int)) (0+1)) default))] λ(rs:ON D)=>∃(n:Int),rs=[OH .i64 n]/\(x=OJ (uf s x bs)/\1=1/\FA (uf s x bs) [OH .i64 n] (nat_lit 1) (nat_lit 8))/\∃(y:Nat),y<=OJ bs/\OJ bs - y<OJ bs - x/\(N5 0 0=N5 0 0/\uf s x bs++Mx [aZ false [OH .i64 n]]=uf s y bs/\OM N3 bs=OM N3 bs/\(↑(OJ (OM N3 bs)):Int)=(↑(OJ (OM N3 bs)):Int)/\Nl .i64 ((x:Int)+1)=(y:Int)/\OG)/\ue s/\OJ (uf s x bs)+OJ (Mx [aZ false [OH .i64 n]])=y/\OG)/\(decide ((x:Int)<(↑(OJ (OM N3 bs)):Int))=false->[OE (uf s x bs)]=[OE (OM intD (zP s bs))]))
 ·kernel_rfl
 delta uf ue;refine⟨0,by omega,⟨⟨rfl,⟨by simp[zP],by simp⟩,rfl,rfl,rfl,trivial⟩,⟨rfl,rfl,rfl,rfl,rfl,trivial⟩,trivial⟩,λx hx=>⟨λhlt=>?_,λhge=>?_⟩⟩
 ·simp only[Nv,NR]at hlt;obtain⟨z,hz,hm⟩:=zt (l:=bs) (x:=x) (by omega);have ei (n:Int):NO (Nz (some (OH .i64 n)) default)=n:=rfl;rw[M1,tt hz,tW hz,ei];have hl0:(zP s (bs.take x)).length=x:=by rw[uv,Kr];omega
  refine⟨⟨by omega,by rw[M6,hz];rfl⟩,(h158 z.sort).use ⟨_,rfl,⟨by rw[Nv,hl0],rfl,TC _ _ (by rw[hl0];omega)⟩,x+1,by omega,by omega,⟨rfl,?_,rfl,rfl,by rw[zu (by omega) (by omega)];rfl,trivial⟩,⟨rfl,rfl,rfl,rfl,rfl,trivial⟩,?_,trivial⟩⟩
  ·rw[ZX s hz,Lq];rfl
  ·rw[Nv,hl0];rfl
 ·simp only[Nv,M2]at hge;rw[MY (by omega)]
def ZW (a:ON D) (b:Nat):D:=OH .i64 (NO (Nz (z1 a (N1 (b:Int)) 0) default))
theorem h116 (s:Sc) (bs:ON Bd) (hs:s.Fits) (hb:bs.length<1099511627776):OB Tryz.prog G 116 [s.d,.sl (bs.map N3)] (· = [.int .i64 (zV 1048577 s bs)]):=by
 have h134:=h134 (G:=G) s bs hs hb;rw[zf]at *;refine zr (LL [(3,zT (α:=Nat) Tryz.prog G L0 0 (zz (z6 Tryz.f116) 0) [10,11] (λx=>x<=bs.length) (λx=>bs.length - x) (λx=>[(5,.d (.int .i64 (zV 1048577 s (bs.take x)))),(12,.d (.int .i64 x))]) (λH _=>H))]) Tryz.func116 ⟨_,rfl⟩ (zm zy) ?_;apply @z7 _ (OB Tryz.prog G 134 [NY [.sl (OM Nx (Ni s)),.sl (OM N6 (Nh s)),.sl (OM N9 (Nd s)),.sl (OM Ny (Nb s)),.sl (OM N8 (Nj s))],.sl (OM N3 bs)] λ(rs:ON D)=>∃(l:ON D),rs=[OE l]/\∃(x0:Nat),x0<=OJ bs/\((1=zV 1048577 s (NW x0 bs)/\l=l/\(↑(OJ l):Int)=(↑(OJ l):Int)/\(0:Int)=(x0:Int)/\OG)/\ue s/\OG)/\∀(x:Nat),x<=OJ bs->(decide ((x:Int)<(↑(OJ l):Int))=true->((0:Int)<=(x:Int)/\l[N1 (x:Int)]? = some (ZW l x))/\OB Tryz.prog G 133 [OH .i64 (zV 1048577 s (NW x bs)),ZW l x] λ(rs:ON D)=>∃(n:Int),rs=[OH .i64 n]/\∃(y:Nat),y<=OJ bs/\OJ bs - y<OJ bs - x/\(n=zV 1048577 s (NW y bs)/\l=l/\(↑(OJ l):Int)=(↑(OJ l):Int)/\Nl .i64 ((x:Int)+1)=(y:Int)/\OG)/\ue s/\OG)/\(decide ((x:Int)<(↑(OJ l):Int))=false->[OH .i64 (zV 1048577 s (NW x bs))]=[OH .i64 (zV 1048577 s bs)]))
 ·kernel_rfl
 delta ue uf ZW;refine h134.use ⟨_,rfl,0,by omega,⟨⟨rfl,rfl,rfl,rfl,trivial⟩,⟨rfl,rfl,rfl,rfl,rfl,trivial⟩,trivial⟩,λx hx=>⟨λhlt=>?_,λhge=>?_⟩⟩
 ·simp only[Nv,uv,NR]at hlt;obtain⟨z,hz,hm⟩:=zt (l:=bs) (x:=x) (by omega);have hz':(zP s bs)[x]? = some (zY s z.sort):=by unfold zP;rw[M6,hz];rfl
  have ei (n:Int):NO (Nz (some (OH .i64 n)) default)=n:=rfl;rw[M1,xe hz',ei];refine⟨⟨by omega,uG hz'⟩,(SO _ _).use ⟨_,rfl,x+1,by omega,by omega,⟨?_,rfl,rfl,by rw[zu (by omega) (by omega)];rfl,trivial⟩,⟨rfl,rfl,rfl,rfl,rfl,trivial⟩,trivial⟩⟩;have hb1:=yd hs (c:=1048577) (by decide) (bs.take x);have hc:=tV hs z.sort;have hw:=tU hb1.1 (by omega) hc.1 hc.2;rw[mb 1048577 s hz,hw.1]
 ·simp only[Nv,uv,M2]at hge;rw[MY (by omega)]
def iz (a:Nat×Int) (b:Fm) (c:Sc):Prop:=N7 a<=OJ (Nt b)/\Fm.broadsP c (Lx (N7 a) (Nt b)) (NV a)=Fm.broadsP c (Nt b) 0/\0<=NV a/\NV a<=1048577
def iw (a:Fm):Prop:=OM NX (Nt a)=OM NX (Nt a)
def rE (a:Fm):Int:=(↑(OJ (OM NX (Nt a))):Int)
def eH (a:Sc) (b:Fm):Prop:=ue a/\(NU b=NU b/\NG b=NG b/\NA b=NA b/\OM Nc (NH b)=OM Nc (NH b)/\OM N3 (NJ b)=OM N3 (NJ b)/\iw b/\OG)/\OG
def eG (a:Fm) (b:Nat×Int):D:=zk [NP .i64,NC,NP .i64,NB,NB,NB] (OM NX (Nt a)) (N1 (↑(N7 b):Int))
def mV (a:Sc):D:=NY [.sl (OM Nx (Ni a)),.sl (OM N6 (Nh a)),.sl (OM N9 (Nd a)),.sl (OM Ny (Nb a)),.sl (OM N8 (Nj a))]
def rD (a:ON D) (b:Int):Prop:=a=[OH .i64 b]
theorem h121 (s:Sc) (f:Fm) (hs:s.Fits) (hf:f.wt<1099511627776):OB Tryz.prog G 121 [s.d,f.d] (· = [.int .i64 (f.broadP s)]):=by
 induction f using KY with
 |h f ih =>
 have hwt:=f.wt_eq;have hwl:=oI f.l;have h116:=h116 (G:=G) s f.bs hs (by omega);rw[zf]at *;rw[yK f];refine zr (LL [(3,zT (α:=Nat×Int) Tryz.prog G L0 0 (zz (z6 Tryz.f121) 0) [2,3,9,10] (λx=>x.1<=f.l.length/\Fm.broadsP s (f.l.drop x.1) x.2=Fm.broadsP s f.l 0/\0<=x.2/\x.2<=1048577) (λx=>f.l.length - x.1) (λx=>[(5,.d (.int .i64 x.2)),(11,.d (.int .i64 x.1))]) (λH _=>H))]) Tryz.func121 ⟨_,rfl⟩ (zm zy) ?_;apply @z7 _ (∃(x0:Nat×Int),iz x0 f s/\((N5 0 0=N5 0 0/\N5 1 0=N5 1 0/\0=NV x0/\iw f/\rE f=rE f/\(0:Int)=(↑(N7 x0):Int)/\OG)/\eH s f)/\∀(x:Nat×Int),iz x f s->(decide ((↑(N7 x):Int)<rE f)=true->((0:Int)<=(↑(N7 x):Int)/\(OM NX (Nt f))[N1 (↑(N7 x):Int)]? = some (eG f x))/\OB Tryz.prog G 121 [mV s,eG f x] λ(rs:ON D)=>∃(n:Int),rD rs n/\∃(y:Nat×Int),iz y f s/\OJ (Nt f) - N7 y<OJ (Nt f) - N7 x/\(N5 0 0=N5 0 0/\N5 1 0=N5 1 0/\(if 1048577<Nl .i64 (NV x+n)then 1048577 else Nl .i64 (NV x+n))=NV y/\iw f/\rE f=rE f/\Nl .i64 ((↑(N7 x):Int)+1)=(↑(N7 y):Int)/\OG)/\eH s f)/\(decide ((↑(N7 x):Int)<rE f)=false->OB Tryz.prog G 116 [mV s,.sl (OM N3 (NJ f))] λ(rs:ON D)=>∃(n:Int),rD rs n/\OB Tryz.prog G 133 [OH .i64 (NV x),.int .i64 n] λ(rs:ON D)=>∃(n:Int),rD rs n/\[OH .i64 (if 1048577<Nl .i64 (n+1)then 1048577 else Nl .i64 (n+1))]=[OH .i64 (Fm.broadP s f)]))
 ·kernel_rfl
 delta iz iw rE eH ue uf eG mV rD;refine⟨(0,0),⟨L6 _,rfl,by decide,by decide⟩,⟨⟨rfl,rfl,rfl,rfl,rfl,rfl,trivial⟩,⟨rfl,rfl,rfl,rfl,rfl,trivial⟩,⟨rfl,rfl,rfl,rfl,rfl,rfl,trivial⟩,trivial⟩,λx hx=>⟨λhlt=>?_,λhge=>?_⟩⟩
 ·simp only[Nv,NR]at hlt;obtain⟨z,hz,hm⟩:=zt (l:=f.l) (x:=x.1) (by omega);have hzw:=Fm.wt_lt hm;obtain⟨i1,i2,i3,i4⟩:=hx;rw[M1,uk hz];have hb:=f6 hs z;have hcap:=y5 (c:=1048577) (x:=x.2+z.broadP s) (by decide) (by omega);refine⟨⟨by omega,by rw[M6,hz];rfl⟩,(ih z hm (by omega)).use ⟨_,rfl,(x.1+1,zI 1048577 (x.2+z.broadP s)),⟨by show x.1+1<=_;omega,?_,hcap.1,hcap.2⟩,by show _ - (x.1+1)<_;omega,⟨rfl,rfl,?_,rfl,rfl,by rw[zu (by omega) (by omega)];rfl,trivial⟩,⟨rfl,rfl,rfl,rfl,rfl,trivial⟩,⟨rfl,rfl,rfl,rfl,rfl,rfl,trivial⟩,trivial⟩⟩
  ·rw[←i2,yZ hz,Fm.broadsP]
  ·rw[zu (by omega) (by omega)];rfl
 ·simp only[Nv,M2]at hge;obtain⟨i1,i2,i3,i4⟩:=hx;rw[Ls (by omega),Fm.broadsP]at i2;have hmb:=yd hs (c:=1048577) (by decide) f.bs;have hwm:=tU i3 (by omega) hmb.1 (by omega);have hcap:=y5 (c:=1048577) (x:=x.2*zV 1048577 s f.bs) (by decide) hwm.2;refine h116.use ⟨_,rfl,(SO _ _).use ⟨_,rfl,?_⟩⟩;rw[hwm.1,zu (by omega) (by omega),Fm.broadP_eq,←i2];rfl
def X5 (a:Nat×Int×Int) (b:ON Ru) (c:Sc):Prop:=N7 a<=OJ b/\xA c (Lx (N7 a) b) (N7 (NV a)) (NV (NV a))=xA c b 0 0/\0<=N7 (NV a)/\N7 (NV a)<=(1048577:Int)*(↑(N7 a):Int)/\0<=NV (NV a)/\NV (NV a)<=1048577
def pb (a:Nat×Int×Int):Nat:=N1 (↑(N7 a):Int)
theorem h85 (s:Sc) (l:ON Ru) (hs:s.Fits) (hl:l.length<1099511627776) (hw:rwts l<1099511627776):OB Tryz.prog G 85 [s.d,.sl (l.map Na)] (· = [.bool (xA s l 0 0)]):=by
 have h116:=λbs h=>h116 (G:=G) s bs hs h;have h121:=λf h=>h121 (G:=G) s f hs h;rw[zf]at *;refine zr (LL [(3,zT (α:=Nat×Int×Int) Tryz.prog G L0 0 (zz (z6 Tryz.f85) 0) [2,10,11] (λx=>x.1<=l.length/\xA s (l.drop x.1) x.2.1 x.2.2=xA s l 0 0/\0<=x.2.1/\x.2.1<=1048577*x.1/\0<=x.2.2/\x.2.2<=1048577) (λx=>l.length - x.1) (λx=>[(5,.d (.int .i64 x.2.1)),(6,.d (.int .i64 x.2.2)),(12,.d (.int .i64 x.1))]) (λH _=>H))]) Tryz.func85 ⟨_,rfl⟩ (zm zy) ?_;apply @z7 _ (∃(x0:Nat×Int×Int),X5 x0 l s/\((N5 0 0=N5 0 0/\0=N7 (NV x0)/\0=NV (NV x0)/\OM Na l=OM Na l/\(↑(OJ (OM Na l)):Int)=(↑(OJ (OM Na l)):Int)/\(0:Int)=(↑(N7 x0):Int)/\OG)/\ue s/\OG)/\∀(x:Nat×Int×Int),X5 x l s->(decide ((↑(N7 x):Int)<(↑(OJ (OM Na l)):Int))=true->((0:Int)<=(↑(N7 x):Int)/\(OM Na l)[pb x]? = some (zk [NC,Jy,NP .i64,NB,NP .i64,NC,NP .i64,NB,NB,NB] (OM Na l) (pb x)))/\OB Tryz.prog G 116 [mV s,.sl (MT (Nz (z1 (OM Na l) (pb x) (0+1+1+1)) default))] λ(rs:ON D)=>∃(n:Int),rD rs n/\OB Tryz.prog G 121 [mV s,.agg [.int .i64 (NO (Nz (z1 (OM Na l) (pb x) (0+1+1+1+1)) default)),.str (MJ (Nz (z1 (OM Na l) (pb x) (0+1+1+1+1+1)) default)),.int .i64 (NO (Nz (z1 (OM Na l) (pb x) (0+1+1+1+1+1+1)) default)),.sl (MT (Nz (z1 (OM Na l) (pb x) (0+1+1+1+1+1+1+1)) default)),.sl (MT (Nz (z1 (OM Na l) (pb x) (0+1+1+1+1+1+1+1+1)) default)),.sl (MT (Nz (z1 (OM Na l) (pb x) (0+1+1+1+1+1+1+1+1+1)) default))]] λ(rs:ON D)=>∃(n_1:Int),rD rs n_1/\OB Tryz.prog G 133 [OH .i64 n,.int .i64 n_1] λ(rs:ON D)=>∃(n_2:Int),rD rs n_2/\∃(y:Nat×Int×Int),X5 y l s/\OJ l - N7 y<OJ l - N7 x/\(N5 0 0=N5 0 0/\Nl .i64 (N7 (NV x)+n)=N7 (NV y)/\(if 1048577<Nl .i64 (NV (NV x)+n_2)then 1048577 else Nl .i64 (NV (NV x)+n_2))=NV (NV y)/\OM Na l=OM Na l/\(↑(OJ (OM Na l)):Int)=(↑(OJ (OM Na l)):Int)/\Nl .i64 ((↑(N7 x):Int)+1)=(↑(N7 y):Int)/\OG)/\ue s/\OG)/\(decide ((↑(N7 x):Int)<(↑(OJ (OM Na l)):Int))=false->[OD (bif decide (N7 (NV x)>4096)then true else decide (NV (NV x)>1048576))]=[OD (xA s l 0 0)]))
 ·kernel_rfl
 delta X5 ue uf pb mV iz iw rE eH eG rD;refine⟨(0,0,0),⟨L6 _,rfl,by decide,by decide,by decide,by decide⟩,⟨⟨rfl,rfl,rfl,rfl,rfl,rfl,trivial⟩,⟨rfl,rfl,rfl,rfl,rfl,trivial⟩,trivial⟩,λx hx=>⟨λhlt=>?_,λhge=>?_⟩⟩
 ·simp only[Nv,NR]at hlt;obtain⟨z,hz,hm⟩:=zt (l:=l) (x:=x.1) (by omega);obtain⟨i1,i2,i3,i4,i5,i6⟩:=hx;have hzw:=rwts_mem hm;have hzw2:z.wt=z.name.length+ml z.each+z.body.wt:=rfl;have hew:z.each.length<=ml z.each:=by unfold ml;omega
  have ei (n:Int):NO (Nz (some (OH .i64 n)) default)=n:=rfl;have es (n:Nm):MJ (Nz (some (NZ n)) default)=n:=rfl;have el (l:ON D):MT (Nz (some (OE l)) default)=l:=rfl;rw[M1,mj hz,rZ hz,rY hz,rX hz,rW hz,rV hz,rU hz,rT hz,ei,ei,es,el,el,el,el];have hg:0<=(x.1:Int)/\(OM Na l)[x.1]? = some z.d:=⟨by omega,by rw[M6,hz];rfl⟩;have hmb:=yd hs (c:=1048577) (by decide) z.each;have hbb:=f6 hs z.body;have h121z:=h121 z.body (by omega);rw[yK z.body]at h121z;have hwm:=tU hmb.1 (by omega) hbb.1 (by omega);have hcm:=y5 (c:=1048577) (x:=zV 1048577 s z.each*z.body.broadP s) (by decide) hwm.2;have hcb:=y5 (c:=1048577) (x:=x.2.2+zI 1048577 (zV 1048577 s z.each*z.body.broadP s)) (by decide) (by omega);have i2':=i2;rw[yZ hz,xA]at i2';refine⟨hg,(h116 z.each (by omega)).use ⟨_,rfl,h121z.use ⟨_,rfl,(SO _ _).use ⟨_,rfl,(x.1+1,x.2.1+zV 1048577 s z.each,zI 1048577 (x.2.2+zI 1048577 (zV 1048577 s z.each*z.body.broadP s))),⟨by show x.1+1<=_;omega,i2',by show 0<=x.2.1+_;omega,by show x.2.1+_<=1048577*((x.1+1:Nat):Int);omega,hcb.1,hcb.2⟩,by show _ - (x.1+1)<_;omega,⟨rfl,?_,?_,rfl,rfl,by rw[zu (by omega) (by omega)];rfl,trivial⟩,⟨rfl,rfl,rfl,rfl,rfl,trivial⟩,trivial⟩⟩⟩⟩
  ·rw[zu (by omega) (by omega)]
  ·rw[hwm.1,zu (by omega) (by omega)];rfl
 ·simp only[Nv,M2]at hge;obtain⟨i1,i2,i3⟩:=hx;rw[Ls (by omega),xA]at i2;rw[←i2,yi]
end
end
end Go.Fo
open Go.Fo.Fm renaming broadsP->K9
namespace Go.Fo
open Go Go.Sx
theorem qa {c C x:Int}(h:c<=C):zI c (zI C x)=zI c x:=by unfold zI;split<;>split<;>(try split)<;>omega
theorem qZ {c a b:Int}(hb:0<=b):zI c (zI c a+b)=zI c (a+b):=by unfold zI;split<;>split<;>(try split)<;>omega
theorem bF {c a b:Int}(ha:0<=a) (hb:0<=b) (hc:0<=c):zI c (a+zI c b)=zI c (a+b):=by unfold zI;split<;>split<;>(try split)<;>omega
theorem UY {c C a b:Int}(h:c<=C) (hb:0<=b):zI c (zI C a+b)=zI c (a+b):=by unfold zI;split<;>split<;>(try split)<;>omega
theorem eF {c a b:Int}(hc:1<=c) (hb:0<=b):zI c (zI c a*b)=zI c (a*b):=by
 unfold zI;by_cases h:c<a
 ·rw[Nf h];rcases IV hb with h1|h1
  ·have h2:c*1<=c*b:=HG (by omega) (by omega);have h3:a*1<=a*b:=HG (by omega) (by omega);split<;>split<;>omega
  ·rw[←h1,EY,EY]
 ·rw[N2 h]
theorem bE {c a b:Int}(hc:1<=c) (ha:0<=a):zI c (a*zI c b)=zI c (a*b):=by rw[EV,eF hc ha,EV]
theorem UX (s:Sc) (k:Int):0<=zY s k:=by unfold zY;omega
theorem bD (s:Sc) (bs:ON Bd):zV 1048577 s bs=zI 1048577 (zV 2097152 s bs):=by
 unfold zV;have key:∀(bs:ON Bd) (n:Int),bs.foldl (λn b=>zI 1048577 (n*zY s b.sort)) (zI 1048577 n)=zI 1048577 (bs.foldl (λn b=>zI 2097152 (n*zY s b.sort)) n):=by
  intro bs;induction bs with
  |nil=>intro n;rfl
  |cons b r ih =>
   intro n;rw[It,It,eF (by decide) (UX s b.sort),←ih,qa (by decide)]
 exact key bs 1
theorem iv {s:Sc}(hs:s.Fits):∀(l:ON Fm) (n:Int),0<=n->(∀x∈l,x.broadP s=zI 1048577 (x.broad 2097152 s))->K9 s l (zI 1048577 n)=zI 1048577 (MC 2097152 s l n)
 |[],n,_,_=>by rw[K9,MC]
 |x::r,n,hn,h=>by have hx:=xM hs (c:=2097152) (by decide) x;rw[K9,MC,h x (by simp),bF (y5 (by decide) hn).1 hx.1 (by decide),qZ hx.1];have:=iv hs r (zI 2097152 (n+x.broad 2097152 s)) (y5 (by decide) (by omega)).1 λy hy=>h y (by simp[hy]);rw[←this,qa (by decide)]
theorem Ws {s:Sc}(hs:s.Fits) (f:Fm):f.formB=true->f.broadP s=zI 1048577 (f.broad 2097152 s):=by
 induction f using KY with
 |h f ih =>
 intro hf;have hsh:=uK hf;have hsub:∀x∈f.l,x.formB=true:=by
  cases hsh with
  |const k hk=>intro x hx;cases hx
  |atom k a b hk=>intro x hx;cases hx
  |cmp sg a b=>intro x hx;cases hx
  |not x hx=>intro y hy;simp[Nt]at hy;subst hy;exact hx
  |two k x y hk hx hy=>intro z hz;simp[Nt]at hz;rcases hz with rfl|rfl<;>assumption
  |quant k bs x hk hb h1 h6 hx=>intro y hy;simp[Nt]at hy;subst hy;exact hx
  |count k n bs x hk h0 hn hb h1 h6 hx=>intro y hy;simp[Nt]at hy;subst hy;exact hx
 have hB:=iv hs f.l 0 (by decide) λx hx=>ih x hx (hsub x hx);have hBb:=gG hs (c:=2097152) (by decide) f.l 0 (by decide) (by decide);have hMb:=yd hs (c:=2097152) (by decide) f.bs;have e0:zI 1048577 0=0:=by decide
 rw[e0]at hB;rw[Fm.broadP_eq,Fm.broad_eq,hB,bD,qa (by decide)];have hnn:=JX hBb.1 hMb.1;rw[eF (by decide) (y5 (by decide) hMb.1).1,bE (by decide) hBb.1,qZ (by decide)];by_cases hk:f.kind>=14
 ·rw[Nf hk,UY (by decide) (by decide)]
 ·rw[N2 hk];have hbs:f.bs=[]:=by
   cases hsh with
   |const k hk=>rfl
   |atom k a b hk=>rfl
   |cmp sg a b=>rfl
   |not x hx=>rfl
   |two k x y hk hx hy=>rfl
   |quant k bs x hk' hb h1 h6 hx=>exact No (show k>=14 by omega) hk
   |count k n bs x hk' h0 hn hb h1 h6 hx=>exact No (show k>=14 by omega) hk
  rw[hbs];show zI 1048577 (MC 2097152 s f.l 0*1+1)=_;rw[Int.mul_one]
theorem iu {s:Sc}(hs:s.Fits):∀(l:ON Ru) (n b:Int),4096<n->xA s l n b=true
 |[],n,b,h=>by rw[xA];simp[h]
 |r::q,n,b,h=>by rw[xA];have:=yd hs (c:=1048577) (by decide) r.each;exact iu hs q _ _ (by omega)
theorem bC {s:Sc}(hs:s.Fits):∀(l:ON Ru) (n b n' b':Int),(∀r∈l,r.body.formB=true)->0<=n->0<=n'->0<=b->0<=b'->zI 4097 n=zI 4097 n'->zI 1048577 b=zI 1048577 b'->xA s l n b=xf s l n' b'
 |[],n,b,n',b',_,_,_,_,_,h1,h2=>by
  rw[xA,xf];have e1:decide (n>4096)=decide (n'>4096):=by rw[MG,NR,NR];unfold zI at h1;split at h1<;>split at h1<;>omega
  have e2:decide (b>1048576)=decide (b'>1048576):=by rw[MG,NR,NR];unfold zI at h2;split at h2<;>split at h2<;>omega
  rw[e1,e2]
 |r::q,n,b,n',b',hl,g1,g2,g3,g4,h1,h2=>by
  rw[xA,xf];have hm:=yd hs (c:=2097152) (by decide) r.each;have hbr:=xM hs (c:=2097152) (by decide) r.body;have hbc:=Ws hs r.body (hl r (by simp));have hmc:=bD s r.each;generalize hM:zV 2097152 s r.each=M at *;generalize hMp:zV 1048577 s r.each=Mp at *;generalize hBr:r.body.broad 2097152 s=Br at *;by_cases hbig:M>4096
  ·rw[Nf hbig];refine iu hs q _ _ ?_;have:Mp>4096:=by rw[hmc];unfold zI;split<;>omega
   omega
  ·rw[N2 hbig];have hMe:Mp=M:=by rw[hmc];unfold zI;split<;>omega
   rw[hMe,hbc];have hp:=JX hm.1 hbr.1;have hq:=(y5 (c:=1048577) (by decide) hp);refine bC hs q _ _ _ _ (λx hx=>hl x (by simp[hx])) (by omega) (y5 (by decide) (by omega)).1 (y5 (by decide) (by have:=(y5 (c:=1048577) (x:=M*zI 1048577 Br) (by decide) (JX hm.1 (y5 (by decide) hbr.1).1)).1;omega)).1 (y5 (by decide) (by omega)).1 ?_ ?_
   ·rw[qa (by decide),←qZ hm.1,h1,qZ hm.1]
   ·rw[qa (by decide),bE (by decide) hm.1,bF g3 hp (by decide),qa (by decide),←qZ hp,h2,qZ hp]
theorem bB {s:Sc}{l:ON Ru}(hs:s.Fits) (h:(wp l).2=0):xA s l 0 0=xf s l 0 0 :=bC hs l 0 0 0 0 (λr hr=>(Sn (rules_ok l [] 0 h r hr)).1) (by decide) (by decide) (by decide) (by decide) rfl rfl
theorem sx {c:Nat}(hc:0<c):∀(l:ON (ON Int)) (i:Nat),(l.flatMap (md c))[i]? = (l[i / c]?).map λt=>t++[((i % c:Nat):Int)]
 |[],i=>by simp
 |t::r,i=>by
  rw[ON.flatMap_cons];rcases M0 i c with h|h
  ·rw[ON.getElem?_append_left (by rw[nv];exact h),Hn h,G6 h];unfold md;rw[M6,ON.getElem?_range h];rfl
  ·rw[ON.getElem?_append_right (by rw[nv];exact h),nv,sx hc r (i - c)];obtain⟨j,rfl⟩:∃j,i=j+c:=⟨i - c,by omega⟩;rw[IX,DE _ hc,Nat.add_mod_right];rfl
def cN (s:Sc) (b:Bd):Nat:=(zh s b.sort).length
def pa (s:Sc):ON Bd->Nat
 |[]=>1
 |b::r=>cN s b*pa s r
theorem is {s:Sc}{bs:ON Bd}{x:Nat}{b:Bd}(h:bs[x]? = some b) (hc:0<cN s b) (i:Nat):(zb s (bs.take (x+1)))[i]? = ((zb s (bs.take x))[i / cN s b]?).map λt=>t++[((i % cN s b:Nat):Int)]:=by rw[rK s h];exact sx hc _ i
theorem kr {s:Sc}{bs:ON Bd}{x:Nat}{b:Bd}(h:bs[x]? = some b):pa s (bs.drop x)=cN s b*pa s (bs.drop (x+1)):=by rw[yZ h,pa]
theorem mU (s:Sc) (bs:ON Bd):∀(d x:Nat),x+d=bs.length->(zb s (bs.take x)).length*pa s (bs.drop x)=(zb s bs).length
 |0,x,h=>by
  have:x=bs.length:=by omega
  subst this;rw[La,E9,pa,IN]
 |d+1,x,h=>by obtain⟨b,hb,_⟩:=zt (l:=bs) (x:=x) (by omega);have ih:=mU s bs d (x+1) (by omega);rw[rK s hb,sp]at ih;rw[kr hb,←ih,Eh];rfl
theorem qY {s:Sc}{bs:ON Bd}(hpos:∀b∈bs,0<cN s b):∀(d x q:Nat),x+d=bs.length->(zb s bs)[q*pa s (bs.drop x)]? = ((zb s (bs.take x))[q]?).map λt=>t++M4 d 0
 |0,x,q,h=>by
  have:x=bs.length:=by omega
  subst this;rw[La,E9,pa,IN];simp
 |d+1,x,q,h=>by obtain⟨b,hb,hm⟩:=zt (l:=bs) (x:=x) (by omega);have hc:=hpos b hm;have ih:=qY hpos d (x+1) (q*cN s b) (by omega);rw[kr hb,←Eh,ih,is hb hc,DK _ hc,Nat.mul_mod_left,OK.map_map];congr 1;funext t;simp[G2]
theorem ir {s:Sc}{bs:ON Bd}{b:Bd}(hb:b∈bs) (hc:cN s b=0):zb s bs=[]:=by
 obtain⟨x,hx,he⟩:=ON.mem_iff_getElem.1 hb;have hx':bs[x]? = some b:=by rw[LR hx,he]
 have h1:=mU s bs (bs.length - x) x (by omega);rw[kr hx',hc,Gq,Nat.mul_zero]at h1;exact Ju h1.symm
def xT (s:Sc) (bs:ON Bd) (x q:Nat):ON Int:=((zb s (bs.take x))[q - 1]?).getD []++M4 (bs.length - x) 0
def yM (s:Sc) (bs:ON Bd) (k:Nat):ON Int:=((zb s bs)[k]?).getD []
theorem qX {s:Sc}{bs:ON Bd}(k:Nat):xT s bs bs.length (k+1)=yM s bs k:=by unfold xT yM;rw[La];simp
theorem qW {s:Sc}{bs:ON Bd}(hpos:∀b∈bs,0<cN s b):yM s bs 0=M4 bs.length 0:=by have:=qY hpos bs.length 0 0 (by omega);rw[Gq]at this;unfold yM;rw[this];rfl
structure Odo (s:Sc) (bs:ON Bd) (k x q:Nat):Prop where
 le:x<=bs.length
 one:1<=q
 num:q*pa s (bs.drop x)=k+1
 lt:q<=(zb s (bs.take x)).length
theorem Odo.start {s:Sc}{bs:ON Bd}{k:Nat}(hk:k<(zb s bs).length):Odo s bs k bs.length (k+1):=by
 refine⟨MS _,by omega,?_,?_⟩
 ·rw[E9,pa,IN]
 ·rw[La];omega
theorem f7 (s:Sc):zb s []=[[]]:=rfl
theorem Odo.split {s:Sc}{bs:ON Bd}{k x q:Nat}(hpos:∀b∈bs,0<cN s b) (h:Odo s bs k (x+1) q):∃(b:Bd) (t:ON Int),bs[x]? = some b/\(zb s (bs.take x))[(q - 1) / cN s b]? = some t/\t.length=x/\xT s bs (x+1) q=t++(((q - 1) % cN s b:Nat):Int)::M4 (bs.length - (x+1)) 0:=by
 obtain⟨b,hb,hm⟩:=zt (l:=bs) (x:=x) (by have:=h.le;omega);have hc:=hpos b hm;have hlt:=h.lt;have h1:=h.one;have hs:=is (s:=s) hb hc (q - 1);have hget:(zb s (bs.take (x+1)))[q - 1]? = some ((zb s (bs.take (x+1)))[q - 1]'(by omega)):=LR (by omega);rw[hget]at hs;cases ht:(zb s (bs.take x))[(q - 1) / cN s b]? with
 |none=>rw[ht]at hs;cases hs
 |some t =>
  rw[ht]at hs;refine⟨b,t,hb,ht,nu s bs x (by have:=h.le;omega) t (MX ht),?_⟩;unfold xT;rw[hget,hs];simp
theorem Odo.carry {s:Sc}{bs:ON Bd}{k x q:Nat}{b:Bd}{t:ON Int}(hpos:∀b∈bs,0<cN s b) (h:Odo s bs k (x+1) q) (hb:bs[x]? = some b) (ht:(zb s (bs.take x))[(q - 1) / cN s b]? = some t) (hd:(q - 1) % cN s b+1=cN s b): Odo s bs k x (q / cN s b)/\xT s bs x (q / cN s b)=t++0::M4 (bs.length - (x+1)) 0:=by
 have hc:=hpos b (MX hb);have h1:=h.one;obtain⟨m,hm⟩:∃m,q=m*cN s b+cN s b:=⟨(q - 1) / cN s b,by have:=Hm (q - 1) (cN s b);rw[JH]at this;omega⟩;have hq:q / cN s b=m+1:=by rw[hm,DE _ hc,DK _ hc]
 have hq1:(q - 1) / cN s b=m:=by
  have e:q - 1=m*cN s b+(cN s b - 1):=by omega
  rw[e,JH,Es hc,Hn (by omega)];rfl
 rw[hq1]at ht;rw[hq];have hle:=h.le;refine⟨⟨by omega,by omega,?_,?_⟩,?_⟩
 ·have hn:=h.num;rw[kr hb,←hn,hm,←Eh,Nat.add_mul,Nat.one_mul]
 ·rcases M0 m (zb s (bs.take x)).length with h' |h'
  ·exact h'
  ·rw[My h']at ht;cases ht
 ·unfold xT;rw[IX,ht];have e:bs.length - x=(bs.length - (x+1))+1:=by omega
  rw[e,G2];rfl
theorem Odo.step {s:Sc}{bs:ON Bd}{k x q:Nat}{b:Bd}{t:ON Int}(hpos:∀b∈bs,0<cN s b) (h:Odo s bs k (x+1) q) (hb:bs[x]? = some b) (ht:(zb s (bs.take x))[(q - 1) / cN s b]? = some t) (hd:¬ (q - 1) % cN s b+1=cN s b):(zb s bs)[k+1]? = some (t++(((q - 1) % cN s b:Nat)+1:Int)::M4 (bs.length - (x+1)) 0):=by
 have hc:=hpos b (MX hb);have h1:=h.one;have hle:=h.le;have hz:=qY hpos (bs.length - (x+1)) (x+1) q (by omega);rw[h.num,is hb hc]at hz;have hm:=IK (q - 1) hc;have hdm:=Hm (q - 1) (cN s b);have e:q=cN s b*((q - 1) / cN s b)+((q - 1) % cN s b+1):=by omega
 have e1:q / cN s b=(q - 1) / cN s b:=by
  conv=>lhs;rw[e]
  have e0:((q - 1) % cN s b+1) / cN s b=0:=Hn (by omega);rw[Es hc,e0];rfl
 have e2:q % cN s b=(q - 1) % cN s b+1:=by
  conv=>lhs;rw[e]
  rw[Er,G6 (by omega)]
 rw[e1,e2,ht]at hz;rw[hz];simp
theorem Odo.last {s:Sc}{bs:ON Bd}{k q:Nat}(h:Odo s bs k 0 q):k+1=(zb s bs).length:=by
 have h2:=h.lt;have h1:=h.one;have h3:=h.num;have ht:=mU s bs bs.length 0 (by omega);rw[K5,f7]at h2 ht;simp only[ON.length_cons,ON.length_nil,ON.drop_zero]at h2 ht h3;have:q=1:=by omega
 rw[this]at h3;omega
end Go.Fo
open Go.Fo renaming Odo->MH
open Go.Fo.Odo renaming last->F9,start->F1
namespace Go.Fo
open Go Go.Sx Go.Proofs
section
variable {G:Nat->OK (ON D)}
theorem Ph (c:Int):OB Tryz.prog G 311 [.int .i64 c] (· = [.bool (c==0)]):=by
 refine zn Tryz.func311 ⟨_,rfl⟩ ?_;apply @z7 _ ([OD (c==0)]=[OD (c==0)])
 ·kernel_rfl
 rfl
theorem Pg (c:Int):OB Tryz.prog G 312 [.int .i64 c] (· = [.bool (c != 0)]):=by
 refine zn Tryz.func312 ⟨_,rfl⟩ ?_;apply @z7 _ ([OD (c != 0)]=[OD (c != 0)])
 ·kernel_rfl
 rfl
theorem Pf (c:Int):OB Tryz.prog G 313 [.int .i64 c] (· = [.bool (decide (c<0))]):=by
 refine zn Tryz.func313 ⟨_,rfl⟩ ?_;apply @z7 _ ([OD (decide (c<0))]=[OD (decide (c<0))])
 ·kernel_rfl
 rfl
theorem Pd (c:Int):OB Tryz.prog G 314 [.int .i64 c] (· = [.bool (decide (c<=0))]):=by
 refine zn Tryz.func314 ⟨_,rfl⟩ ?_;apply @z7 _ ([OD (decide (c<=0))]=[OD (decide (c<=0))])
 ·kernel_rfl
 rfl
theorem Pc (c:Int):OB Tryz.prog G 315 [.int .i64 c] (· = [.bool (decide (c>0))]):=by
 refine zn Tryz.func315 ⟨_,rfl⟩ ?_;apply @z7 _ ([OD (decide (c>0))]=[OD (decide (c>0))])
 ·kernel_rfl
 rfl
theorem Pb (c:Int):OB Tryz.prog G 316 [.int .i64 c] (· = [.bool (decide (c>=0))]):=by
 refine zn Tryz.func316 ⟨_,rfl⟩ ?_;apply @z7 _ ([OD (decide (c>=0))]=[OD (decide (c>=0))])
 ·kernel_rfl
 rfl
theorem Pa (s:Sc) (w:ON Pl) (a b:Int) (h0:0<=a) (h1:a<w.length):OB Tryz.prog G 317 [lC s w,.int .i64 a,.int .i64 b] (· = [.bool ((xE w a).slot==b)]):=by
 unfold lC;refine zn Tryz.func317 ⟨_,rfl⟩ ?_;apply @z7 _ ((0<=a/\(OM Nr w)[N1 a]? = some (zk [NP .i64,NP .i64] (OM Nr w) (N1 a)))/\[OD (NO (Nz (z1 (OM Nr w) (N1 a) 0) default)==b)]=[OD (Pl.slot (xE w a)==b)])
 ·kernel_rfl
 obtain⟨z,hz,_⟩:=zt (l:=w) (x:=a.toNat) (by omega);have ei (n:Int):NO (Nz (some (OH .i64 n)) default)=n:=rfl;have e:xE w a=z:=by unfold xE;rw[hz];rfl
 rw[e,pG hz,vW hz,ei];exact⟨⟨h0,pF hz⟩,rfl⟩
theorem PZ (s:Sc) (w:ON Pl) (a b:Int) (h0:0<=a) (h1:a<w.length):OB Tryz.prog G 318 [lC s w,.int .i64 a,.int .i64 b] (· = [.bool ((xE w a).room==b)]):=by
 unfold lC;refine zn Tryz.func318 ⟨_,rfl⟩ ?_;apply @z7 _ ((0<=a/\(OM Nr w)[N1 a]? = some (zk [NP .i64,NP .i64] (OM Nr w) (N1 a)))/\[OD (NO (Nz (z1 (OM Nr w) (N1 a) (0+1)) default)==b)]=[OD (Pl.room (xE w a)==b)])
 ·kernel_rfl
 obtain⟨z,hz,_⟩:=zt (l:=w) (x:=a.toNat) (by omega);have ei (n:Int):NO (Nz (some (OH .i64 n)) default)=n:=rfl;have e:xE w a=z:=by unfold xE;rw[hz];rfl
 rw[e,pG hz,vV hz,ei];exact⟨⟨h0,pF hz⟩,rfl⟩
theorem PY (s:Sc) (w:ON Pl) (a b:Int) (hs:s.Fits):OB Tryz.prog G 319 [lC s w,.int .i64 a,.int .i64 b] (· = [.bool (ya s.lessons (·.who) b a)]):=by
 have hh:=Pw (G:=G) s a b (λx hx=>by have:=hs.who x hx;omega);rw[zf]at hh;unfold lC;refine zn Tryz.func319 ⟨_,rfl⟩ ?_;apply @z7 _ (OB Tryz.prog G 320 [NY [.sl (OM Nx (Ni s)),.sl (OM N6 (Nh s)),.sl (OM N9 (Nd s)),.sl (OM Ny (Nb s)),.sl (OM N8 (Nj s))],.int .i64 a,.int .i64 b] λ(rs:ON D)=>∃(b_1:Bool),rs=[OD b_1]/\[OD b_1]=[OD (ya (Nj s) (λ(x:Le)=>Le.who x) b a)])
 ·kernel_rfl
 exact hh.use ⟨_,rfl,rfl⟩
theorem PX (s:Sc) (w:ON Pl) (a b:Int) (hs:s.Fits):OB Tryz.prog G 321 [lC s w,.int .i64 a,.int .i64 b] (· = [.bool (ya s.lessons (·.groups) b a)]):=by
 have hh:=Pv (G:=G) s a b (λx hx=>by have:=hs.grs x hx;omega);rw[zf]at hh;unfold lC;refine zn Tryz.func321 ⟨_,rfl⟩ ?_;apply @z7 _ (OB Tryz.prog G 322 [NY [.sl (OM Nx (Ni s)),.sl (OM N6 (Nh s)),.sl (OM N9 (Nd s)),.sl (OM Ny (Nb s)),.sl (OM N8 (Nj s))],.int .i64 a,.int .i64 b] λ(rs:ON D)=>∃(b_1:Bool),rs=[OD b_1]/\[OD b_1]=[OD (ya (Nj s) (λ(x:Le)=>F0 x) b a)])
 ·kernel_rfl
 exact hh.use ⟨_,rfl,rfl⟩
theorem PV (s:Sc) (w:ON Pl) (a b:Int) (hs:s.Fits):OB Tryz.prog G 323 [lC s w,.int .i64 a,.int .i64 b] (· = [.bool (ya s.people (·.away) a b)]):=by
 have hh:=Pu (G:=G) s a b (λx hx=>by have:=hs.away x hx;omega);rw[zf]at hh;unfold lC;refine zn Tryz.func323 ⟨_,rfl⟩ ?_;apply @z7 _ (OB Tryz.prog G 324 [NY [.sl (OM Nx (Ni s)),.sl (OM N6 (Nh s)),.sl (OM N9 (Nd s)),.sl (OM Ny (Nb s)),.sl (OM N8 (Nj s))],.int .i64 a,.int .i64 b] λ(rs:ON D)=>∃(b_1:Bool),rs=[OD b_1]/\[OD b_1]=[OD (ya (Nd s) (λ(x:Pe)=>Jh x) a b)])
 ·kernel_rfl
 exact hh.use ⟨_,rfl,rfl⟩
theorem PU (s:Sc) (w:ON Pl) (a b:Int) (hs:s.Fits):OB Tryz.prog G 325 [lC s w,.int .i64 a,.int .i64 b] (· = [.bool (ya s.rooms (·.shut) a b)]):=by
 have hh:=Pt (G:=G) s a b (λx hx=>by have:=hs.shut x hx;omega);rw[zf]at hh;unfold lC;refine zn Tryz.func325 ⟨_,rfl⟩ ?_;apply @z7 _ (OB Tryz.prog G 326 [NY [.sl (OM Nx (Ni s)),.sl (OM N6 (Nh s)),.sl (OM N9 (Nd s)),.sl (OM Ny (Nb s)),.sl (OM N8 (Nj s))],.int .i64 a,.int .i64 b] λ(rs:ON D)=>∃(b_1:Bool),rs=[OD b_1]/\[OD b_1]=[OD (ya (Nh s) (λ(x:Rm)=>Rm.shut x) a b)])
 ·kernel_rfl
 exact hh.use ⟨_,rfl,rfl⟩
end
end Go.Fo
namespace Go.Fo
open Go Go.Sx
theorem tS (l:ON Int) (i:Nat) (v:Int):w8 (l.map intD) i 0 [.int .i64 v]=(l.set i v).map intD:=by
 unfold w8;refine Jc λj=>?_;rw[FR,M6,M6,LQ];by_cases e:i=j
 ·subst e;rcases M0 i l.length with h|h
  ·simp[h,setC,intD]
  ·rw[My h];simp[Nat.not_lt.2 h]
 ·rw[N2 e];cases l[j]? <;> simp[e]
theorem Wr {t r:ON Int}{d:Int}{x:Nat}(h:t.length=x):(t++d::r)[x]? = some d:=by subst h;simp
theorem f8 {t r:ON Int}{d v:Int}{x:Nat}(h:t.length=x):(t++d::r).set x v=t++v::r:=by subst h;simp
theorem kq {s:Sc}{bs:ON Bd}{k x q:Nat}(h:MH s bs k x q):(xT s bs x q).length=bs.length:=by have h1:=h.lt;have h2:=h.one;have h3:=h.le;obtain⟨t,ht,hm⟩:=zt (l:=zb s (bs.take x)) (x:=q - 1) (by omega);have:=nu s bs x h3 t hm;unfold xT;rw[ht];simp;omega
theorem fy {s:Sc}{bs:ON Bd}{x:Nat}{b:Bd}(h:bs[x]? = some b):(zP s bs)[x]? = some ((cN s b:Nat):Int):=by unfold zP;rw[M6,h];rfl
theorem eE {s:Sc}{bs:ON Bd}{k x q:Nat}(hpos:∀b∈bs,0<cN s b) (hsz:∀b∈bs,cN s b<1099511627776) (h:MH s bs k (x+1) q):∃d c:Nat,d<c/\c<1099511627776/\(xT s bs (x+1) q)[x]? = some (d:Int)/\(zP s bs)[x]? = some (c:Int)/\x<bs.length/\(d+1=c->MH s bs k x (q / c)/\(xT s bs (x+1) q).set x 0=xT s bs x (q / c))/\(d+1≠c->k+1<(zb s bs).length/\(xT s bs (x+1) q).set x ((d+1:Nat):Int)=yM s bs (k+1)):=by
 obtain⟨b,t,hb,ht,hl,ho⟩:=h.split hpos;have hm:=MX hb;refine⟨(q - 1) % cN s b,cN s b,IK _ (hpos b hm),hsz b hm,?_,fy hb,by have:=h.le;omega,λhd=>?_,λhd=>?_⟩
 ·rw[ho];exact Wr hl
 ·obtain⟨h1,h2⟩:=h.carry hpos hb ht hd;refine⟨h1,?_⟩;rw[ho,f8 hl,h2]
 ·have hz:=h.step hpos hb ht hd;refine⟨?_,?_⟩
  ·rcases M0 (k+1) (zb s bs).length with h' |h'
   ·exact h'
   ·rw[My h']at hz;cases hz
  ·unfold yM;rw[hz,ho,f8 hl];rfl
theorem nq {s:Sc}{bs:ON Bd}{k:Nat}(h:k<(zb s bs).length):(yM s bs k).length=bs.length/\(zb s bs)[k]? = some (yM s bs k):=by obtain⟨t,ht,hm⟩:=zt (l:=zb s bs) h;unfold yM;rw[ht];exact⟨so hm,rfl⟩
theorem uu {s:Sc}{bs:ON Bd}:(zP s bs).contains 0=true↔ ∃b∈bs,cN s b=0:=by
 unfold zP;rw[Jf,Mj];constructor
 ·rintro⟨b,hb,h⟩;refine⟨b,hb,?_⟩;unfold zY at h;unfold cN;omega
 ·rintro⟨b,hb,h⟩;refine⟨b,hb,?_⟩;unfold cN at h;unfold zY;omega
theorem eD (n:Nat):M4 n (OH .i64 0)=(M4 n (0:Int)).map intD:=by rw[I9];rfl
theorem ko {s:Sc}{bs:ON Bd}(hpos:∀b∈bs,0<cN s b):0<(zb s bs).length:=by
 have:=qY hpos bs.length 0 0 (by omega);rcases I8 (zb s bs).length with h|h
 ·rw[Ju h,K5,f7]at this;cases this
 ·exact h
def nA (c:Nat):Sc:=⟨[],[],M4 c default,[],[]⟩
def bdP:Bd:=⟨[],4⟩
theorem qV (c:Nat):cN (nA c) bdP=c:=by show((M4 c (default:Pe)).map (·.name)).length=c;simp
def oz (n:Nat):ON Bd:=M4 n bdP
def tR (R:Nat) (d:Int):Pl:=⟨((d.toNat / R:Nat):Int),((d.toNat % R:Nat):Int)⟩
theorem TB (c n:Nat):zb (nA c) (oz (n+1))=(zb (nA c) (oz n)).flatMap (md c):=by unfold zb oz;rw[ON.replicate_succ',ON.foldl_append,It,ON.foldl_nil];have:(zh (nA c) bdP.sort).length=c:=qV c;rw[this]
theorem ud (S R:Nat):∀n,xj (uF S R) n=(zb (nA (S*R)) (oz n)).map λt=>t.map (tR R)
 |0=>rfl
 |n+1=>by rw[xj,ud S R n,TB,ON.flatMap_map,ON.map_flatMap];congr 1;funext t;unfold XA uF md;rw[Io,Io];congr 1;funext d;simp[tR]
theorem eC {c:Nat}(hc:0<c) (n:Nat):∀b∈oz n,0<cN (nA c) b:=by intro b hb;have:=Hy hb;rw[this,qV];exact hc
theorem sm (n:Nat):(oz n).length=n:=by simp[oz]
theorem fx (R:Nat):tR R 0=⟨0,0⟩:=by simp[tR]
theorem eB (R n:Nat):(M4 n (0:Int)).map (tR R)=M4 n ⟨0,0⟩:=by rw[I9,fx]
theorem fw (l:ON Pl) (i:Nat) (z:Pl) (v:Int) (h:l[i]? = some z):w8 (l.map Nr) i 1 [.int .i64 v]=(l.set i ⟨z.slot,v⟩).map Nr:=by
 unfold w8;refine Jc λj=>?_;rw[FR,M6,M6,LQ];by_cases e:i=j
 ·subst e;have hlt:i<l.length:=by
   rcases M0 i l.length with h' |h'
   ·exact h'
   ·rw[My h']at h;cases h
  rw[h];simp[hlt,setC,Nr,putL]
 ·simp[e]
theorem fu (l:ON Pl) (i:Nat) (z:Pl) (v:Int) (h:l[i]? = some z):w8 (l.map Nr) i 0 [.int .i64 v]=(l.set i ⟨v,z.room⟩).map Nr:=by
 unfold w8;refine Jc λj=>?_;rw[FR,M6,M6,LQ];by_cases e:i=j
 ·subst e;have hlt:i<l.length:=by
   rcases M0 i l.length with h' |h'
   ·exact h'
   ·rw[My h']at h;cases h
  rw[h];simp[hlt,setC,Nr,putL]
 ·simp[e]
theorem SM {S R L k x q:Nat}(hS:0<S) (hR:0<R) (hb:S*R<1099511627776) (h:MH (nA (S*R)) (oz L) k (x+1) q):∃a b:Nat,a<S/\b<R/\x<L/\((xT (nA (S*R)) (oz L) (x+1) q).map (tR R))[x]? = some ⟨(a:Int),(b:Int)⟩/\(b+1<R->k+1<(xj (uF S R) L).length/\(((xT (nA (S*R)) (oz L) (x+1) q).map (tR R)).set x ⟨(a:Int),((b+1:Nat):Int)⟩)=(yM (nA (S*R)) (oz L) (k+1)).map (tR R))/\(b+1=R->a+1<S->k+1<(xj (uF S R) L).length/\(((xT (nA (S*R)) (oz L) (x+1) q).map (tR R)).set x ⟨((a+1:Nat):Int),0⟩)=(yM (nA (S*R)) (oz L) (k+1)).map (tR R))/\(b+1=R->a+1=S->∃q',MH (nA (S*R)) (oz L) k x q'/\(((xT (nA (S*R)) (oz L) (x+1) q).map (tR R)).set x ⟨0,0⟩)=(xT (nA (S*R)) (oz L) x q').map (tR R)):=by
 have hc:0<S*R:=GV hS hR;have hpos:=eC hc L;obtain⟨d,c,h1,h2,hg,hs,hx,hcar,hst⟩:=eE hpos (λb hb'=>by have:=Hy hb';rw[this,qV];exact hb) h;have hcc:c=S*R:=by
  have hb':(oz L)[x]? = some bdP:=by unfold oz;rw[ON.getElem?_replicate,Nf (by rw[sm]at hx;exact hx)]
  rw[fy hb',qV]at hs;simp at hs;omega
 rw[sm]at hx;have hlen:(xj (uF S R) L).length=(zb (nA (S*R)) (oz L)).length:=by rw[ud,Nv]
 have hda:d / R<S:=by rw[hcc]at h1;exact Nat.div_lt_of_lt_mul (by rw[JH];exact h1)
 have hdb:d % R<R:=IK _ hR;have hdm:=Hm d R;refine⟨d / R,d % R,hda,hdb,hx,?_,λh3=>?_,λh3 h4=>?_,λh3 h4=>?_⟩
 ·rw[M6,hg];simp[tR]
 ·have hne:d+1≠c:=λe=>by
   rw[hcc]at e;have h5:R*(d / R)+(d % R+1)=R*S:=by rw[JH R S];omega
   have h6:(R*(d / R)+(d % R+1)) % R=(d % R+1) % R:=Er _ _ _;rw[h5,DD,G6 h3]at h6;omega
  obtain⟨o1,o2⟩:=hst hne;refine⟨by rw[hlen];exact o1,?_⟩;rw[←o2,ET];congr 1;have e1:(d+1) / R=d / R:=by rw[show d+1=R*(d / R)+(d % R+1) by omega,Es hR,Hn h3];rfl
  have e2:(d+1) % R=d % R+1:=by rw[show d+1=R*(d / R)+(d % R+1) by omega,Er,G6 h3]
  simp only[tR,M1,e1,e2]
 ·have hne:d+1≠c:=λe=>by
   rw[hcc]at e;have h5:R*(d / R+1)=R*S:=by rw[EK,JH R S];omega
   have:=Nat.eq_of_mul_eq_mul_left hR h5;omega
  obtain⟨o1,o2⟩:=hst hne;refine⟨by rw[hlen];exact o1,?_⟩;rw[←o2,ET];congr 1;have e0:d+1=R*(d / R+1):=by rw[EK];omega
  have e1:(d+1) / R=d / R+1:=by rw[e0,Nat.mul_div_cancel_left _ hR]
  have e2:(d+1) % R=0:=by rw[e0,DD]
  simp only[tR,M1,e1,e2];rfl
 ·have he:d+1=c:=by
   rw[hcc];have h5:R*(d / R+1)=R*S:=by rw[h4]
   rw[EK,JH R S]at h5;omega
  obtain⟨o1,o2⟩:=hcar he;refine⟨_,o1,?_⟩;rw[←o2,ET,fx]
theorem UW {S R L:Nat}(hS:0<S) (hR:0<R):(yM (nA (S*R)) (oz L) 0).map (tR R)=M4 L ⟨0,0⟩:=by rw[qW (eC (GV hS hR) L),eB,sm]
theorem SL {S R L k:Nat}(h:k<(xj (uF S R) L).length):(xj (uF S R) L)[k]? = some ((yM (nA (S*R)) (oz L) k).map (tR R))/\((yM (nA (S*R)) (oz L) k).map (tR R)).length=L:=by
 have hlen:(xj (uF S R) L).length=(zb (nA (S*R)) (oz L)).length:=by rw[ud,Nv]
 obtain⟨h1,h2⟩:=nq (s:=nA (S*R)) (bs:=oz L) (k:=k) (by omega);rw[ud,M6,h2];exact⟨rfl,by rw[Nv,h1,sm]⟩
theorem TA {S R L:Nat}(hS:0<S) (hR:0<R):0<(xj (uF S R) L).length:=by rw[ud,Nv];exact ko (eC (GV hS hR) L)
end Go.Fo
namespace Go.Fo
open Go Go.Sx Go.Proofs
section
variable {G:Nat->OK (ON D)}
def Sk (s:Sc) (w:ON Pl):ON AV:=[.d (.sl (s.slots.map Nx)),.d (.sl (s.rooms.map N6)),.d (.sl (s.people.map N9)),.d (.sl (s.groups.map Ny)),.d (.sl (s.lessons.map N8)),.d (.sl (w.map Nr))]
def c87:Np:=unScope (zz (z6 Tryz.f87) 0)
def tm87:ON AV:=[.any,.any,.any,.ptr 0 0,.ptr 1 0,.ptr 2 0,.any,.any,.any,.any,.ptr 3 0,.ptr 4 0,.any,.any,.any,.any,.any,.any,.any,.any,.any,.any,.any,.any,.any,.any,.any,.any,.any,.any,.any,.any,.any,.any,.any,.any,.any,.any,.any,.any,.any,.any,.any,.any,.any,.any,.any,.any,.any,.any,.any,.any,.any,.any,.any,.any,.any,.any,.any,.any,.any,.any,.any,.any,.any,.any,.any,.any,.any,.any,.any,.any,.any,.any,.any,.any,.any,.any,.any,.any,.any,.any,.any,.any,.any,.any,.any,.any,.any,.any,.any,.any,.any,.any,.any,.any,.any,.any,.any,.any,.any,.any,.any,.any,.any,.any,.any,.any,.any,.any,.any,.any,.any,.any,.any,.any,.any,.any,.any,.any,.any,.any,.any,.any,.any,.any,.any,.any,.any,.any,.any,.any,.any,.any,.any,.any,.any,.any,.any]
def hH (s:Sc) (w:ON Pl) (env:ON Ev) (f:Fm) (n a:Int):ON Box:=[.cells 166 (Sk s w),.cells 146 [.d (.sl (env.map NM))],.cells 85 (gY f),.cells 3 [.d (.int .i64 n)],.cells 3 [.d (.int .i64 a)],.loop tm87 (ze c87) (zo c87) (zc c87) none .ready]
theorem h86 (s:Sc) (bs:ON Bd) (hs:s.Fits) (hb:bs.length<1099511627776):Lz Tryz.prog G 86 [s.d,.sl (bs.map N3)] (· = .clo 135 [] [.iptr [vl (zP s bs)],.iptr [.sl (bs.map N3)]]):=by
 have h134:=h134 (G:=G) s bs hs hb;rw[zf]at *;refine IH (fn:=Tryz.f86) (code:=z6 Tryz.f86) mixed L0 Tryz.func86 (by kernel_rfl) u3 ?_;apply @z7 _ (OB Tryz.prog G 134 [NY [.sl (OM Nx (Ni s)),.sl (OM N6 (Nh s)),.sl (OM N9 (Nd s)),.sl (OM Ny (Nb s)),.sl (OM N8 (Nj s))],.sl (OM N3 bs)] λ(rs:ON D)=>∃(l:ON D),rs=[OE l]/\Ml 135 [] [Ma [.sl l],.iptr [.sl (OM N3 bs)]]=Ml 135 [] [Ma [.sl (OM intD (zP s bs))],.iptr [.sl (OM N3 bs)]])
 ·kernel_rfl
 exact h134.use ⟨_,rfl,rfl⟩
def UV (a:Fm):D:=zk [NP .i64,NC,NP .i64,NB,NB,NB] (OM NX (Nt a)) (N1 0)
def iq (a:Sc) (b:ON Pl):Box:=Ns 166 [.d (.sl (OM Nx (Ni a))),.d (.sl (OM N6 (Nh a))),.d (.sl (OM N9 (Nd a))),.d (.sl (OM Ny (Nb a))),.d (.sl (OM N8 (Nj a))),.d (.sl (OM Nr b))]
def ip (a:ON Ev):Box:=Ns 146 [.d (.sl (OM NM a))]
def io (a:Fm):Box:=Ns 85 [.d (.int .i64 (NU a)),.d (.str (NG a)),.d (.int .i64 (NA a)),.d (.sl (OM Nc (NH a))),.d (.sl (OM N3 (NJ a))),.d (.sl (OM NX (Nt a)))]
def UU (a:Int):Box:=Ns 3 [.d (.int .i64 (Nl .i64 (a+1)))]
def yHq3:ON Box:=[M7 [OI,.any,.any,.ptr 0 0,.ptr 1 0,.ptr 2 0,.any,.any,.any,.any,.ptr 3 0,.ptr 4 0,.any,.any,.any,.any,.any,.any,.any,.any,.any,.any,.any,.any,.any,.any,.any,.any,.any,.any,.any,.any,.any,.any,.any,.any,.any,.any,.any,.any,.any,.any,.any,.any,.any,.any,.any,.any,.any,.any,.any,.any,.any,.any,.any,.any,.any,.any,.any,.any,.any,.any,.any,.any,.any,.any,.any,.any,.any,.any,.any,.any,.any,.any,.any,.any,.any,.any,.any,.any,.any,.any,.any,.any,.any,.any,.any,.any,.any,.any,.any,.any,.any,.any,.any,.any,.any,.any,.any,.any,.any,.any,.any,.any,.any,.any,.any,.any,.any,.any,.any,.any,.any,.any,.any,.any,.any,.any,.any,.any,.any,.any,.any,.any,.any,.any,.any,.any,.any,.any,.any,.any,.any,.any,.any,.any,.any,.any, .any] (ze c87) (zo c87) (zc c87) none Mg]
def UT (a:Int):ON Box:=UU a::yHq3
def US (a:Sc) (b:ON Pl) (c:ON Ev) (d:Fm) (e:Bool) (f:Int) (g:Int):ON Box:=iq a b::ip c::io d::Ns 3 [.d (.int .i64 (if e=true then f+1 else f))]::Ns 3 [.d (.int .i64 (g+1))]::yHq3
theorem PT (s:Sc) (w:ON Pl) (env:ON Ev) (f x:Fm) (t:ON Int) (n a:Int) (r:Bool) (hl:env.length<1099511627776) (hb:f.bs.length<1099511627776) (ht:f.bs.length<=t.length) (hx:f.l[0]? = some x) (h0:0<=n) (h1:n<1099511627776) (h2:0<=a) (h3:a<1099511627776) (hrec:OB Tryz.prog G 87 [lC s w,.sl ((env++yR f.bs t).map NM),x.d] (· = [.bool r])):Mo Tryz.prog G 5 [.d (vl t)] (hH s w env f n a) (λrs H'=>rs=[.bool true]/\H'=hH s w env f (if r then n+1 else n) (a+1)):=by
 unfold lC at hrec;have h88:=h88 (G:=G) env f.bs t hl hb ht;unfold vl at *;refine Jl (tm:=tm87) (ps:=ze c87) (asn:=zo c87) (bd:=zc c87) mixed L0 rfl (by kernel_rfl) rfl rfl ⟨_,_,rfl,rfl⟩ (λ_=>nC (by kernel_rfl)) (λ_=>nC (by kernel_rfl)) ?_;apply @z7 _ (((0:Int)<=0/\(OM NX (Nt f))[N1 0]? = some (UV f))/\OB Tryz.prog G 88 [OE (OM NM env),.sl (OM N3 (NJ f)),.sl (OM intD t)] λ(rs:ON D)=>∃(l:ON D),rs=[OE l]/\OB Tryz.prog G 87 [NY [.sl (OM Nx (Ni s)),.sl (OM N6 (Nh s)),.sl (OM N9 (Nd s)),.sl (OM Ny (Nb s)),.sl (OM N8 (Nj s)),.sl (OM Nr w)],.sl l,UV f] λ(rs:ON D)=>∃(b:Bool),rs=[OD b]/\(b=true->[OD true]=[OD true]/\iq s w::ip env::io f::UU n::UT a=US s w env f r n a)/\(b=false->[OD true]=[OD true]/\iq s w::ip env::io f::Ns 3 [.d (.int .i64 n)]::UT a=US s w env f r n a))
 ·kernel_rfl
 delta UV iq ip io UU UT yHq3 US;refine⟨⟨by omega,by rw[Cm,uk hx];simp[hx]⟩,h88.use ⟨_,rfl,?_⟩⟩;rw[Cm,uk hx];refine hrec.use ⟨_,rfl,λh=>?_,λh=>?_⟩
 ·subst h;rw[zu (by omega) (by omega),zu (by omega) (by omega)];exact⟨rfl,rfl⟩
 ·subst h;rw[zu (by omega) (by omega)];exact⟨rfl,rfl⟩
def ZV (a:Sc) (b:ON Pl) (c:ON Ev) (d:Fm) (e:Nat->Int) (f:Nat) (g:ON Int):ON Box:=[iq a b,ip c,io d,.cells 3 [.d (.int .i64 (e f))],.cells 3 [.d (.int .i64 (f:Int))],.loop [OI,.any,.any,.ptr 0 0,.ptr 1 0,.ptr 2 0,.any,.any,.any,.any,.ptr 3 0,.ptr 4 0,.any,.any,.any,.any,.any,.any,.any,.any,.any,.any,.any,.any,.any,.any,.any,.any,.any,.any,.any,.any,.any,.any,.any,.any,.any,.any,.any,.any,.any,.any,.any,.any,.any,.any,.any,.any,.any,.any,.any,.any,.any,.any,.any,.any,.any,.any,.any,.any,.any,.any,.any,.any,.any,.any,.any,.any,.any,.any,.any,.any,.any,.any,.any,.any,.any,.any,.any,.any,.any,.any,.any,.any,.any,.any,.any,.any,.any,.any,.any,.any,.any,.any,.any,.any,.any,.any,.any,.any,.any,.any,.any,.any,.any,.any,.any,.any, .any,.any,.any,.any,.any,.any,.any,.any,.any,.any,.any,.any,.any,.any,.any,.any,.any,.any,.any,.any,.any,.any,.any,.any,.any,.any,.any,.any,.any,.any,.any] (ze c87) (zo c87) (zc c87) none Mg,.arr 1 (OM intD g)]
def ZU (a:Sc) (b:ON Pl) (c:ON Ev) (d:Fm) (e:Nat->Int) (f:Nat) (g:ON Int):Prop:=ZV a b c d e f g=ZV a b c d e f g
theorem PS (s:Sc) (w:ON Pl) (env:ON Ev) (f:Fm) (N:Nat->Int) (k:Nat) (t:ON Int) (ht:t.length<1099511627776):Nn Tryz.prog G 35 [.msl 6] (hH s w env f (N k) ((k:Nat):Int)++[.arr 1 (t.map intD)]) (λrs H'=>rs=[vl t]/\H'=hH s w env f (N k) ((k:Nat):Int)++[.arr 1 (t.map intD)]):=by
 refine zF Tryz.func35 rfl ⟨_,_,rfl,rfl⟩ ?_;apply @z7 _ ((false=true->[OE []]=[OE (OM intD t)]/\ZU s w env f N k t)/\(false=false->FA [] (OM intD t) (nat_lit 1) (nat_lit 8)/\[OE (Mx ([]:ON D)++OM intD t)]=[OE (OM intD t)]/\ZU s w env f N k t))
 ·kernel_rfl
 delta ZU ZV iq UV ip io UU UT yHq3 US;refine⟨λh=>No h (by decide),λ_=>⟨⟨?_,by simp;omega⟩,rfl,rfl⟩⟩;simpa using su t
def np (a:Sc) (b:ON Pl) (c:ON Ev) (d:Fm) (e:Nat->Int) (f:ON Bd):ON Box:=iq a b::ip c::io d::Ns 3 [.d (.int .i64 (e (OJ (zb a f))))]::Ns 3 [.d (.int .i64 (↑(OJ (zb a f)):Int))]::yHq3
def uc (a:ON Bd):Int:=(↑(OJ (OM N3 a)):Int)
def nn (a:Sc) (b:ON Bd):Prop:=Ma [.sl (OM intD (zP a b))]=Ma [.sl (OM intD (zP a b))]
def nl (a:ON Bd):Prop:=Ma [.sl (OM N3 a)]=Ma [.sl (OM N3 a)]
def eA (a:Sc) (b:ON Bd):Prop:=NE 5=NE 5/\nn a b/\nl b/\MP 6=MP 6/\OG
def kn (a:Sc) (b:ON Pl):Prop:=OM Nx (Ni a)=OM Nx (Ni a)/\OM N6 (Nh a)=OM N6 (Nh a)/\OM N9 (Nd a)=OM N9 (Nd a)/\OM Ny (Nb a)=OM Ny (Nb a)/\OM N8 (Nj a)=OM N8 (Nj a)/\OM Nr b=OM Nr b/\OG
def km (a:ON Ev):Prop:=OM NM a=OM NM a/\OG
def nk (a:Fm):Prop:=NU a=NU a/\NG a=NG a/\NA a=NA a/\OM Nc (NH a)=OM Nc (NH a)/\OM N3 (NJ a)=OM N3 (NJ a)/\OM NX (Nt a)=OM NX (Nt a)/\OG
def h135Hq1:ON AV:=[OI,.any,.any,.ptr 0 0,.ptr 1 0,.ptr 2 0,.any,.any,.any,.any,.ptr 3 0,.ptr 4 0,.any,.any,.any,.any,.any,.any,.any,.any,.any,.any,.any,.any,.any,.any,.any,.any,.any,.any,.any,.any,.any,.any,.any,.any,.any,.any,.any,.any,.any,.any,.any,.any,.any,.any,.any,.any,.any,.any,.any,.any,.any,.any,.any,.any,.any,.any,.any,.any,.any,.any,.any,.any,.any,.any,.any,.any,.any,.any,.any,.any,.any,.any,.any,.any,.any,.any,.any,.any,.any,.any,.any,.any,.any,.any,.any,.any,.any,.any,.any,.any,.any,.any,.any,.any,.any,.any,.any,.any,.any,.any,.any,.any,.any,.any,.any,.any,.any,.any,.any,.any,.any,.any,.any,.any,.any,.any,.any,.any,.any,.any,.any,.any,.any,.any,.any,.any,.any,.any,.any,.any,.any,.any,.any,.any,.any,.any,.any]
def h135Hq6:Box:=M7 h135Hq1 (ze c87) (zo c87) (zc c87) none Mg
def h135Hq19:Prop:=h135Hq6=h135Hq6
def rC (a:ON D):ON AV:=[OF (.sl a)]
def im (a:ON D) (b:ON D) (c:ON D):ON AV:=OF (.sl a)::OF (.sl b)::rC c
def h135Hq11 (a:ON D) (b:ON D) (c:ON D) (d:ON D) (e:ON D) (f:ON D):Box:=Ns 166 (OF (.sl a)::OF (.sl b)::OF (.sl c)::im d e f)
def il (a:Int) (b:ON UInt8) (c:Int) (d:ON D) (e:ON D) (f:ON D):Box:=Ns 85 (OF (.int .i64 a)::OF (.str b)::OF (.int .i64 c)::im d e f)
def rB (a:Int):Box:=Ns 3 [.d (.int .i64 a)]
def nj (a:OK Np) (b:NQ):Box:=M7 h135Hq1 (ze c87) (zo c87) (zc c87) a b
def ni (a:ON D) (b:Int) (c:ON UInt8) (d:Int) (e:ON D) (f:ON D) (g:ON D) (h:Int) (i:Int) (j:OK Np) (k:NQ):ON Box:=[Ns 146 (rC a),il b c d e f g,rB h,rB i,nj j k]
def yh (a:Nat×Nat):Int:=(↑(N7 a):Int) - 1
def vj (a:Sc) (b:ON Bd) (c:Nat×Nat):ON D:=OM intD (xT a b (N7 c) (NV c))
def nh (a:Nat×Nat):Prop:=decide (yh a>=0)=true
def ng (a:Nat×Nat) (b:Sc) (c:ON Bd):Prop:=N1 (yh a)<OJ (vj b c a)
def rA (a:Nat×Nat) (b:Sc) (c:ON Bd):Prop:=0<=yh a/\ng a b c
def d4 (a:Sc) (b:ON Bd) (c:Nat×Nat):Prop:=z1 (vj a b c) (N1 (yh c)) 0=some (OH .i64 (NO (Nz (z1 (vj a b c) (N1 (yh c)) 0) default)))/\OG
def d6 (a:Sc) (b:ON Bd) (c:Nat×Nat):Int:=NO (Nz (z1 (OM intD (zP a b)) (N1 (yh c)) 0) default)
def d7 (a:Nat×Nat) (b:Sc) (c:ON Bd):Bool:=bif decide (yh a>=0)then Nl .i64 (NO (Nz (z1 (vj b c a) (N1 (yh a)) 0) default)+1)==d6 b c a else false
theorem Q4 (s:Sc) (w:ON Pl) (env:ON Ev) (f:Fm) (N:Nat->Int) (bs:ON Bd) (hb:bs.length<=1000000000) (hsz:∀b∈bs,cN s b<1099511627776) (hY:∀(k:Nat) (t:ON Int),(zb s bs)[k]? = some t->Mo Tryz.prog G 5 [.d (vl t)] (hH s w env f (N k) ((k:Nat):Int)) (λrs H'=>rs=[.bool true]/\H'=hH s w env f (N (k+1)) (((k+1):Nat):Int))): Nn Tryz.prog G 135 [.yld 5,.iptr [vl (zP s bs)],.iptr [.sl (bs.map N3)]] (hH s w env f (N 0) 0) (λ_ H'=>H'=hH s w env f (N (zb s bs).length) (((zb s bs).length:Nat):Int)):=by
 have hcl:=λk t h=>PS (G:=G) s w env f N k t h;unfold vl at *;refine zg (LL [(2,ui (α:=Nat) Tryz.prog G (λk=>LL [(4,zT (α:=Nat×Nat) Tryz.prog G L0 6 (zz (zz (z6 Tryz.f135) 0) 0) [0,1,2,4] (λx=>MH s bs k x.1 x.2) (λx=>x.1) (λx=>[(5,.d (.int .i64 ((x.1:Int) - 1)))]) (λ_ x=>hH s w env f (N (k+1)) (((k+1):Nat):Int)++[.arr 1 ((xT s bs x.1 x.2).map intD)]))]) 6 (zz (z6 Tryz.f135) 0) [0,1,2,4] (λk=>k<(zb s bs).length) (λk=>(zb s bs).length - k) (λ_=>[]) (λ_ k=>hH s w env f (N k) ((k:Nat):Int)++[.arr 1 ((yM s bs k).map intD)]))]) Tryz.func135 rfl ⟨[],_,rfl⟩ (zm (yI mixed (λ_=>zm zy))) ?_;apply @z7 _ (OB Tryz.prog G 76 [OE (OM intD (zP s bs)),.int .i64 0] λ(rs:ON D)=>∃(b:Bool),rs=[OD b]/\(b=true->iq s w::ip env::io f::Ns 3 [.d (.int .i64 (N 0))]::Ns 3 [.d (.int .i64 0)]::yHq3=np s w env f N bs)/\(b=false->(uc bs=uc bs/\0<=uc bs/\uc bs<=1000000000/\(↑8:Int)*uc bs<=281474976710656)/\∃(x0:Nat),x0<OJ (zb s bs)/\(eA s bs/\kn s w/\km env/\nk f/\(N 0=N x0/\OG)/\((0:Int)=(x0:Int)/\OG)/\h135Hq19/\M4 (N1 (uc bs)) (OH .i64 0)=OM intD (yM s bs x0)/\OG)/\∀(x:Nat),x<OJ (zb s bs)->Nn Tryz.prog G 35 [MP 6] [iq s w,ip env,io f,.cells 3 [.d (.int .i64 (N x))],.cells 3 [.d (.int .i64 (x:Int))],h135Hq6,.arr 1 (OM intD (yM s bs x))] λ(rs:ON D) (H':ON Box)=>∃(l:ON D),rs=[OE l]/\∃(l_1:ON D)(l_2:ON D)(l_3:ON D)(l_4:ON D)(l_5:ON D)(l_6:ON D)(l_7:ON D)(n:Int)(s_1:ON UInt8)(n_1:Int)(l_8:ON D)(l_9:ON D)(l_10:ON D)(n_2:Int)(n_3:Int)(pend:OK Np)(st:NQ)(ds:ON D),H'=[h135Hq11 l_1 l_2 l_3 l_4 l_5 l_6,.cells 146 (rC l_7),il n s_1 n_1 l_8 l_9 l_10,rB n_2,rB n_3,nj pend st,.arr 1 ds]/\Mo Tryz.prog G 5 (rC l) (h135Hq11 l_1 l_2 l_3 l_4 l_5 l_6::ni l_7 n s_1 n_1 l_8 l_9 l_10 n_2 n_3 pend st) λ(rs:ON D) (H':ON Box)=>∃(b:Bool),rs=[OD b]/\∃(l:ON D)(l_11:ON D)(l_12:ON D)(l_13:ON D)(l_14:ON D)(l_15:ON D)(l_16:ON D)(n:Int),∃ (s_2:ON UInt8),∃(n_4:Int)(l_17:ON D)(l_18:ON D)(l_19:ON D)(n_5:Int)(n_6:Int)(pend:OK Np)(st:NQ),H'=h135Hq11 l l_11 l_12 l_13 l_14 l_15::ni l_16 n s_2 n_4 l_17 l_18 l_19 n_5 n_6 pend st/\((!b)=true->h135Hq11 l l_11 l_12 l_13 l_14 l_15::ni l_16 n s_2 n_4 l_17 l_18 l_19 n_5 n_6 pend st=np s w env f N bs)/\((!b)=false->∃(x0:Nat×Nat),MH s bs x (N7 x0) (NV x0)/\((NE 5=NE 5/\nn s bs/\nl bs/\MP 6=MP 6/\Nl .i64 ((↑(OJ ds):Int) - 1)=yh x0/\OG)/\(l=OM Nx (Ni s)/\l_11=OM N6 (Nh s)/\l_12=OM N9 (Nd s)/\l_13=OM Ny (Nb s)/\l_14=OM N8 (Nj s)/\l_15=OM Nr w/\OG)/\(l_16=OM NM env/\OG)/\(n=NU f/\s_2=NG f/\n_4=NA f/\l_17=OM Nc (NH f)/\l_18=OM N3 (NJ f)/\l_19=OM NX (Nt f)/\OG)/\(n_5=N (x+1)/\OG)/\(n_6=(↑(x+1):Int)/\OG)/\nj pend st=h135Hq6/\ds=vj s bs x0/\OG)/\∀(x_1:Nat×Nat),MH s bs x (N7 x_1) (NV x_1)->(nh x_1->rA x_1 s bs)/\(nh x_1->d4 s bs x_1)/\(nh x_1->0<=yh x_1/\(OM intD (zP s bs))[N1 (yh x_1)]? = some (OH .i64 (d6 s bs x_1)))/\(d7 x_1 s bs=true->rA x_1 s bs/\ng x_1 s bs/\∃(y:Nat×Nat),MH s bs x (N7 y) (NV y)/\N7 y<N7 x_1/\(NE 5=NE 5/\nn s bs/\nl bs/\MP 6=MP 6/\Nl .i64 (yh x_1 - 1)=yh y/\OG)/\kn s w/\km env/\nk f/\(N (x+1)=N (x+1)/\OG)/\((↑(x+1):Int)=(↑(x+1):Int)/\OG)/\h135Hq19/\w8 (vj s bs x_1) (N1 (yh x_1)) 0 (Mx [OH .i64 0])=vj s bs y/\OG)/\(d7 x_1 s bs=false->(decide (yh x_1<0)=true->iq s w::ip env::io f::Ns 3 [.d (.int .i64 (N (x+1)))]::Ns 3 [.d (.int .i64 (↑(x+1):Int))]::yHq3=np s w env f N bs)/\(decide (yh x_1<0)=false->rA x_1 s bs/\d4 s bs x_1/\rA x_1 s bs/\ng x_1 s bs/\∃(y:Nat),y<OJ (zb s bs)/\OJ (zb s bs) - y<OJ (zb s bs) - x/\eA s bs/\kn s w/\km env/\nk f/\(N (x+1)=N y/\OG)/\((↑(x+1):Int)=(y:Int)/\OG)/\h135Hq19/\w8 (vj s bs x_1) (N1 (yh x_1)) 0 (Mx [N7 (OH .i64 (Nl .i64 (NO (Nz (z1 (vj s bs x_1) (N1 (yh x_1)) 0) default)+1)),OG)])=OM intD (yM s bs y)/\OG)))))
 ·kernel_rfl
 delta iq UV ip io UU UT yHq3 US np uc eA nn nl kn km nk h135Hq19 h135Hq6 h135Hq1 h135Hq11 im rC il rB nj ni yh vj nh rA ng d4 d6 d7;refine(Tj (G:=G) (zP s bs) 0 (by rw[uv];omega)).use ⟨_,rfl,λhb0=>?_,λhb0=>?_⟩
 ·obtain⟨b,hm,hc⟩:=uu.1 hb0;rw[ir hm hc];rfl
 have hpos:∀b∈bs,0<cN s b:=λb hm=>by
  rcases I8 (cN s b)with h|h
  ·rw[uu.2 ⟨b,hm,h⟩]at hb0;cases hb0
  ·exact h
 refine⟨⟨rfl,by omega,by simp;omega,by simp;omega⟩,0,ko hpos,?_,λk hk=>?_⟩
 ·and_intros<;>first|rfl|trivial|(simp only[Nv,M1];rw[qW hpos,eD])
 obtain⟨hkl,hkg⟩:=nq hk;refine(hcl k _ (by rw[hkl];omega)).mono ?_;rintro rs H' ⟨rfl,rfl⟩;refine⟨_,rfl,_,_,_,_,_,_,_,_,_,_,_,_,_,_,_,_,_,_,rfl,(hY k _ hkg).mono ?_⟩;rintro rs H' ⟨rfl,rfl⟩;refine⟨true,rfl,_,_,_,_,_,_,_,_,_,_,_,_,_,_,_,_,_,rfl,λh=>No h (by decide),λ_=>⟨(bs.length,k+1),F1 hk,?_,λy hy=>?_⟩⟩
 ·have e1:Nl .i64 (((OM intD (yM s bs k)).length:Nat) - 1:Int)=((bs.length:Nat):Int) - 1:=by rw[Nv,hkl];exact zu (by omega) (by omega)
  have e2:OM intD (yM s bs k)=OM intD (xT s bs bs.length (k+1)):=by rw[qX]
  and_intros<;>first|exact e1|exact e2|rfl|trivial
 obtain⟨x1,q⟩:=y;cases x1 with
 |zero =>
  have hl:=F9 hy;refine⟨λh=>by simp at h,λh=>by simp at h,λh=>by simp at h,λh=>by simp at h,λ_=>⟨λ_=>?_,λh=>by simp at h⟩⟩;rw[←hl]
 |succ x =>
  obtain⟨d,c,h1,h2,hg,hs,hx,hcar,hst⟩:=eE hpos hsz hy;have ex:((x+1:Nat):Int) - 1=(x:Int):=by omega
  have hol:=kq hy;have hll:(OM intD (xT s bs (x+1) q)).length=bs.length:=by rw[Nv,hol]
  have ei (n:Int):NO (Nz (some (OH .i64 n)) default)=n:=rfl;have hw:Nl .i64 ((d:Int)+1)=((d+1:Nat):Int):=by rw[zu (by omega) (by omega)];rfl
  have hdm:decide ((x:Int)>=0)=true:=by simp
  rw[ex,M1,xe hg,xe hs,ei,ei,hw,hll,hdm];refine⟨λ_=>⟨by omega,hx⟩,λ_=>⟨rfl,trivial⟩,λ_=>⟨by omega,uG hs⟩,λhq=>?_,λhq=>⟨λh=>No (M3 h) (by omega),λ_=>?_⟩⟩
  ·have e:d+1=c:=by have:(((d+1:Nat):Int)==(c:Int))=true:=hq;have:=eq_of_beq this;omega
   obtain⟨o1,o2⟩:=hcar e;refine⟨⟨by omega,hx⟩,hx,(x,q / c),o1,by omega,?_⟩;have e1:Nl .i64 ((x:Int) - 1)=(x:Int) - 1:=zu (by omega) (by omega);have e2:=(tS (xT s bs (x+1) q) x 0).trans (Mz _ o2);and_intros<;>first|exact e1|exact e2|rfl|trivial
  ·have e:d+1≠c:=λe=>by have:(((d+1:Nat):Int)==(c:Int))=false:=hq;rw[e]at this;simp at this
   obtain⟨o1,o2⟩:=hst e;refine⟨⟨by omega,hx⟩,⟨rfl,trivial⟩,⟨by omega,hx⟩,hx,k+1,o1,by omega,?_⟩;have e2:=(tS (xT s bs (x+1) q) x ((d+1:Nat):Int)).trans (Mz _ o2);and_intros<;>first|exact e2|rfl|trivial
end
def esL:ON (ON UInt8×Nat):=[([61],311),([33,61],312),([60],313),([60,61],314),([62],315),([62,61],316)]
def eaL:ON (Int×Nat):=[(3,317),(4,318),(5,319),(6,321),(7,323),(8,325)]
def akL:ON (Int×Nat):=[(1,300),(2,301),(3,302),(4,303),(5,304),(6,305)]
structure Maps.Fn (M:Mk):Prop where
 esA:(M.es.all λkv=>sameKind (.str []) kv.1&&L2 .fn kv.2)=true
 eaA:(M.ea.all λkv=>sameKind (.int .i64 0) kv.1&&L2 .fn kv.2)=true
 akA:(M.ak.all λkv=>sameKind (.int .i64 0) kv.1&&L2 .fn kv.2)=true
 esG:∀s,zX M.es (.str s)=(esL.lookup s).map .fn
 eaG:∀k,zX M.ea (.int .i64 k)=(eaL.lookup k).map .fn
 akG:∀k,zX M.ak (.int .i64 k)=(akL.lookup k).map .fn
def hP (s:Sc) (w:ON Pl) (env:ON Ev) (f:Fm):ON Box:=[.cells 166 (Sk s w),.cells 146 [.d (.sl (env.map NM))],.cells 85 (gY f)]
theorem q8 {e:En}{t:Tm}(h:(zL e t).2=0) (hk:t.kind≠1):yf e t.name=true:=by
 unfold zL at h;rw[N2 hk]at h;cases hh:yf e t.name with
 |true=>rfl
 |false=>rw[hh]at h;simp at h
theorem ft {e:En}{t:Tm}{k:Int}(h:gQ e t k=0) (hk:t.kind=2):yf e t.name=true:=by
 refine q8 ?_ (by omega);unfold gQ at h;split at h
 ·cases h
 ·exact h
theorem UR (a b:Tm):(zk [NP Nq,NC,NP Nq] (OM Nc [a,b]) 0=a.d/\zk [NP Nq,NC,NP Nq] (OM Nc [a,b]) 1=b.d)/\(0<=(0:Int)/\(OM Nc [a,b])[0]? = some a.d)/\(0<=(1:Int)/\(OM Nc [a,b])[1]? = some b.d) :=⟨⟨jn (ts:=[a,b]) (i:=0) rfl,jn (ts:=[a,b]) (i:=1) rfl⟩,⟨by decide,rfl⟩,⟨by decide,rfl⟩⟩
section
variable {G:Nat->OK (ON D)}{M:Mk}
def d8 (a:Fm) (b:Nat):D:=zk [NP .i64,NC,NP .i64,NB,NB,NB] (OM NX (Nt a)) (N1 (b:Int))
def q9 (a:Sc) (b:ON Pl) (c:ON Ev) (d:Fm):ON Box:=[Ns 166 [.d (.sl (OM Nx (Ni a))),.d (.sl (OM N6 (Nh a))),.d (.sl (OM N9 (Nd a))),.d (.sl (OM Ny (Nb a))),.d (.sl (OM N8 (Nj a))),.d (.sl (OM Nr b))],.cells 146 [.d (.sl (OM NM c))],.cells 85 [.d (.int .i64 (NU d)),.d (.str (NG d)),.d (.int .i64 (NA d)),.d (.sl (OM Nc (NH d))),.d (.sl (OM N3 (NJ d))),.d (.sl (OM NX (Nt d)))]]
theorem h136 (s:Sc) (w:ON Pl) (env:ON Ev) (f x:Fm) (i:Nat) (r:Bool) (hx:f.l[i]? = some x) (hrec:OB Tryz.prog G 87 [lC s w,.sl (env.map NM),x.d] (· = [.bool r])): Nn Tryz.prog G 136 [.d (.int .i64 i),.ptr 0 0,.ptr 1 0,.ptr 2 0] (hP s w env f) (λrs H'=>rs=[.bool r]/\H'=hP s w env f):=by
 unfold lC at hrec;refine zF Tryz.func136 rfl ⟨_,_,rfl,rfl⟩ ?_;apply @z7 _ (((0:Int)<=(i:Int)/\(OM NX (Nt f))[N1 (i:Int)]? = some (d8 f i))/\OB Tryz.prog G 87 [NY [.sl (OM Nx (Ni s)),.sl (OM N6 (Nh s)),.sl (OM N9 (Nd s)),.sl (OM Ny (Nb s)),.sl (OM N8 (Nj s)),.sl (OM Nr w)],.sl (OM NM env),d8 f i] λ(rs:ON D)=>∃(b:Bool),rs=[OD b]/\[OD b]=[OD r]/\q9 s w env f=q9 s w env f)
 ·kernel_rfl
 delta d8 q9;rw[M1,uk hx];exact⟨⟨by omega,by simp[hx]⟩,hrec.use ⟨_,rfl,rfl,rfl⟩⟩
theorem S0 {s:ON UInt8}(h:lm s=true) (a b:Int):∃k,(esL.lookup s)=some k/\s5 Tryz.prog k=true/\OB Tryz.prog G k [.int .i64 (jA a b)] (· = [.bool (SU a s b)]):=by
 unfold lm at h;simp only[L4,beq_iff_eq]at h;have c:(a<b/\jA a b = -1)∨(a=b/\jA a b=0)∨(b<a/\jA a b=1):=by
  unfold jA;split
  ·left;omega
  ·split
   ·right;right;omega
   ·right;left;omega
 rcases h with ((((rfl|rfl)|rfl)|rfl)|rfl)|rfl
 ·refine⟨311,rfl,by kernel_rfl,(Ph _).mono ?_⟩;rintro _ rfl;simp only[SU,Nf];congr 2;rw[MG,beq_iff_eq,beq_iff_eq];omega
 ·refine⟨312,rfl,by kernel_rfl,(Pg _).mono ?_⟩;rintro _ rfl;show [OD (jA a b != 0)]=[OD (a != b)];congr 2;rw[MG,bne_iff_ne,bne_iff_ne];omega
 ·refine⟨313,rfl,by kernel_rfl,(Pf _).mono ?_⟩;rintro _ rfl;exact pB (by omega)
 ·refine⟨314,rfl,by kernel_rfl,(Pd _).mono ?_⟩;rintro _ rfl;exact pB (by omega)
 ·refine⟨315,rfl,by kernel_rfl,(Pc _).mono ?_⟩;rintro _ rfl;exact pB (by omega)
 ·refine⟨316,rfl,by kernel_rfl,(Pb _).mono ?_⟩;rintro _ rfl;exact pB (by omega)
theorem S1 (s:Sc) (w:ON Pl) (env:ON Ev) (k:Int) (a b:Tm) (hs:s.Fits) (hk:k=3∨k=4∨k=5∨k=6∨k=7∨k=8) (hw:w.length=s.lessons.length) (hv:(bj k).1=1->0<=(uw env a.name).at_/\(uw env a.name).at_<zY s 1) (op:Nm):∃j,(eaL.lookup k)=some j/\s5 Tryz.prog j=true/\OB Tryz.prog G j [lC s w,.int .i64 (uw env a.name).at_,.int .i64 (uw env b.name).at_] (· = [.bool (Ut s w env k op a b)]):=by
 rcases hk with rfl|rfl|rfl|rfl|rfl|rfl
 ·have:=hv rfl;rw[pd]at this;exact⟨317,rfl,by kernel_rfl,Pa s w _ _ this.1 (by omega)⟩
 ·have:=hv rfl;rw[pd]at this;exact⟨318,rfl,by kernel_rfl,PZ s w _ _ this.1 (by omega)⟩
 ·exact⟨319,rfl,by kernel_rfl,PY s w _ _ hs⟩
 ·exact⟨321,rfl,by kernel_rfl,PX s w _ _ hs⟩
 ·exact⟨323,rfl,by kernel_rfl,PV s w _ _ hs⟩
 ·exact⟨325,rfl,by kernel_rfl,PU s w _ _ hs⟩
def vB (a:Sc) (b:ON Pl) (c:Fm) (d:ON Ev):ON D:=[OD (Ll a b c d)]
def ZT (a:Fm) (b:Sc) (c:ON Pl) (d:ON Ev):Prop:=[OD (NU a==1)]=vB b c a d
def h87q5:ON Sh:=[NP .i64,NC,NP .i64]
def d9 (a:Fm):D:=zk h87q5 (OM Nc (NH a)) (N1 0)
def UQ (a:Fm):Prop:=(0:Int)<=0/\(OM Nc (NH a))[N1 0]? = some (d9 a)
def UP (a:Fm):Prop:=(0:Int)<=1/\(OM Nc (NH a))[N1 1]? = some (zk h87q5 (OM Nc (NH a)) (N1 1))
def X6 (a:Sc) (b:ON Pl):D:=NY [.sl (OM Nx (Ni a)),.sl (OM N6 (Nh a)),.sl (OM N9 (Nd a)),.sl (OM Ny (Nb a)),.sl (OM N8 (Nj a)),.sl (OM Nr b)]
def mT (a:ON D) (b:Int):Prop:=a=[OH .i64 b]
def sk (a:ON D) (b:Bool):Prop:=a=[OD b]
def ZS (a:ON D) (b:Sc) (c:ON Pl) (d:Fm) (e:ON Ev):Prop:= ∃(b_1:Bool),sk a b_1/\[OD b_1]=vB b c d e
def h87q21:ON AV:=[N5 0 0,.ptr 1 0,.ptr 2 0]
def h87q15:ON AV:=OF (.int .i64 0)::h87q21
def ZR (a:ON D) (b:ON D) (c:ON D):ON AV:=[OF (.sl a),.d (.sl b),.d (.sl c)]
def h87q9 (a:ON D) (b:ON D) (c:ON D) (d:ON D) (e:ON D) (f:ON D):Box:=Ns 166 (OF (.sl a)::OF (.sl b)::OF (.sl c)::ZR d e f)
def ZQ (a:Int) (b:ON UInt8) (c:Int) (d:ON D) (e:ON D) (f:ON D):Box:=Ns 85 (OF (.int .i64 a)::OF (.str b)::OF (.int .i64 c)::ZR d e f)
def qz (a:ON D) (b:Int) (c:ON UInt8) (d:Int) (e:ON D) (f:ON D) (g:ON D):ON Box:=[Ns 146 [.d (.sl a)],ZQ b c d e f g]
def h87q6:ON AV:=OF (.int .i64 1)::h87q21
def UO (a:Sc) (b:Fm):ON AV:=[Ma [.sl (OM intD (zP a (NJ b)))],.iptr [.sl (OM N3 (NJ b))]]
def h87q1:ON AV:=[OI,.any,.any,.ptr 0 0,.ptr 1 0,.ptr 2 0,.any,.any,.any,.any,.ptr 3 0,.ptr 4 0,.any,.any,.any,.any,.any,.any,.any,.any,.any,.any,.any,.any,.any,.any,.any,.any,.any,.any,.any,.any,.any,.any,.any,.any,.any,.any,.any,.any,.any,.any,.any,.any,.any,.any,.any,.any,.any,.any,.any,.any,.any,.any,.any,.any,.any,.any,.any,.any,.any,.any,.any,.any,.any,.any,.any,.any,.any,.any,.any,.any,.any,.any,.any,.any,.any,.any,.any,.any,.any,.any,.any,.any,.any,.any,.any,.any,.any,.any,.any,.any,.any,.any,.any,.any,.any,.any,.any,.any,.any,.any,.any,.any,.any,.any,.any,.any,.any,.any,.any,.any,.any,.any,.any,.any,.any,.any,.any,.any,.any,.any,.any,.any,.any,.any,.any,.any,.any,.any,.any,.any,.any,.any,.any,.any,.any,.any,.any]
def ZP (a:Int) (b:Int) (c:Int) (d:Sc) (e:ON Pl) (f:Fm) (g:ON Ev) (h:Int):Prop:=((a==14)=true->[OD (b==c)]=vB d e f g)/\((a==14)=false->((a==15)=true->[OD (decide (b>0))]=vB d e f g)/\((a==15)=false->((a==16)=true->[OD (decide (b>=h))]=vB d e f g)/\((a==16)=false->[OD (decide (b<=h))]=vB d e f g)))
def ZO (a:Fm) (b:Mk) (c:Sc) (d:ON Pl) (e:ON Ev):Prop:=((NU a==9)=true->(LV (Ar b) λ(kv:D×D)=>sameKind (NZ (NG a)) (N7 kv)&&L2 Sh.fn (NV kv))=true/\UQ a/\UP a/\OB Tryz.prog (GG b) 138 [X6 c d,.sl (OM NM e),d9 a] λ(rs:ON D)=>∃(n:Int),mT rs n/\OB Tryz.prog (GG b) 138 [X6 c d,.sl (OM NM e),zk h87q5 (OM Nc (NH a)) (N1 1)] λ(rs:ON D)=>∃(n_1:Int),mT rs n_1/\OB Tryz.prog (GG b) 137 [OH .i64 n,.int .i64 n_1] λ(rs:ON D)=>∃(n:Int),mT rs n/\∃(k:Nat),GJ ((λ(_:Unit)=>none) ()) (λ(val:D)=>(λ(val:D)=>(λ(x:D)=>some (D.toFn x)) val) val) (zX (Ar b) (NZ (NG a)))=some k/\s5 Tryz.prog k=true/\OB Tryz.prog (GG b) k [OH .i64 n] λ(rs:ON D)=>ZS rs c d a e)/\((NU a==9)=false->((NU a==10)=true->Nn Tryz.prog (GG b) 136 h87q15 (q9 c d e a) λ(rs:ON D) (H':ON Box)=>∃(b:Bool),sk rs b/\∃(l:ON D)(l_1:ON D)(l_2:ON D)(l_3:ON D)(l_4:ON D)(l_5:ON D)(l_6:ON D)(n:Int)(s:ON UInt8)(n_1:Int)(l_7:ON D)(l_8:ON D)(l_9:ON D),H'=h87q9 l l_1 l_2 l_3 l_4 l_5::qz l_6 n s n_1 l_7 l_8 l_9/\[OD !b]=vB c d a e)/\((NU a==10)=false->((NU a==11)=true->Nn Tryz.prog (GG b) 136 h87q15 (q9 c d e a) λ(rs:ON D) (H':ON Box)=>∃(b_1:Bool),sk rs b_1/\∃(l:ON D)(l_1:ON D)(l_2:ON D)(l_3:ON D)(l_4:ON D)(l_5:ON D)(l_6:ON D)(n:Int)(s:ON UInt8)(n_1:Int)(l_7:ON D)(l_8:ON D)(l_9:ON D),H'=h87q9 l l_1 l_2 l_3 l_4 l_5::qz l_6 n s n_1 l_7 l_8 l_9/\Nn Tryz.prog (GG b) 136 h87q6 (h87q9 l l_1 l_2 l_3 l_4 l_5::qz l_6 n s n_1 l_7 l_8 l_9) λ(rs:ON D) (H':ON Box)=>H'=h87q9 l l_1 l_2 l_3 l_4 l_5::qz l_6 n s n_1 l_7 l_8 l_9/\∃(b:Bool),sk rs b/\[OD (bif b_1 then b else false)]=vB c d a e)/\((NU a==11)=false->((NU a==12)=true->Nn Tryz.prog (GG b) 136 h87q15 (q9 c d e a) λ(rs:ON D) (H':ON Box)=>∃(b_1:Bool),sk rs b_1/\∃(l:ON D)(l_1:ON D)(l_2:ON D)(l_3:ON D)(l_4:ON D)(l_5:ON D)(l_6:ON D)(n:Int)(s:ON UInt8)(n_1:Int)(l_7:ON D)(l_8:ON D)(l_9:ON D),H'=h87q9 l l_1 l_2 l_3 l_4 l_5::qz l_6 n s n_1 l_7 l_8 l_9/\Nn Tryz.prog (GG b) 136 h87q6 (h87q9 l l_1 l_2 l_3 l_4 l_5::qz l_6 n s n_1 l_7 l_8 l_9) λ(rs:ON D) (H':ON Box)=>H'=h87q9 l l_1 l_2 l_3 l_4 l_5::qz l_6 n s n_1 l_7 l_8 l_9/\∃(b:Bool),sk rs b/\[OD (bif b_1 then true else b)]=vB c d a e)/\((NU a==12)=false->((NU a==13)=true->Nn Tryz.prog (GG b) 136 h87q15 (q9 c d e a) λ(rs:ON D) (H':ON Box)=>∃(b_1:Bool),sk rs b_1/\∃(l:ON D)(l_1:ON D)(l_2:ON D)(l_3:ON D)(l_4:ON D)(l_5:ON D)(l_6:ON D)(n:Int)(s:ON UInt8)(n_1:Int)(l_7:ON D)(l_8:ON D)(l_9:ON D),H'=h87q9 l l_1 l_2 l_3 l_4 l_5::qz l_6 n s n_1 l_7 l_8 l_9/\Nn Tryz.prog (GG b) 136 h87q6 (h87q9 l l_1 l_2 l_3 l_4 l_5::qz l_6 n s n_1 l_7 l_8 l_9) λ(rs:ON D) (H':ON Box)=>H'=h87q9 l l_1 l_2 l_3 l_4 l_5::qz l_6 n s n_1 l_7 l_8 l_9/\∃(b:Bool),sk rs b/\[OD (bif !b_1 then true else b)]=vB c d a e)/\((NU a==13)=false->(LV (Fp b) λ(kv:D×D)=>sameKind (OH .i64 (NU a)) (N7 kv)&&L2 Sh.fn (NV kv))=true/\(IR (zX (Fp b) (OH .i64 (NU a)))=true->UQ a/\UP a/\OB Tryz.prog (GG b) 139 [OE (OM NM e),d9 a] λ(rs:ON D)=>∃(n:Int),mT rs n/\OB Tryz.prog (GG b) 139 [OE (OM NM e),zk h87q5 (OM Nc (NH a)) (N1 1)] λ(rs:ON D)=>∃(n_1:Int),mT rs n_1/\∃(k:Nat),GJ ((λ(_:Unit)=>none) ()) (λ(val:D)=>(λ(val:D)=>(λ(x:D)=>some (D.toFn x)) val) val) (zX (Fp b) (OH .i64 (NU a)))=some k/\s5 Tryz.prog k=true/\OB Tryz.prog (GG b) k [X6 c d,.int .i64 n,.int .i64 n_1] λ(rs:ON D)=>ZS rs c d a e)/\(IR (zX (Fp b) (OH .i64 (NU a)))=false->(Lz Tryz.prog (GG b) 86 [NY [.sl (OM Nx (Ni c)),.sl (OM N6 (Nh c)),.sl (OM N9 (Nd c)),.sl (OM Ny (Nb c)),.sl (OM N8 (Nj c))],.sl (OM N3 (NJ a))] λ(av:AV)=>av=Ml 135 [] (UO c a))/\Nn Tryz.prog (GG b) 135 (NE 5::UO c a) [Ns 166 [.d (.sl (OM Nx (Ni c))),.d (.sl (OM N6 (Nh c))),.d (.sl (OM N9 (Nd c))),.d (.sl (OM Ny (Nb c))),.d (.sl (OM N8 (Nj c))),.d (.sl (OM Nr d))],.cells 146 [.d (.sl (OM NM e))],.cells 85 [.d (.int .i64 (NU a)),.d (.str (NG a)),.d (.int .i64 (NA a)),.d (.sl (OM Nc (NH a))),.d (.sl (OM N3 (NJ a))), .d (.sl (OM NX (Nt a)))],.cells 3 [.d (.int .i64 0)],.cells 3 [.d (.int .i64 0)],.loop h87q1 (ze c87) (zo c87) (zc c87) none Mg] λ(x:ON D) (H':ON Box)=>∃(l:ON D)(l_1:ON D)(l_2:ON D)(l_3:ON D)(l_4:ON D)(l_5:ON D)(l_6:ON D)(n:Int)(s:ON UInt8)(n_1:Int)(l_7:ON D)(l_8:ON D)(l_9:ON D)(n_2:Int)(n_3:Int)(pend:OK Np)(st:NQ),H'=[h87q9 l l_1 l_2 l_3 l_4 l_5,.cells 146 [.d (.sl l_6)],ZQ n s n_1 l_7 l_8 l_9,.cells 3 [.d (.int .i64 n_2)],.cells 3 [.d (.int .i64 n_3)],.loop h87q1 (ze c87) (zo c87) (zc c87) pend st]/\st≠J3/\(pend=none/\ZP n n_2 n_3 c d a e n_1∨pend=some Lg/\[OD false]=vB c d a e∨pend=some (Jk (aa c87))/\ZP n n_2 n_3 c d a e n_1)))))))
theorem h87 (hM:M.Fn) (s:Sc) (w:ON Pl) (f:Fm) (hs:s.Fits):∀env:ON Ev,Pre s w env f->OB Tryz.prog (GG M) 87 [lC s w,.sl (env.map NM),f.d] (· = [.bool (f.sem s w env)]):=by
 induction f using KY with
 |h f ih =>
 intro env hp;have hlen:=hp.len;have h86:=λ(bs:ON Bd) (hb:bs.length<1099511627776)=>h86 (G:=GG M) s bs hs hb;have h136:=λ(x:Fm) (i:Nat) (r:Bool) (hx:f.l[i]? = some x) h=>h136 (G:=GG M) s w env f x i r hx h;have h138:=λ(t:Tm) a b=>h138 (G:=GG M) s w env t hs (by omega) a b;have hat:=λk a b hk hw hv op=>S1 (G:=GG M) s w env k a b hs hk hw hv op;rw[zf]at *;unfold lC vl at *;have hcl:=f.d_eq;rw[hcl];refine zr (LL [(1000020,vI Tryz.prog (GG M) [3,4,5,10,11] (λ_=>.clo 135 [] [.iptr [vl (zP s f.bs)],.iptr [.sl (f.bs.map N3)]]) c87)]) Tryz.func87 ⟨_,rfl⟩ (zm (yL (by kernel_rfl))) ?_;apply @z7 _ (((NU f==1)=true->((NU f==1)=true->ZT f s w env)/\((NU f==1)=false->ZO f M s w env))/\((NU f==1)=false->((NU f==2)=true->ZT f s w env)/\((NU f==2)=false->ZO f M s w env)))
 ·kernel_rfl
 delta ZT vB ZO UQ d9 h87q5 UP X6 mT ZS sk h87q15 h87q21 q9 d8 h87q9 ZR qz ZQ h87q6 UO h87q1 ZP;have hin:=hp.inE;have hsh:=uK hp.form;have hty:=hp.ty;rw[Fm.ty_eq]at hty;have hwk:=hp.wk;have t0:N1 0=0:=rfl;have t1:N1 1=1:=rfl;have b1:∀{k n:Int},(k==n)=true->k=n:=λh=>beq_iff_eq.1 h;have b2:∀{k n:Int},(k==n)=false->¬ k=n:=λh=>by rw[←Iu,beq_iff_eq]at h;exact h
 refine⟨λh1=>⟨λ_=>?_,λh=>No (b1 h1) (b2 h)⟩,λn1=>⟨λh2=>?_,λn2=>⟨λh9=>?_,λn9=>⟨λh10=>?_,λn10=>⟨λh11=>?_,λn11=>⟨λh12=>?_,λn12=>⟨λh13=>?_,λn13=>⟨?_,λhs1=>?_,λhs0=>?_⟩⟩⟩⟩⟩⟩⟩⟩
 ·have k1:=b1 h1;rw[h1];obtain⟨k,op,n,ts,bs,l⟩:=f;have k1:k=1:=k1;subst k1;simp[Ll]
 ·have k1:=b1 h2;rw[n1];obtain⟨k,op,n,ts,bs,l⟩:=f;have k1:k=2:=k1;subst k1;simp[Ll]
 ·have k9:=b1 h9;rw[t0,t1];cases hsh with
  |cmp sg a b hsg ha1 hb1 =>
   obtain⟨⟨g0,g1⟩,v0,v1⟩:=UR a b;have hty:Ve (env.map ME) sg a b=0:=by rw[Nf (show(Kt 9 sg 0 [a,b] [] []).kind=9 from rfl)]at hty;exact hty
   have hA:(zL (env.map ME) a).2=0/\(zL (env.map ME) b).2=0:=by
    unfold Ve at hty;by_cases h0:(zL (env.map ME) a).2=0
    ·rw[N2 (by simp[h0])]at hty;by_cases h1:(zL (env.map ME) b).2=0
     ·exact⟨h0,h1⟩
     ·rw[Nf h1]at hty;exact No hty h1
    ·rw[Nf h0]at hty;exact No hty h0
   simp only[NH,NU,NG];rw[g0,g1];refine⟨by simp only[jk sg];exact hM.esA,v0,v1,(h138 a (λh=>q8 hA.1 h) (Ur hin hA.1)).use ⟨_,rfl,(h138 b (λh=>q8 hA.2 h) (Ur hin hA.2)).use ⟨_,rfl,(Px _ _).use ⟨_,rfl,?_⟩⟩⟩⟩;obtain⟨j,hj,hok,hfn⟩:=S0 (G:=GG M) hsg (nw s (uw env a.name) a) (nw s (uw env b.name) b);refine⟨j,?_,hok,hfn.use ⟨_,rfl,rfl⟩⟩;rw[hM.esG,hj];rfl
  |const k hk=>rcases hk with rfl|rfl<;>cases k9
  |atom k a b hk=>exact No k9 (by show ¬ k=9;omega)
  |not x hx=>cases k9
  |two k x y hk hx hy=>rcases hk with rfl|rfl|rfl<;>cases k9
  |quant k bs x hk hb h1 h6 hx=>rcases hk with rfl|rfl<;>cases k9
  |count k n bs x hk h0 hn hb h1 h6 hx=>rcases hk with rfl|rfl<;>cases k9
 ·have k10:=b1 h10;rcases jF hsh with⟨k,hk,rfl⟩|hk|⟨x,hx,rfl⟩|⟨k,x,y,hk,hx,hy,rfl⟩|⟨k,n,bs,x,hk,hx,rfl⟩
  ·rcases hk with rfl|rfl<;>cases k10
  ·omega
  ·have ix:=ih x (by simp[Nt]) env (TD hs hx hp);refine(h136 x 0 _ rfl ix).mono ?_;rintro rs H' ⟨rfl,rfl⟩;exact⟨_,rfl,_,_,_,_,_,_,_,_,_,_,_,_,_,rfl,by simp[Ll,Kj]⟩
  ·rcases hk with rfl|rfl|rfl<;>cases k10
  ·exact No k10 (by show ¬ k=10;omega)
 ·have kk:=b1 h11;rcases jF hsh with⟨k,hk,rfl⟩|hk|⟨x,hx,rfl⟩|⟨k,x,y,hk,hx,hy,rfl⟩|⟨k,n,bs,x,hk,hx,rfl⟩
  ·rcases hk with rfl|rfl<;>cases kk
  ·omega
  ·cases kk
  ·have kk:k=11:=kk;subst kk;have hpp:=eY hs hk hx hy hp;have ix:=ih x (by simp[Nt]) env hpp.1;have iy:=ih y (by simp[Nt]) env hpp.2;refine(h136 x 0 _ rfl ix).mono ?_;rintro rs H' ⟨rfl,rfl⟩;refine⟨_,rfl,_,_,_,_,_,_,_,_,_,_,_,_,_,rfl,(h136 y 1 _ rfl iy).mono ?_⟩;rintro rs H' ⟨rfl,rfl⟩;refine⟨rfl,_,rfl,?_⟩;cases hX:Ll s w x env<;>cases hY:Ll s w y env<;>simp[Ll,Kj,hX,hY]
  ·exact No kk (by show ¬ k=11;omega)
 ·have kk:=b1 h12;rcases jF hsh with⟨k,hk,rfl⟩|hk|⟨x,hx,rfl⟩|⟨k,x,y,hk,hx,hy,rfl⟩|⟨k,n,bs,x,hk,hx,rfl⟩
  ·rcases hk with rfl|rfl<;>cases kk
  ·omega
  ·cases kk
  ·have kk:k=12:=kk;subst kk;have hpp:=eY hs hk hx hy hp;have ix:=ih x (by simp[Nt]) env hpp.1;have iy:=ih y (by simp[Nt]) env hpp.2;refine(h136 x 0 _ rfl ix).mono ?_;rintro rs H' ⟨rfl,rfl⟩;refine⟨_,rfl,_,_,_,_,_,_,_,_,_,_,_,_,_,rfl,(h136 y 1 _ rfl iy).mono ?_⟩;rintro rs H' ⟨rfl,rfl⟩;refine⟨rfl,_,rfl,?_⟩;cases hX:Ll s w x env<;>cases hY:Ll s w y env<;>simp[Ll,Kj,hX,hY]
  ·exact No kk (by show ¬ k=12;omega)
 ·have kk:=b1 h13;rcases jF hsh with⟨k,hk,rfl⟩|hk|⟨x,hx,rfl⟩|⟨k,x,y,hk,hx,hy,rfl⟩|⟨k,n,bs,x,hk,hx,rfl⟩
  ·rcases hk with rfl|rfl<;>cases kk
  ·omega
  ·cases kk
  ·have kk:k=13:=kk;subst kk;have hpp:=eY hs hk hx hy hp;have ix:=ih x (by simp[Nt]) env hpp.1;have iy:=ih y (by simp[Nt]) env hpp.2;refine(h136 x 0 _ rfl ix).mono ?_;rintro rs H' ⟨rfl,rfl⟩;refine⟨_,rfl,_,_,_,_,_,_,_,_,_,_,_,_,_,rfl,(h136 y 1 _ rfl iy).mono ?_⟩;rintro rs H' ⟨rfl,rfl⟩;refine⟨rfl,_,rfl,?_⟩;cases hX:Ll s w x env<;>cases hY:Ll s w y env<;>simp[Ll,Kj,hX,hY]
  ·exact No kk (by show ¬ k=13;omega)
 ·simp only[oH f.kind];exact hM.eaA
 ·rw[hM.eaG]at hs1 ⊢;rw[t0,t1];cases hsh with
  |atom k a b hk ha1 hb1 ha2 hb2 =>
   obtain⟨⟨g0,g1⟩,v0,v1⟩:=UR a b;have hk9:¬ k=9:=by omega
   have hab:y7 k=true:=by unfold y7;simp;omega
   have hty:bi (env.map ME) k a b=0:=by rw[N2 (show ¬ (Kt k [] 0 [a,b] [] []).kind=9 from hk9),Nf (show y7 (Kt k [] 0 [a,b] [] []).kind=true from hab)]at hty;exact hty
   have hA:gQ (env.map ME) a (bj k).1=0/\gQ (env.map ME) b (bj k).2=0:=by
    unfold bi at hty;by_cases h0:gQ (env.map ME) a (bj k).1=0
    ·rw[N2 (by simp[h0])]at hty;exact⟨h0,hty⟩
    ·rw[Nf h0]at hty;exact No hty h0
   simp only[NH,NU,NG];rw[g0,g1];refine⟨v0,v1,(RH a env (by omega) (ft hA.1 ha2)).use ⟨_,rfl,(RH b env (by omega) (ft hA.2 hb2)).use ⟨_,rfl,?_⟩⟩⟩;obtain⟨j,hj,hok,hfn⟩:=hat k a b hk hwk (λh=>by have:=SS hin ha2 hA.1;rw[h]at this;exact this) [];refine⟨j,by rw[hj];rfl,hok,hfn.use ⟨_,rfl,?_⟩⟩;rw[Un (f:=Kt k [] 0 [a,b] [] []) (show 3<=k/\k<=9 by omega)];rfl
  |cmp sg a b hsg ha1 hb1=>exact No rfl (b2 n9)
  |const k hk=>rcases hk with rfl|rfl<;>simp[eaL,NU,IM]at hs1
  |not x hx=>exact No rfl (b2 n10)
  |two k x y hk hx hy=>rcases hk with rfl|rfl|rfl<;>simp[eaL,NU,IM]at hs1
  |quant k bs x hk hb h1 h6 hx=>rcases hk with rfl|rfl<;>simp[eaL,NU,IM]at hs1
  |count k n bs x hk h0 hn hb h1 h6 hx=>rcases hk with rfl|rfl<;>simp[eaL,NU,IM]at hs1
 ·rw[hM.eaG]at hs0;rcases jF hsh with⟨k,hk,rfl⟩|hk|⟨x,hx,rfl⟩|⟨k,x,y,hk,hx,hy,rfl⟩|⟨k,n,bs,x,hk,hx,rfl⟩
  ·rcases hk with rfl|rfl
   ·exact No rfl (b2 n1)
   ·exact No rfl (b2 n2)
  ·exfalso;have n9:=b2 n9;have:f.kind=3∨f.kind=4∨f.kind=5∨f.kind=6∨f.kind=7∨f.kind=8:=by omega
   rcases this with h|h|h|h|h|h<;>rw[h]at hs0<;>cases hs0
  ·exact No rfl (b2 n10)
  ·rcases hk with rfl|rfl|rfl
   ·exact No rfl (b2 n11)
   ·exact No rfl (b2 n12)
   ·exact No rfl (b2 n13)
  have hb6:bs.length<=6:=by
   cases hsh with
   |quant k bs x hk hb h1 h6 hx=>exact h6
   |count k n bs x hk h0 hn hb h1 h6 hx=>exact h6
   |not x hx=>simp
  obtain⟨hmany,hpre⟩:=W6 hs hk.1 hx hp;have hT:(zb s bs).length<=1048577:=by
   have hm:=yd hs (c:=2097152) (by decide) bs;rcases IV hm.1 with h0|h0
   ·have:=eZ hs (c:=2097152) (by decide) h0 (by omega) bs.length (MS _);rw[La]at this;omega
   ·rw[jG h0.symm];decide
  have hsem:=W7 (s:=s) (w:=w) (k:=k) (n:=n) (bs:=bs) (x:=x) (env:=env) hk.1;have hC:∀y,ON.countP (λt=>Ll s w x (env++yR bs t)) (NW y (zb s bs))<=1048577:=λy=>Nat.le_trans IY (by rw[Kr];omega);refine⟨h86 bs (by omega),(Q4 (G:=GG M) s w env (Kt k [] n [] bs [x]) (λy=>((NW y (zb s bs)).countP (λt=>Ll s w x (env++yR bs t)):Nat)) bs (by omega) (λb _=>by have:=(tV hs b.sort).2;unfold zY at this;unfold cN;omega) (λy t ht=>?_)).mono ?_⟩
  ·have hm:=MX ht;have hy:y<(zb s bs).length:=by
    rcases M0 y (zb s bs).length with h|h
    ·exact h
    ·rw[My h]at ht;cases ht
   have hCy:=hC y;refine(PT (G:=GG M) s w env (Kt k [] n [] bs [x]) x t _ _ _ (by omega) (show bs.length<1099511627776 by omega) (Nat.le_of_eq (so hm).symm) rfl (by omega) (by omega) (by omega) (by omega) (ih x (by simp[Nt]) _ (hpre t hm))).mono ?_;rintro rs H' ⟨rfl,rfl⟩;refine⟨rfl,?_⟩;rw[yp ht,ON.countP_append,ON.countP_cons,ON.countP_nil];congr 1
   ·show(if Ll s w x (env++yR bs t)=true then _ else _)=_;cases Ll s w x (env++yR bs t)<;>simp
  ·rintro rs H' rfl;simp only[La];refine⟨_,_,_,_,_,_,_,_,_,_,_,_,_,_,_,_,_,rfl,by decide,.inl ⟨rfl,?_⟩⟩;have hs1:(λt=>Kj s w [x] 0 (env++yR bs t))=λt=>Ll s w x (env++yR bs t):=by funext t;rw[Kj]
   rw[hsem,hs1];unfold Zu;simp only[NU,NA];refine⟨λh=>?_,λh14=>⟨λh=>?_,λh15=>⟨λh=>?_,λh16=>?_⟩⟩⟩
   ·rw[Nf (b1 h)];congr 2;rw[MG,beq_iff_eq,beq_iff_eq];omega
   ·rw[N2 (b2 h14),Nf (b1 h)];exact pB (by omega)
   ·rw[N2 (b2 h14),N2 (b2 h15),Nf (b1 h)];exact pB D8
   ·rw[N2 (b2 h14),N2 (b2 h15),N2 (b2 h16)];exact pB D8
end
end Go.Fo
namespace Go.Fo
open Go Go.Sx Go.Proofs Go.RowKit
section
variable {G:Nat->OK (ON D)}
theorem PR (x:Int):OB Tryz.prog G 107 [.int .i32 x] (· = [.bool (vz x)]):=by
 refine zn Tryz.func107 ⟨_,rfl⟩ ?_;apply @z7 _ ([OD (bif bif bif decide (97<=x)then decide (x<=122)else false then true else bif decide (48<=x)then decide (x<=57)else false then true else x==95)]=[OD (vz x)])
 ·kernel_rfl
 unfold vz;simp only[yi,zM]
theorem PQ (x:Int):Nn Tryz.prog G 108 [.d (.int .i32 x),.iptr [.fn 107]] [] (λrs H'=>rs=[.bool (!vz x)]/\H'=[]):=by
 refine zF Tryz.func108 rfl ⟨_,_,rfl,rfl⟩ ?_;apply @z7 _ (OB Tryz.prog G 107 [OH .i32 x] λ(rs:ON D)=>∃(b:Bool),rs=[OD b]/\[OD !b]=[OD !vz x]/\([]:ON Box)=[])
 ·kernel_rfl
 exact(PR x).use ⟨_,rfl,rfl,rfl⟩
theorem PP (s:ON UInt8):Nn Tryz.prog G 109 [.d (.str s),.clo 108 [] [.ptr 0 0]] [.cells 188 [.d (.fn 107)]] (λrs H'=>rs=[.bool (s.any λc=>!vz c.toNat)]/\H'=[.cells 188 [.d (.fn 107)]]):=by
 refine Nn.of_below (v:= .bool (s.any λc=>!vz c.toNat)) (λI J w=>R1.bool _) λc w vs hr hg hvs=>?_;obtain⟨v1,vs1,rfl,h1,h2⟩:=hvs.cons_right;obtain⟨v2,vs2,rfl,h3,h4⟩:=h2.cons_right;have:=h4.nil_right;subst this;have hz:=pk hr h3 (r:= .clo 108 [] [.iptr [.fn 107]]) rfl;have:=h1.str;subst this;have hr1:=hr.freeze;have hg1:GR G (c.freeze [.cells 188 [.d (.fn 107)]]) w:=hg.ext (Ext.freeze c _ w);generalize hcz:c.freeze [.cells 188 [.d (.fn 107)]]=cz at hz hr1 hg1;have hρ:cz.ρ=[]:=by subst hcz;rfl
 clear h3 hvs h2 h4 h1;cases hz with
 |@clo _ _ _ fv cv l1 l2 g1 g2 =>
  have:fv=[]:=Ju l1.symm;subst this;have hp:PredGrows Tryz.prog 108 cv.toArray (λx=>!vz (x:Int)) w:=by
   intro W x hx hb;have ha:z8 (λv a=>RA cz [] W a v) (BL .i32 x::cv) [.d (.int .i32 x),.iptr [.fn 107]] :=
    z8.cons (.d (R1.int _ _)) ⟨l2.symm,λi v a hv hA=>(g2 i a v hA hv).ext (EE hb hr1) (zp.refl _ _)⟩
   have hc:=(PQ (G:=G) (x:Int)).run cz W _ (HR.below hb hρ hr1) (hg1.ext (EE hb hr1)) ha;have e: #[encR x]++cv.toArray=(BL .i32 x::cv).toArray:=by simp[encR]
   rw[e];refine hc.mono λen w' h=>?_;obtain⟨v,rs,c',H',rfl,⟨rfl,rfl⟩,_,hE,_,_,hv⟩:=h;cases hv;exact⟨rfl,hE.is_below' hρ⟩
  have hcf:=Tryz.strings_ContainsFunc_grows 108 cv.toArray (enters_of Tryz.func108 (by kernel_rfl) rfl) (λx=>!vz (x:Int)) ⟨s.toArray⟩ w hp;rw[TO (λr hr=>by unfold vz;simp;omega)]at hcf;exact hcf
theorem PO (hG:∃m,G 4=some [.int .i64 m]) (s t:ON UInt8) (hs:s.length<4294967281):OB Tryz.prog G 110 [.str s,.str t] (· = [.bool (Lib.contains s t)]):=by obtain⟨m,hm⟩:=hG;refine⟨⟨_,rfl⟩,λc w vs hρ hr hg hvs=>?_⟩;obtain⟨v1,vs1,rfl,h1,h2⟩:=hvs.cons_right;obtain⟨v2,vs2,rfl,h3,h4⟩:=h2.cons_right;have:=h4.nil_right;subst this;cases h1;cases h3;obtain⟨_,v,hv,h5⟩:=hg 4 _ hm 0 _ rfl;cases h5;refine(Tryz.strings_Contains ⟨s.toArray⟩ ⟨t.toArray⟩ m w (by show s.toArray.size<_;simpa using hs) hv).mono λe w' h=>?_;obtain⟨rfl,rfl⟩:=h;exact⟨_,_,c,rfl,rfl,hρ,Ext.refl _ _,hr,R1.bool _⟩
def UN (a:ON UInt8):Bool:=bif a==Mm (Mn (Mi #[]))then true else decide ((↑(OJ a):Int)>64)
def UM (a:ON UInt8) (b:Bool):Bool:=bif bif UN a then true else decide ((↑(UInt8.toNat (ON.getD a (N1 0) (0:UInt8))):Int)<97)then true else b
def h57q4:ON UInt8:=Mm (Mn (Mi #[(32:UInt8)]))
def h57q3:Nat:=OJ h57q4
theorem Od (hG:∃m,G 4=some [.int .i64 m]) (s:ON UInt8):OB Tryz.prog G 57 [.str s] (· = [.bool (yO s)]):=by
 refine zn Tryz.func57 ⟨_,rfl⟩ ?_;apply @z7 _ ((UN s=false->(0:Int)<=0/\N1 0<OJ s)/\Nn Tryz.prog G 109 [OF (.str s),.clo 108 [] [N5 0 0]] [Ns 188 [.d (.fn 107)]] λ(rs:ON D) (H':ON Box)=>H'=[Ns 188 [.d (.fn 107)]]/\∃(b:Bool),rs=[OD b]/\(UM s b=true->[OD false]=[OD (yO s)])/\(UM s b=false->Nat.le (h57q3+OJ s) 9223372036854775807/\Nat.le (OJ (h57q4++s)+h57q3) 9223372036854775807/\OB Tryz.prog G 110 [NZ (Mm (Mn (Mi (ON.toArray (IL (IL [(32:UInt8),(104:UInt8),(97:UInt8),(114:UInt8),(100:UInt8),(32:UInt8),(115:UInt8),(111:UInt8),(102:UInt8),(116:UInt8),(32:UInt8),(101:UInt8),(97:UInt8),(99:UInt8),(104:UInt8),(32:UInt8),(97:UInt8),(108:UInt8),(108:UInt8),(32:UInt8),(115:UInt8),(111: UInt8),(109:UInt8),(101:UInt8),(32:UInt8),(108:UInt8),(101:UInt8),(97:UInt8),(115:UInt8),(116:UInt8),(32:UInt8),(109:UInt8),(111:UInt8)] [(115:UInt8),(116:UInt8),(32:UInt8),(116:UInt8),(114:UInt8),(117:UInt8),(101:UInt8),(32:UInt8),(102:UInt8),(97:UInt8),(108:UInt8),(115:UInt8),(101:UInt8),(32:UInt8),(97:UInt8),(116:UInt8),(32:UInt8),(105:UInt8),(110:UInt8),(32:UInt8),(116:UInt8),(101:UInt8),(97:UInt8),(99:UInt8),(104:UInt8),(101:UInt8),(115:UInt8),(32:UInt8),(97:UInt8),(116:UInt8),(116:UInt8),(101:UInt8),(110:UInt8),(100:UInt8)]) (IL [(115:UInt8),(32:UInt8),(97:UInt8),(119:UInt8),(97:UInt8),(121:UInt8),(32:UInt8),(115:UInt8),(104:UInt8),(117:UInt8),(116:UInt8),(32:UInt8),(100:UInt8),(97:UInt8),(121: UInt8),(32:UInt8),(104:UInt8),(111:UInt8),(117:UInt8),(114:UInt8),(32:UInt8),(104:UInt8),(111:UInt8),(117:UInt8),(115:UInt8),(101:UInt8),(32:UInt8),(115:UInt8),(101:UInt8),(97:UInt8),(116:UInt8),(115:UInt8),(32:UInt8),(115:UInt8)] [(105:UInt8),(122:UInt8),(101:UInt8),(32:UInt8),(108:UInt8),(101:UInt8),(115:UInt8),(115:UInt8),(111:UInt8),(110:UInt8),(32:UInt8),(115:UInt8),(108:UInt8),(111:UInt8),(116:UInt8),(32:UInt8),(114:UInt8),(111:UInt8),(111:UInt8),(109:UInt8),(32:UInt8),(112:UInt8),(101:UInt8),(114:UInt8),(115:UInt8),(111:UInt8),(110:UInt8),(32:UInt8),(103:UInt8),(114:UInt8),(111:UInt8),(117:UInt8),(112:UInt8),(32:UInt8)])))))),.str (h57q4++s++h57q4)] λ(rs:ON D)=>∃(b:Bool),rs=[OD b]/\[OD !b] = [OD (yO s)]))
 ·kernel_rfl
 delta UN UM h57q3 h57q4;have e0:Mm (Mn { data:= #[] })=([]:ON UInt8):=rfl;refine⟨λh=>⟨by decide,?_⟩,(PP s).mono ?_⟩
 ·rw[e0]at h;have hne:s≠[]:=λe=>by subst e;simp at h
  exact ON.length_pos_iff.2 hne
 rintro rs H' ⟨rfl,rfl⟩;refine⟨rfl,_,rfl,λh=>?_,λh=>?_⟩
 ·have hodd:bt s=true:=by unfold bt;rw[←h];simp only[yi,e0];rfl
  rw[br,hodd];rfl
 ·have hodd:bt s=false:=by unfold bt;rw[←h];simp only[yi,e0];rfl
  have hl:s.length<=64:=by unfold bt at hodd;simp only[LA,M2]at hodd;omega
  refine⟨?_,?_,(PO hG _ _ ?_).use ⟨_,rfl,?_⟩⟩
  ·show 1+s.length<=9223372036854775807;omega
  ·show([32]++s).length+1<=9223372036854775807;simp;omega
  ·decide
  ·rw[br,hodd];rfl
end
end Go.Fo
namespace Go.Fo
open Go Go.Sx Go.Proofs
section
variable {G:Nat->OK (ON D)}
def c26:Np:=unScope (zz (zz (z6 Tryz.f26) 0) 0)
def tm26:ON AV:=[.any,.ptr 0 0,.ptr 1 0,.any,.ptr 3 0,.any,.any,.any,.any,.any,.any,.any,.any,.any,.any,.any,.any,.any,.any,.any,.any,.any,.any,.any,.any,.any,.any,.any,.any,.any,.any,.any,.any,.any,.any,.any,.any,.any,.any,.any,.any,.any,.any,.any,.any,.any,.any,.any,.any,.any,.any,.any,.any,.any,.any,.any,.any,.any,.any,.any,.any,.any,.any,.any,.any,.any,.any,.any,.any,.any,.any,.any,.any,.any,.any,.any,.any,.any,.any,.any,.any,.any,.any,.any,.any,.any,.any,.any,.any,.any,.any,.any,.any,.any,.any,.any,.any,.any,.any,.any,.any,.any,.any,.any,.any,.any,.any,.any,.any,.any,.any,.any,.any,.any,.any,.any,.any,.any,.any,.any,.any,.any,.any,.any,.any,.any,.any,.any,.any,.any,.any,.any,.any,.any,.any,.any]
def yB (l:ON Nm):ON (D×D):=l.map λn=>(.str n,.bool true)
def hK (s:Sc) (l:ON Nm):ON Box:=[.cells 28 (pc s),.cells 43 [.d (.int .i64 0)],.map (yB l),.cells 122 [.map 2],.loop tm26 (ze c26) (zo c26) (zc c26) none .ready]
def Ti (s:Sc) (l:ON Nm):ON Box:=[.cells 28 (pc s),.cells 43 [.d (.int .i64 1)],.map (yB l),.cells 122 [.map 2],.loop tm26 (ze c26) (zo c26) (zc c26) (some .ret) .done]
theorem X7 (n:Nm) (l:ON Nm):((yB l).all λkv=>sameKind (.str n) kv.1&&L2 .bool kv.2)=true:=by rw[ND];intro d hd;obtain⟨t,_,rfl⟩:=Mj.1 hd;rfl
theorem bA (n:Nm):∀l:ON Nm,zX (yB l) (.str n)=if l.contains n then some (.bool true)else none
 |[]=>rfl
 |a::l=>by
  have ih:=bA n l;unfold zX at *;unfold yB at *;rw[Mf,KP];by_cases e:n=a
  ·subst e;simp[beqD]
  ·have:beqD (.str n) (.str a)=false:=by simp[beqD,e]
   rw[this];simp only[Hu,beq_eq_false_iff_ne.2 e,LF];exact ih
theorem Q5 (b:Bool) (X Y:ON Box):∃rs H',(b=true->rs=[OD true]/\H'=X)/\(b=false->rs=[OD false]/\H'=Y):=by
 cases b
 ·refine⟨[.bool false],Y,⟨λh=>?_,λ_=>⟨rfl,rfl⟩⟩⟩;cases h
 ·refine⟨[.bool true],X,⟨λ_=>⟨rfl,rfl⟩,λh=>?_⟩⟩;cases h
theorem Wq (b:Bool) (X:ON Box) (s:Sc):∃(rs:ON D) (H':ON Box),rs=[]/\(b=true->H'=X)/\(b=false->∃m,H'=Ti s m):=by
 cases b
 ·refine⟨[],Ti s [],rfl,λh=>?_,λ_=>⟨[],rfl⟩⟩;cases h
 ·refine⟨[],X,rfl,λ_=>rfl,λh=>?_⟩;cases h
theorem ub {l:ON Nm}{x:Nat}{z:Nm}(h:l[x]? = some z) (hp:zZ (l.take x)=true):zZ (l.take (x+1))=(yO z&& !(l.take x).contains z):=by
 unfold zZ at *;rw[NK]at hp;rw[MG];simp only[NK,NR,Lc]at hp ⊢;rw[jO h,yp h,J2];simp only[NK,J7,CG,Ei];have:(NW x l).contains z=false↔z∉NW x l:=by rw[←Iu,Jf]
 rw[this];constructor
 ·rintro⟨⟨_,h1⟩,_,h2⟩;exact⟨h1,h2⟩
 ·rintro⟨h1,h2⟩;exact⟨⟨hp.1,h1⟩,hp.2,h2⟩
theorem tQ {l:ON Nm}{x:Nat}(h:zZ l=true):zZ (l.take x)=true:=by unfold zZ at *;simp only[NK,NR,ND]at h ⊢;exact⟨λn hn=>h.1 n (Je hn),h.2.sublist (E0 _ _)⟩
theorem X8 (n:Nm):∀l:ON Nm,l.contains n=false->updD (yB l) (.str n) (.bool true)=yB (l++[n])
 |[],_=>rfl
 |a::l,h=>by simp only[Hu,LA]at h;have ih:=X8 n l h.2;have:beqD (.str n) (.str a)=false:=h.1;show(if beqD (.str n) (.str a)=true then _ else _)=_;rw[this];show(NZ a,OD true)::updD (yB l) (.str n) (.bool true)=_;rw[ih];rfl
def a7 (a:ON Nm) (b:Nm) (c:Bool):Bool:=bif Kz (Nz (zX (yB a) (NZ b)) (OD false))then true else !c
def pZ (a:Nm) (b:ON Nm):Bool:=yO a&& !ON.contains b a
def yKq5:ON D:=[OD false]
def yKq7:ON D:=[OD true]
def sj (a:Sc):Box:=Ns 28 [.d (.sl (OM Nx (Ni a))),.d (.sl (OM N6 (Nh a))),.d (.sl (OM N9 (Nd a))),.d (.sl (OM Ny (Nb a))),.d (.sl (OM N8 (Nj a)))]
def yKq2:ON AV:=[OI,.ptr 0 0,.ptr 1 0,.any,.ptr 3 0,.any,.any,.any,.any,.any,.any,.any,.any,.any,.any,.any,.any,.any,.any,.any,.any,.any,.any,.any,.any,.any,.any,.any,.any,.any,.any,.any,.any,.any,.any,.any,.any,.any,.any,.any,.any,.any,.any,.any,.any,.any,.any,.any,.any,.any,.any,.any,.any,.any,.any,.any,.any,.any,.any,.any,.any,.any,.any,.any,.any,.any,.any,.any,.any,.any,.any,.any,.any,.any,.any,.any,.any,.any,.any,.any,.any,.any,.any,.any,.any,.any,.any,.any,.any,.any,.any,.any,.any,.any,.any,.any,.any,.any,.any,.any,.any,.any,.any,.any,.any,.any,.any,.any,.any,.any,.any,.any,.any,.any,.any,.any,.any,.any,.any,.any,.any,.any,.any,.any,.any,.any,.any,.any,.any,.any,.any,.any,.any,.any,.any,.any]
def tP (a:Sc) (b:ON Nm):ON Box:=[sj a,.cells 43 [.d (.int .i64 1)],.map (yB b),.cells 122 [.map 2],.loop yKq2 (ze c26) (zo c26) (zc c26) (some Lg) J4]
def yKq9:ON Box:=[Ns 122 [.map 2],.loop yKq2 (ze c26) (zo c26) (zc c26) none Mg]
def a8 (a:Sc) (b:ON Nm) (c:Nm):ON Box:=sj a::Ns 43 [.d (.int .i64 0)]::Kw (yB (b++[c]))::yKq9
def az (a:Sc) (b:ON Nm) (c:Nm):ON Box:=sj a::Ns 43 [.d (.int .i64 0)]::Kw (updD (yB b) (NZ c) (OD true))::yKq9
theorem UL (hG:∃m,G 4=some [.int .i64 m]) (s:Sc) (i:Int) (nm:Nm) (l:ON Nm):Mo Tryz.prog G 4 [.d (.int .i64 i),.d (.str nm)] (hK s l) (λrs H'=>((yO nm&& !l.contains nm)=true->rs=[.bool true]/\H'=hK s (l++[nm]))/\((yO nm&& !l.contains nm)=false->rs=[.bool false]/\H'=Ti s l)):=by
 refine Jl (tm:=tm26) (ps:=ze c26) (asn:=zo c26) (bd:=zc c26) mixed L0 rfl (by kernel_rfl) rfl rfl (Q5 _ _ _) (λ_=>nC (by kernel_rfl)) (λ_=>nC (by kernel_rfl)) ?_;apply @z7 _ ((LV (yB l) λ(kv:D×D)=>sameKind (NZ nm) (N7 kv)&&L2 Jy (NV kv))=true/\OB Tryz.prog G 57 [NZ nm] λ(rs:ON D)=>∃(b:Bool),rs=[OD b]/\(a7 l nm b=true->(pZ nm l=true->yKq5=yKq7/\tP s l=a8 s l nm)/\(pZ nm l=false->yKq5=yKq5/\tP s l=tP s l))/\(a7 l nm b=false->(LV (yB l) λ(kv:D×D)=>sameKind (NZ nm) (N7 kv))=true/\(pZ nm l=true->yKq7=yKq7/\az s l nm=a8 s l nm)/\(pZ nm l=false->yKq7=yKq5/\az s l nm=tP s l)))
 ·kernel_rfl
 delta a7 pZ yKq5 yKq7 tP sj yKq2 a8 yKq9 az;have hl:Kz (Nz (zX (yB l) (NZ nm)) (OD false))=l.contains nm:=by rw[bA];cases l.contains nm<;>rfl
 rw[hl];refine⟨X7 nm l,(Od hG nm).use ⟨_,rfl,λh=>?_,λh=>?_⟩⟩
 ·have hc:(yO nm&& !l.contains nm)=false:=by cases h1:yO nm<;>cases h2:l.contains nm<;>rw[h1,h2]at h<;>first|rfl|cases h
  rw[hc];exact⟨λh=>No h (by decide),λ_=>⟨rfl,rfl⟩⟩
 ·have hc:l.contains nm=false/\yO nm=true:=by cases h1:yO nm<;>cases h2:l.contains nm<;>rw[h1,h2]at h<;>first|exact⟨rfl,rfl⟩|cases h
  refine⟨?_,?_⟩
  ·have:=X7 nm l;rw[ND]at this ⊢;intro kv hkv;have:=this kv hkv;rw[NK]at this;exact this.1
  ·rw[hc.1,hc.2,X8 nm l hc.1];exact⟨λ_=>⟨rfl,rfl⟩,λh=>No h (by decide)⟩
def ua (a:ON Le):ON Nm:=OM (λ(x:Le)=>Le.name x) a
def sf (a:Nat) (b:ON Le):ON Nm:=NW a (ua b)
def qy (a:Nat) (b:ON Le):Prop:=a<=OJ b/\zZ (sf a b)=true
def h95Kq1:Box:=M7 yKq2 (ze c26) (zo c26) (zc c26) none Mg
def ow (a:ON Le) (b:Nat):D:=zk [NC,NB,NB] (OM N8 a) (N1 (b:Int))
def se (a:Sc) (b:Nat) (c:ON Le):ON Box:=sj a::Ns 43 [.d (.int .i64 0)]::Kw (yB (sf b c))::yKq9
def xm (a:ON D) (b:ON D) (c:ON D) (d:ON D) (e:ON D) (f:Int) (g:ON (D×D)) (h:OK Np) (i:NQ):ON Box:=[Ns 28 [.d (.sl a),.d (.sl b),.d (.sl c),.d (.sl d),.d (.sl e)],.cells 43 [.d (.int .i64 f)],.map g,.cells 122 [.map 2],.loop yKq2 (ze c26) (zo c26) (zc c26) h i]
def ov (a:Sc) (b:ON Le):ON Box:=sj a::Ns 43 [.d (.int .i64 0)]::Kw (yB (ua b))::yKq9
def ou (a:ON D) (b:ON Box) (c:ON Le) (d:Sc) (e:Nat):Prop:= ∃(b_1:Bool),a=[OD b_1]/\∃(l:ON D)(l_1:ON D)(l_2:ON D)(l_3:ON D)(l_4:ON D)(n:Int)(es:ON (D×D)),∃(pend:OK Np)(st:NQ),b=xm l l_1 l_2 l_3 l_4 n es pend st/\((!b_1)=true->([]:ON D)=[]/\(zZ (ua c)=true->xm l l_1 l_2 l_3 l_4 n es pend st=ov d c)/\(zZ (ua c)=false->∃(m:ON Nm),xm l l_1 l_2 l_3 l_4 n es pend st=tP d m))/\((!b_1)=false->∃(y:Nat),qy y c/\OJ c - y<OJ c - e/\(OF (.fn 96)=OF (.fn 96)/\NE 4=NE 4/\OM N8 c=OM N8 c/\(↑(OJ (OM N8 c)):Int)=(↑(OJ (OM N8 c)):Int)/\Nl .i64 ((e:Int)+1)=(y:Int)/\OG)/\(l=OM Nx (Ni d)/\l_1=OM N6 (Nh d)/\l_2=OM N9 (Nd d)/\l_3=OM Ny (Nb d)/\l_4=OM N8 (Nj d)/\OG)/\(n=0/\OG)/\es=yB (sf y c)/\(L1 2=L1 2/\OG)/\M7 yKq2 (ze c26) (zo c26) (zc c26) pend st=h95Kq1/\OG)
theorem PN (hG:∃m,G 4=some [.int .i64 m]) (s:Sc) (l:ON Le) (hl:l.length<1099511627776):Nn Tryz.prog G 95 [.d (.sl (l.map N8)),.d (.fn 96),.yld 4] (hK s []) (λrs H'=>rs=[]/\(zZ (l.map (·.name))=true->H'=hK s (l.map (·.name)))/\(zZ (l.map (·.name))=false->∃m,H'=Ti s m)):=by
 refine zg (LL [(1,zT (α:=Nat) Tryz.prog G L0 5 (zz (z6 Tryz.f95) 0) [1,2,9,10] (λi=>i<=l.length/\zZ ((l.map (·.name)).take i)=true) (λi=>l.length - i) (λi=>[(11,.d (.int .i64 i))]) (λH i=>hK s ((l.map (·.name)).take i)++H.drop 5))]) Tryz.func95 rfl (Wq _ _ _) (zm zy) ?_;apply @z7 _ (∃(x0:Nat),qy x0 l/\((OF (.fn 96)=OF (.fn 96)/\NE 4=NE 4/\OM N8 l=OM N8 l/\(↑(OJ (OM N8 l)):Int)=(↑(OJ (OM N8 l)):Int)/\(0:Int)=(x0:Int)/\OG)/\(OM Nx (Ni s)=OM Nx (Ni s)/\OM N6 (Nh s)=OM N6 (Nh s)/\OM N9 (Nd s)=OM N9 (Nd s)/\OM Ny (Nb s)=OM Ny (Nb s)/\OM N8 (Nj s)=OM N8 (Nj s)/\OG)/\((0:Int)=0/\OG)/\[]=yB (sf x0 l)/\(L1 2=L1 2/\OG)/\h95Kq1=h95Kq1/\OG)/\∀(x:Nat),qy x l->(decide ((x:Int)<(↑(OJ (OM N8 l)):Int))=true->((0:Int)<=(x:Int)/\(OM N8 l)[N1 (x:Int)]? = some (ow l x))/\((!false)=true->OB Tryz.prog G 96 [ow l x] λ(rs:ON D)=>∃(s_1:ON UInt8),rs=[NZ s_1]/\Mo Tryz.prog G 4 [OF (.int .i64 (x:Int)),.d (.str s_1)] (se s x l) λ(rs:ON D) (H':ON Box)=>ou rs H' l s x)/\((!false)=false->Mo Tryz.prog G 4 [OF (.int .i64 (x:Int)),.d (.str (Mm (Mn (Mi #[]))))] (se s x l) λ(rs:ON D) (H':ON Box)=>ou rs H' l s x))/\(decide ((x:Int)<(↑(OJ (OM N8 l)):Int))=false->([]:ON D)=[]/\(zZ (ua l)=true->se s x l=ov s l)/\(zZ (ua l)=false->∃(m:ON Nm),se s x l=tP s m)))
 ·kernel_rfl
 delta qy sf ua h95Kq1 yKq2 a7 pZ yKq5 yKq7 tP sj a8 yKq9 az ow se ou xm ov;refine⟨0,⟨by omega,rfl⟩,by and_intros<;>first|rfl|trivial,λx hx=>⟨λhlt=>?_,λhge=>?_⟩⟩
 ·simp only[Nv,NR]at hlt;obtain⟨z,hz,hm⟩:=zt (l:=l) (x:=x) (by omega);have hn:(l.map (·.name))[x]? = some z.name:=by rw[M6,hz];rfl
  have hsn:=ub hn hx.2;rw[M1,rP hz];refine⟨⟨by omega,rO hz⟩,λ_=>(Ot z).use ⟨_,rfl,(UL hG s x z.name _).mono ?_⟩,λh=>No h (by decide)⟩;intro rs H' h;cases hb:(yO z.name&& !((l.map (·.name)).take x).contains z.name)with
  |false =>
   obtain⟨rfl,rfl⟩:=h.2 hb;refine⟨false,rfl,_,_,_,_,_,_,_,_,_,rfl,λ_=>⟨rfl,λhN=>?_,λ_=>⟨_,rfl⟩⟩,λh=>No h (by decide)⟩;rw[hb,tQ hN]at hsn;cases hsn
  |true =>
   obtain⟨rfl,rfl⟩:=h.1 hb;refine⟨true,rfl,_,_,_,_,_,_,_,_,_,rfl,λh=>No h (by decide),λ_=>⟨x+1,⟨by omega,by rw[hsn,hb]⟩,by omega,?_⟩⟩;have e1:Nl .i64 ((x:Int)+1)=((x+1:Nat):Int):=by rw[zu (by omega) (by omega)];rfl
   have e2:yB ((l.map (·.name)).take x++[z.name])=yB ((l.map (·.name)).take (x+1)):=by rw[yp hn]
   and_intros<;>first|exact e1|exact e2|rfl|trivial
 ·simp only[Nv,M2]at hge;have hx2:=hx.2;rw[MY (by rw[Nv];omega)]at hx2 ⊢;rw[hx2];exact⟨rfl,λ_=>rfl,λh=>No h (by decide)⟩
def ot (a:ON Sl):ON Nm:=OM (λ(x:Sl)=>Sl.name x) a
def ik (a:Nat) (b:ON Sl):ON Nm:=NW a (ot b)
def dz (a:Nat) (b:ON Sl):Prop:=a<=OJ b/\zZ (ik a b)=true
def ZN (a:ON Sl) (b:Nat):D:=zk [NC,NP .i64,NP .i64] (OM Nx a) (N1 (b:Int))
def ij (a:Sc) (b:Nat) (c:ON Sl):ON Box:=sj a::Ns 43 [.d (.int .i64 0)]::Kw (yB (ik b c))::yKq9
def ZM (a:Sc) (b:ON Sl):ON Box:=sj a::Ns 43 [.d (.int .i64 0)]::Kw (yB (ot b))::yKq9
def ZL (a:ON D) (b:ON Box) (c:ON Sl) (d:Sc) (e:Nat):Prop:= ∃(b_1:Bool),a=[OD b_1]/\∃(l:ON D)(l_1:ON D)(l_2:ON D)(l_3:ON D)(l_4:ON D)(n:Int)(es:ON (D×D)),∃(pend:OK Np)(st:NQ),b=xm l l_1 l_2 l_3 l_4 n es pend st/\((!b_1)=true->([]:ON D)=[]/\(zZ (ot c)=true->xm l l_1 l_2 l_3 l_4 n es pend st=ZM d c)/\(zZ (ot c)=false->∃(m:ON Nm),xm l l_1 l_2 l_3 l_4 n es pend st=tP d m))/\((!b_1)=false->∃(y:Nat),dz y c/\OJ c - y<OJ c - e/\(OF (.fn 98)=OF (.fn 98)/\NE 4=NE 4/\OM Nx c=OM Nx c/\(↑(OJ (OM Nx c)):Int)=(↑(OJ (OM Nx c)):Int)/\Nl .i64 ((e:Int)+1)=(y:Int)/\OG)/\(l=OM Nx (Ni d)/\l_1=OM N6 (Nh d)/\l_2=OM N9 (Nd d)/\l_3=OM Ny (Nb d)/\l_4=OM N8 (Nj d)/\OG)/\(n=0/\OG)/\es=yB (ik y c)/\(L1 2=L1 2/\OG)/\M7 yKq2 (ze c26) (zo c26) (zc c26) pend st=h95Kq1/\OG)
theorem PM (hG:∃m,G 4=some [.int .i64 m]) (s:Sc) (l:ON Sl) (hl:l.length<1099511627776):Nn Tryz.prog G 97 [.d (.sl (l.map Nx)),.d (.fn 98),.yld 4] (hK s []) (λrs H'=>rs=[]/\(zZ (l.map (·.name))=true->H'=hK s (l.map (·.name)))/\(zZ (l.map (·.name))=false->∃m,H'=Ti s m)):=by
 refine zg (LL [(1,zT (α:=Nat) Tryz.prog G L0 5 (zz (z6 Tryz.f97) 0) [1,2,9,10] (λi=>i<=l.length/\zZ ((l.map (·.name)).take i)=true) (λi=>l.length - i) (λi=>[(11,.d (.int .i64 i))]) (λH i=>hK s ((l.map (·.name)).take i)++H.drop 5))]) Tryz.func97 rfl (Wq _ _ _) (zm zy) ?_;apply @z7 _ (∃(x0:Nat),dz x0 l/\((OF (.fn 98)=OF (.fn 98)/\NE 4=NE 4/\OM Nx l=OM Nx l/\(↑(OJ (OM Nx l)):Int)=(↑(OJ (OM Nx l)):Int)/\(0:Int)=(x0:Int)/\OG)/\(OM Nx (Ni s)=OM Nx (Ni s)/\OM N6 (Nh s)=OM N6 (Nh s)/\OM N9 (Nd s)=OM N9 (Nd s)/\OM Ny (Nb s)=OM Ny (Nb s)/\OM N8 (Nj s)=OM N8 (Nj s)/\OG)/\((0:Int)=0/\OG)/\[]=yB (ik x0 l)/\(L1 2=L1 2/\OG)/\h95Kq1=h95Kq1/\OG)/\∀(x:Nat),dz x l->(decide ((x:Int)<(↑(OJ (OM Nx l)):Int))=true->((0:Int)<=(x:Int)/\(OM Nx l)[N1 (x:Int)]? = some (ZN l x))/\((!false)=true->OB Tryz.prog G 98 [ZN l x] λ(rs:ON D)=>∃(s_1:ON UInt8),rs=[NZ s_1]/\Mo Tryz.prog G 4 [OF (.int .i64 (x:Int)),.d (.str s_1)] (ij s x l) λ(rs:ON D) (H':ON Box)=>ZL rs H' l s x)/\((!false)=false->Mo Tryz.prog G 4 [OF (.int .i64 (x:Int)),.d (.str (Mm (Mn (Mi #[]))))] (ij s x l) λ(rs:ON D) (H':ON Box)=>ZL rs H' l s x))/\(decide ((x:Int)<(↑(OJ (OM Nx l)):Int))=false->([]:ON D)=[]/\(zZ (ot l)=true->ij s x l=ZM s l)/\(zZ (ot l)=false->∃(m:ON Nm),ij s x l=tP s m)))
 ·kernel_rfl
 delta dz ik ot h95Kq1 qy sf ua yKq2 a7 pZ yKq5 yKq7 tP sj a8 yKq9 az ow se ou xm ov ZN ij ZL ZM;refine⟨0,⟨by omega,rfl⟩,by and_intros<;>first|rfl|trivial,λx hx=>⟨λhlt=>?_,λhge=>?_⟩⟩
 ·simp only[Nv,NR]at hlt;obtain⟨z,hz,hm⟩:=zt (l:=l) (x:=x) (by omega);have hn:(l.map (·.name))[x]? = some z.name:=by rw[M6,hz];rfl
  have hsn:=ub hn hx.2;rw[M1,pI hz];refine⟨⟨by omega,mi hz⟩,λ_=>(Oq z).use ⟨_,rfl,(UL hG s x z.name _).mono ?_⟩,λh=>No h (by decide)⟩;intro rs H' h;cases hb:(yO z.name&& !((l.map (·.name)).take x).contains z.name)with
  |false =>
   obtain⟨rfl,rfl⟩:=h.2 hb;refine⟨false,rfl,_,_,_,_,_,_,_,_,_,rfl,λ_=>⟨rfl,λhN=>?_,λ_=>⟨_,rfl⟩⟩,λh=>No h (by decide)⟩;rw[hb,tQ hN]at hsn;cases hsn
  |true =>
   obtain⟨rfl,rfl⟩:=h.1 hb;refine⟨true,rfl,_,_,_,_,_,_,_,_,_,rfl,λh=>No h (by decide),λ_=>⟨x+1,⟨by omega,by rw[hsn,hb]⟩,by omega,?_⟩⟩;have e1:Nl .i64 ((x:Int)+1)=((x+1:Nat):Int):=by rw[zu (by omega) (by omega)];rfl
   have e2:yB ((l.map (·.name)).take x++[z.name])=yB ((l.map (·.name)).take (x+1)):=by rw[yp hn]
   and_intros<;>first|exact e1|exact e2|rfl|trivial
 ·simp only[Nv,M2]at hge;have hx2:=hx.2;rw[MY (by rw[Nv];omega)]at hx2 ⊢;rw[hx2];exact⟨rfl,λ_=>rfl,λh=>No h (by decide)⟩
def oo (a:ON Rm):ON Nm:=OM (λ(x:Rm)=>Rm.name x) a
def ii (a:Nat) (b:ON Rm):ON Nm:=NW a (oo b)
def dy (a:Nat) (b:ON Rm):Prop:=a<=OJ b/\zZ (ii a b)=true
def ZK (a:ON Rm) (b:Nat):D:=zk [NC,NP .i64,NP .i64,NB] (OM N6 a) (N1 (b:Int))
def ig (a:Sc) (b:Nat) (c:ON Rm):ON Box:=sj a::Ns 43 [.d (.int .i64 0)]::Kw (yB (ii b c))::yKq9
def ZJ (a:Sc) (b:ON Rm):ON Box:=sj a::Ns 43 [.d (.int .i64 0)]::Kw (yB (oo b))::yKq9
def ZI (a:ON D) (b:ON Box) (c:ON Rm) (d:Sc) (e:Nat):Prop:= ∃(b_1:Bool),a=[OD b_1]/\∃(l:ON D)(l_1:ON D)(l_2:ON D)(l_3:ON D)(l_4:ON D)(n:Int)(es:ON (D×D)),∃(pend:OK Np)(st:NQ),b=xm l l_1 l_2 l_3 l_4 n es pend st/\((!b_1)=true->([]:ON D)=[]/\(zZ (oo c)=true->xm l l_1 l_2 l_3 l_4 n es pend st=ZJ d c)/\(zZ (oo c)=false->∃(m:ON Nm),xm l l_1 l_2 l_3 l_4 n es pend st=tP d m))/\((!b_1)=false->∃(y:Nat),dy y c/\OJ c - y<OJ c - e/\(OF (.fn 100)=OF (.fn 100)/\NE 4=NE 4/\OM N6 c=OM N6 c/\(↑(OJ (OM N6 c)):Int)=(↑(OJ (OM N6 c)):Int)/\Nl .i64 ((e:Int)+1)=(y:Int)/\OG)/\(l=OM Nx (Ni d)/\l_1=OM N6 (Nh d)/\l_2=OM N9 (Nd d)/\l_3=OM Ny (Nb d)/\l_4=OM N8 (Nj d)/\OG)/\(n=0/\OG)/\es=yB (ii y c)/\(L1 2=L1 2/\OG)/\M7 yKq2 (ze c26) (zo c26) (zc c26) pend st=h95Kq1/\OG)
theorem PL (hG:∃m,G 4=some [.int .i64 m]) (s:Sc) (l:ON Rm) (hl:l.length<1099511627776):Nn Tryz.prog G 99 [.d (.sl (l.map N6)),.d (.fn 100),.yld 4] (hK s []) (λrs H'=>rs=[]/\(zZ (l.map (·.name))=true->H'=hK s (l.map (·.name)))/\(zZ (l.map (·.name))=false->∃m,H'=Ti s m)):=by
 refine zg (LL [(1,zT (α:=Nat) Tryz.prog G L0 5 (zz (z6 Tryz.f99) 0) [1,2,9,10] (λi=>i<=l.length/\zZ ((l.map (·.name)).take i)=true) (λi=>l.length - i) (λi=>[(11,.d (.int .i64 i))]) (λH i=>hK s ((l.map (·.name)).take i)++H.drop 5))]) Tryz.func99 rfl (Wq _ _ _) (zm zy) ?_;apply @z7 _ (∃(x0:Nat),dy x0 l/\((OF (.fn 100)=OF (.fn 100)/\NE 4=NE 4/\OM N6 l=OM N6 l/\(↑(OJ (OM N6 l)):Int)=(↑(OJ (OM N6 l)):Int)/\(0:Int)=(x0:Int)/\OG)/\(OM Nx (Ni s)=OM Nx (Ni s)/\OM N6 (Nh s)=OM N6 (Nh s)/\OM N9 (Nd s)=OM N9 (Nd s)/\OM Ny (Nb s)=OM Ny (Nb s)/\OM N8 (Nj s)=OM N8 (Nj s)/\OG)/\((0:Int)=0/\OG)/\[]=yB (ii x0 l)/\(L1 2=L1 2/\OG)/\h95Kq1=h95Kq1/\OG)/\∀(x:Nat),dy x l->(decide ((x:Int)<(↑(OJ (OM N6 l)):Int))=true->((0:Int)<=(x:Int)/\(OM N6 l)[N1 (x:Int)]? = some (ZK l x))/\((!false)=true->OB Tryz.prog G 100 [ZK l x] λ(rs:ON D)=>∃(s_1:ON UInt8),rs=[NZ s_1]/\Mo Tryz.prog G 4 [OF (.int .i64 (x:Int)),.d (.str s_1)] (ig s x l) λ(rs:ON D) (H':ON Box)=>ZI rs H' l s x)/\((!false)=false->Mo Tryz.prog G 4 [OF (.int .i64 (x:Int)),.d (.str (Mm (Mn (Mi #[]))))] (ig s x l) λ(rs:ON D) (H':ON Box)=>ZI rs H' l s x))/\(decide ((x:Int)<(↑(OJ (OM N6 l)):Int))=false->([]:ON D)=[]/\(zZ (oo l)=true->ig s x l=ZJ s l)/\(zZ (oo l)=false->∃(m:ON Nm),ig s x l=tP s m)))
 ·kernel_rfl
 delta dy ii oo h95Kq1 qy sf ua yKq2 a7 pZ yKq5 yKq7 tP sj a8 yKq9 az ow se ou xm ov ZK ig ZI ZJ;refine⟨0,⟨by omega,rfl⟩,by and_intros<;>first|rfl|trivial,λx hx=>⟨λhlt=>?_,λhge=>?_⟩⟩
 ·simp only[Nv,NR]at hlt;obtain⟨z,hz,hm⟩:=zt (l:=l) (x:=x) (by omega);have hn:(l.map (·.name))[x]? = some z.name:=by rw[M6,hz];rfl
  have hsn:=ub hn hx.2;rw[M1,rQ hz];refine⟨⟨by omega,pH hz⟩,λ_=>(RF z).use ⟨_,rfl,(UL hG s x z.name _).mono ?_⟩,λh=>No h (by decide)⟩;intro rs H' h;cases hb:(yO z.name&& !((l.map (·.name)).take x).contains z.name)with
  |false =>
   obtain⟨rfl,rfl⟩:=h.2 hb;refine⟨false,rfl,_,_,_,_,_,_,_,_,_,rfl,λ_=>⟨rfl,λhN=>?_,λ_=>⟨_,rfl⟩⟩,λh=>No h (by decide)⟩;rw[hb,tQ hN]at hsn;cases hsn
  |true =>
   obtain⟨rfl,rfl⟩:=h.1 hb;refine⟨true,rfl,_,_,_,_,_,_,_,_,_,rfl,λh=>No h (by decide),λ_=>⟨x+1,⟨by omega,by rw[hsn,hb]⟩,by omega,?_⟩⟩;have e1:Nl .i64 ((x:Int)+1)=((x+1:Nat):Int):=by rw[zu (by omega) (by omega)];rfl
   have e2:yB ((l.map (·.name)).take x++[z.name])=yB ((l.map (·.name)).take (x+1)):=by rw[yp hn]
   and_intros<;>first|exact e1|exact e2|rfl|trivial
 ·simp only[Nv,M2]at hge;have hx2:=hx.2;rw[MY (by rw[Nv];omega)]at hx2 ⊢;rw[hx2];exact⟨rfl,λ_=>rfl,λh=>No h (by decide)⟩
def sb (a:ON Pe):ON Nm:=OM (λ(x:Pe)=>Pe.name x) a
def nf (a:Nat) (b:ON Pe):ON Nm:=NW a (sb b)
def kl (a:Nat) (b:ON Pe):Prop:=a<=OJ b/\zZ (nf a b)=true
def dx (a:ON Pe) (b:Nat):D:=zk [NC,NB] (OM N9 a) (N1 (b:Int))
def ne (a:Sc) (b:Nat) (c:ON Pe):ON Box:=sj a::Ns 43 [.d (.int .i64 0)]::Kw (yB (nf b c))::yKq9
def dw (a:Sc) (b:ON Pe):ON Box:=sj a::Ns 43 [.d (.int .i64 0)]::Kw (yB (sb b))::yKq9
def dv (a:ON D) (b:ON Box) (c:ON Pe) (d:Sc) (e:Nat):Prop:= ∃(b_1:Bool),a=[OD b_1]/\∃(l:ON D)(l_1:ON D)(l_2:ON D)(l_3:ON D)(l_4:ON D)(n:Int)(es:ON (D×D)),∃(pend:OK Np)(st:NQ),b=xm l l_1 l_2 l_3 l_4 n es pend st/\((!b_1)=true->([]:ON D)=[]/\(zZ (sb c)=true->xm l l_1 l_2 l_3 l_4 n es pend st=dw d c)/\(zZ (sb c)=false->∃(m:ON Nm),xm l l_1 l_2 l_3 l_4 n es pend st=tP d m))/\((!b_1)=false->∃(y:Nat),kl y c/\OJ c - y<OJ c - e/\(OF (.fn 102)=OF (.fn 102)/\NE 4=NE 4/\OM N9 c=OM N9 c/\(↑(OJ (OM N9 c)):Int)=(↑(OJ (OM N9 c)):Int)/\Nl .i64 ((e:Int)+1)=(y:Int)/\OG)/\(l = OM Nx (Ni d)/\l_1=OM N6 (Nh d)/\l_2=OM N9 (Nd d)/\l_3=OM Ny (Nb d)/\l_4=OM N8 (Nj d)/\OG)/\(n=0/\OG)/\es=yB (nf y c)/\(L1 2=L1 2/\OG)/\M7 yKq2 (ze c26) (zo c26) (zc c26) pend st=h95Kq1/\OG)
theorem Q6 (hG:∃m,G 4=some [.int .i64 m]) (s:Sc) (l:ON Pe) (hl:l.length<1099511627776):Nn Tryz.prog G 101 [.d (.sl (l.map N9)),.d (.fn 102),.yld 4] (hK s []) (λrs H'=>rs=[]/\(zZ (l.map (·.name))=true->H'=hK s (l.map (·.name)))/\(zZ (l.map (·.name))=false->∃m,H'=Ti s m)):=by
 refine zg (LL [(1,zT (α:=Nat) Tryz.prog G L0 5 (zz (z6 Tryz.f101) 0) [1,2,9,10] (λi=>i<=l.length/\zZ ((l.map (·.name)).take i)=true) (λi=>l.length - i) (λi=>[(11,.d (.int .i64 i))]) (λH i=>hK s ((l.map (·.name)).take i)++H.drop 5))]) Tryz.func101 rfl (Wq _ _ _) (zm zy) ?_;apply @z7 _ (∃(x0:Nat),kl x0 l/\((OF (.fn 102)=OF (.fn 102)/\NE 4=NE 4/\OM N9 l=OM N9 l/\(↑(OJ (OM N9 l)):Int)=(↑(OJ (OM N9 l)):Int)/\(0:Int)=(x0:Int)/\OG)/\(OM Nx (Ni s)=OM Nx (Ni s)/\OM N6 (Nh s)=OM N6 (Nh s)/\OM N9 (Nd s)=OM N9 (Nd s)/\OM Ny (Nb s)=OM Ny (Nb s)/\OM N8 (Nj s)=OM N8 (Nj s)/\OG)/\((0:Int)=0/\OG)/\[]=yB (nf x0 l)/\(L1 2=L1 2/\OG)/\h95Kq1=h95Kq1/\OG)/\∀(x:Nat),kl x l->(decide ((x:Int)<(↑(OJ (OM N9 l)):Int))=true->((0:Int)<=(x:Int)/\(OM N9 l)[N1 (x:Int)]? = some (dx l x))/\((!false)=true->OB Tryz.prog G 102 [dx l x] λ(rs:ON D)=>∃(s_1:ON UInt8),rs=[NZ s_1]/\Mo Tryz.prog G 4 [OF (.int .i64 (x:Int)),.d (.str s_1)] (ne s x l) λ(rs:ON D) (H':ON Box)=>dv rs H' l s x)/\((!false)=false->Mo Tryz.prog G 4 [OF (.int .i64 (x:Int)),.d (.str (Mm (Mn (Mi #[]))))] (ne s x l) λ(rs:ON D) (H':ON Box)=>dv rs H' l s x))/\(decide ((x:Int)<(↑(OJ (OM N9 l)):Int))=false->([]:ON D)=[]/\(zZ (sb l)=true->ne s x l=dw s l)/\(zZ (sb l)=false->∃(m:ON Nm),ne s x l=tP s m)))
 ·kernel_rfl
 delta kl nf sb h95Kq1 qy sf ua yKq2 a7 pZ yKq5 yKq7 tP sj a8 yKq9 az ow se ou xm ov dx ne dv dw;refine⟨0,⟨by omega,rfl⟩,by and_intros<;>first|rfl|trivial,λx hx=>⟨λhlt=>?_,λhge=>?_⟩⟩
 ·simp only[Nv,NR]at hlt;obtain⟨z,hz,hm⟩:=zt (l:=l) (x:=x) (by omega);have hn:(l.map (·.name))[x]? = some z.name:=by rw[M6,hz];rfl
  have hsn:=ub hn hx.2;rw[M1,mh hz];refine⟨⟨by omega,jV hz⟩,λ_=>(RE z).use ⟨_,rfl,(UL hG s x z.name _).mono ?_⟩,λh=>No h (by decide)⟩;intro rs H' h;cases hb:(yO z.name&& !((l.map (·.name)).take x).contains z.name)with
  |false =>
   obtain⟨rfl,rfl⟩:=h.2 hb;refine⟨false,rfl,_,_,_,_,_,_,_,_,_,rfl,λ_=>⟨rfl,λhN=>?_,λ_=>⟨_,rfl⟩⟩,λh=>No h (by decide)⟩;rw[hb,tQ hN]at hsn;cases hsn
  |true =>
   obtain⟨rfl,rfl⟩:=h.1 hb;refine⟨true,rfl,_,_,_,_,_,_,_,_,_,rfl,λh=>No h (by decide),λ_=>⟨x+1,⟨by omega,by rw[hsn,hb]⟩,by omega,?_⟩⟩;have e1:Nl .i64 ((x:Int)+1)=((x+1:Nat):Int):=by rw[zu (by omega) (by omega)];rfl
   have e2:yB ((l.map (·.name)).take x++[z.name])=yB ((l.map (·.name)).take (x+1)):=by rw[yp hn]
   and_intros<;>first|exact e1|exact e2|rfl|trivial
 ·simp only[Nv,M2]at hge;have hx2:=hx.2;rw[MY (by rw[Nv];omega)]at hx2 ⊢;rw[hx2];exact⟨rfl,λ_=>rfl,λh=>No h (by decide)⟩
def sa (a:ON Gr):ON Nm:=OM (λ(x:Gr)=>Gr.name x) a
def nc (a:Nat) (b:ON Gr):ON Nm:=NW a (sa b)
def kj (a:Nat) (b:ON Gr):Prop:=a<=OJ b/\zZ (nc a b)=true
def dt (a:ON Gr) (b:Nat):D:=zk [NC,NP .i64] (OM Ny a) (N1 (b:Int))
def na (a:Sc) (b:Nat) (c:ON Gr):ON Box:=sj a::Ns 43 [.d (.int .i64 0)]::Kw (yB (nc b c))::yKq9
def dq (a:Sc) (b:ON Gr):ON Box:=sj a::Ns 43 [.d (.int .i64 0)]::Kw (yB (sa b))::yKq9
def dp (a:ON D) (b:ON Box) (c:ON Gr) (d:Sc) (e:Nat):Prop:= ∃(b_1:Bool),a=[OD b_1]/\∃(l:ON D)(l_1:ON D)(l_2:ON D)(l_3:ON D)(l_4:ON D)(n:Int)(es:ON (D×D)),∃(pend:OK Np)(st:NQ),b=xm l l_1 l_2 l_3 l_4 n es pend st/\((!b_1)=true->([]:ON D)=[]/\(zZ (sa c)=true->xm l l_1 l_2 l_3 l_4 n es pend st=dq d c)/\(zZ (sa c)=false->∃(m:ON Nm),xm l l_1 l_2 l_3 l_4 n es pend st=tP d m))/\((!b_1)=false->∃(y:Nat),kj y c/\OJ c - y<OJ c - e/\(OF (.fn 104)=OF (.fn 104)/\NE 4=NE 4/\OM Ny c=OM Ny c/\(↑(OJ (OM Ny c)):Int)=(↑(OJ (OM Ny c)):Int)/\Nl .i64 ((e:Int)+1)=(y:Int)/\OG)/\(l = OM Nx (Ni d)/\l_1=OM N6 (Nh d)/\l_2=OM N9 (Nd d)/\l_3=OM Ny (Nb d)/\l_4=OM N8 (Nj d)/\OG)/\(n=0/\OG)/\es=yB (nc y c)/\(L1 2=L1 2/\OG)/\M7 yKq2 (ze c26) (zo c26) (zc c26) pend st=h95Kq1/\OG)
theorem Q7 (hG:∃m,G 4=some [.int .i64 m]) (s:Sc) (l:ON Gr) (hl:l.length<1099511627776):Nn Tryz.prog G 103 [.d (.sl (l.map Ny)),.d (.fn 104),.yld 4] (hK s []) (λrs H'=>rs=[]/\(zZ (l.map (·.name))=true->H'=hK s (l.map (·.name)))/\(zZ (l.map (·.name))=false->∃m,H'=Ti s m)):=by
 refine zg (LL [(1,zT (α:=Nat) Tryz.prog G L0 5 (zz (z6 Tryz.f103) 0) [1,2,9,10] (λi=>i<=l.length/\zZ ((l.map (·.name)).take i)=true) (λi=>l.length - i) (λi=>[(11,.d (.int .i64 i))]) (λH i=>hK s ((l.map (·.name)).take i)++H.drop 5))]) Tryz.func103 rfl (Wq _ _ _) (zm zy) ?_;apply @z7 _ (∃(x0:Nat),kj x0 l/\((OF (.fn 104)=OF (.fn 104)/\NE 4=NE 4/\OM Ny l=OM Ny l/\(↑(OJ (OM Ny l)):Int)=(↑(OJ (OM Ny l)):Int)/\(0:Int)=(x0:Int)/\OG)/\(OM Nx (Ni s)=OM Nx (Ni s)/\OM N6 (Nh s)=OM N6 (Nh s)/\OM N9 (Nd s)=OM N9 (Nd s)/\OM Ny (Nb s)=OM Ny (Nb s)/\OM N8 (Nj s)=OM N8 (Nj s)/\OG)/\((0:Int)=0/\OG)/\[]=yB (nc x0 l)/\(L1 2=L1 2/\OG)/\h95Kq1=h95Kq1/\OG)/\∀(x:Nat),kj x l->(decide ((x:Int)<(↑(OJ (OM Ny l)):Int))=true->((0:Int)<=(x:Int)/\(OM Ny l)[N1 (x:Int)]? = some (dt l x))/\((!false)=true->OB Tryz.prog G 104 [dt l x] λ(rs:ON D)=>∃(s_1:ON UInt8),rs=[NZ s_1]/\Mo Tryz.prog G 4 [OF (.int .i64 (x:Int)),.d (.str s_1)] (na s x l) λ(rs:ON D) (H':ON Box)=>dp rs H' l s x)/\((!false)=false->Mo Tryz.prog G 4 [OF (.int .i64 (x:Int)),.d (.str (Mm (Mn (Mi #[]))))] (na s x l) λ(rs:ON D) (H':ON Box)=>dp rs H' l s x))/\(decide ((x:Int)<(↑(OJ (OM Ny l)):Int))=false->([]:ON D)=[]/\(zZ (sa l)=true->na s x l=dq s l)/\(zZ (sa l)=false->∃(m:ON Nm),na s x l=tP s m)))
 ·kernel_rfl
 delta kj nc sa h95Kq1 qy sf ua yKq2 a7 pZ yKq5 yKq7 tP sj a8 yKq9 az ow se ou xm ov dt na dp dq;refine⟨0,⟨by omega,rfl⟩,by and_intros<;>first|rfl|trivial,λx hx=>⟨λhlt=>?_,λhge=>?_⟩⟩
 ·simp only[Nv,NR]at hlt;obtain⟨z,hz,hm⟩:=zt (l:=l) (x:=x) (by omega);have hn:(l.map (·.name))[x]? = some z.name:=by rw[M6,hz];rfl
  have hsn:=ub hn hx.2;rw[M1,jT hz];refine⟨⟨by omega,eq hz⟩,λ_=>(RD z).use ⟨_,rfl,(UL hG s x z.name _).mono ?_⟩,λh=>No h (by decide)⟩;intro rs H' h;cases hb:(yO z.name&& !((l.map (·.name)).take x).contains z.name)with
  |false =>
   obtain⟨rfl,rfl⟩:=h.2 hb;refine⟨false,rfl,_,_,_,_,_,_,_,_,_,rfl,λ_=>⟨rfl,λhN=>?_,λ_=>⟨_,rfl⟩⟩,λh=>No h (by decide)⟩;rw[hb,tQ hN]at hsn;cases hsn
  |true =>
   obtain⟨rfl,rfl⟩:=h.1 hb;refine⟨true,rfl,_,_,_,_,_,_,_,_,_,rfl,λh=>No h (by decide),λ_=>⟨x+1,⟨by omega,by rw[hsn,hb]⟩,by omega,?_⟩⟩;have e1:Nl .i64 ((x:Int)+1)=((x+1:Nat):Int):=by rw[zu (by omega) (by omega)];rfl
   have e2:yB ((l.map (·.name)).take x++[z.name])=yB ((l.map (·.name)).take (x+1)):=by rw[yp hn]
   and_intros<;>first|exact e1|exact e2|rfl|trivial
 ·simp only[Nv,M2]at hge;have hx2:=hx.2;rw[MY (by rw[Nv];omega)]at hx2 ⊢;rw[hx2];exact⟨rfl,λ_=>rfl,λh=>No h (by decide)⟩
end
def yu {α:Type}(p:α->Bool):ON α->Nat->Int
 |[],_=>-1
 |z::r,i=>if p z=true then(i:Int)else yu p r (i+1)
theorem uZ {α:Type}(p:α->Bool) (l:ON α):decide (yu p l 0>=0)=l.any p:=by
 have:∀(l:ON α) (i:Nat),(0<=yu p l i↔l.any p=true):=by
  intro l;induction l with
  |nil=>intro i;simp[yu]
  |cons z r ih =>
   intro i;rw[yu,K7];cases hp:p z with
   |true=>simp
   |false=>simp[ih (i+1)]
 rw[MG,NR];exact this l 0
def Wd (s:Sc) (e:Int) (es:ON (D×D)) (n:Int):ON Box:=[.cells 28 (pc s),.cells 43 [.d (.int .i64 e)],.map es,.cells 3 [.d (.int .i64 n)]]
def Ro (s:Sc) (e:Int) (es:ON (D×D)) (n p g:Int):ON Box:=[.cells 28 (pc s),.cells 43 [.d (.int .i64 e)],.map es,.cells 3 [.d (.int .i64 n)],.cells 3 [.d (.int .i64 p)],.cells 3 [.d (.int .i64 g)]]
section
variable {G:Nat->OK (ON D)}
def xB (a:Sc) (b:Int) (c:ON (D×D)) (d:Int):ON Box:=[Ns 28 [.d (.sl (OM Nx (Ni a))),.d (.sl (OM N6 (Nh a))),.d (.sl (OM N9 (Nd a))),.d (.sl (OM Ny (Nb a))),.d (.sl (OM N8 (Nj a)))],.cells 43 [.d (.int .i64 b)],.map c,.cells 3 [.d (.int .i64 d)]]
theorem Oc (s:Sc) (e:Int) (es:ON (D×D)) (n:Int) (z:Rm) (hz:z.shut.length<4611686018427387904):Nn Tryz.prog G 59 [.d z.d,.ptr 3 0] (Wd s e es n) (λrs H'=>rs=[.bool (!wX n z)]/\H'=Wd s e es n):=by
 unfold N6;refine zF Tryz.func59 rfl ⟨_,_,rfl,rfl⟩ ?_;apply @z7 _ (OB Tryz.prog G 58 [OH .i64 (Rm.house z),.int .i64 7] λ(rs:ON D)=>∃(b:Bool),rs=[OD b]/\OB Tryz.prog G 58 [OH .i64 (Rm.seats z),.int .i64 1000] λ(rs:ON D)=>∃(b_1:Bool),rs=[OD b_1]/\OB Tryz.prog G 60 [OE (OM intD (Rm.shut z)),.int .i64 n] λ(rs:ON D)=>∃(b_2:Bool),rs=[OD b_2]/\[OD (bif bif !b then true else !b_1 then true else !b_2)]=[OD !wX n z]/\xB s e es n=xB s e es n)
 ·kernel_rfl
 delta xB;refine(RM z.house 7).use ⟨_,rfl,(RM z.seats 1000).use ⟨_,rfl,(QN z.shut n hz).use ⟨_,rfl,?_,rfl⟩⟩⟩;unfold wX;simp only[yi,Gj,Cf]
theorem Ob (s:Sc) (e:Int) (es:ON (D×D)) (n:Int) (z:Pe) (hz:z.away.length<4611686018427387904):Nn Tryz.prog G 61 [.d z.d,.ptr 3 0] (Wd s e es n) (λrs H'=>rs=[.bool (!yY z.away n)]/\H'=Wd s e es n):=by
 unfold N9;refine zF Tryz.func61 rfl ⟨_,_,rfl,rfl⟩ ?_;apply @z7 _ (OB Tryz.prog G 60 [OE (OM intD (Jh z)),.int .i64 n] λ(rs:ON D)=>∃(b:Bool),rs=[OD b]/\[OD !b]=[OD !yY (Jh z) n]/\xB s e es n=xB s e es n)
 ·kernel_rfl
 delta xB;exact(QN z.away n hz).use ⟨_,rfl,rfl,rfl⟩
theorem Oa (z:Gr):OB Tryz.prog G 62 [z.d] (· = [.bool (!xG z)]):=by
 unfold Ny;refine zn Tryz.func62 ⟨_,rfl⟩ ?_;apply @z7 _ (OB Tryz.prog G 58 [OH .i64 (Gr.size z),.int .i64 1000] λ(rs:ON D)=>∃(b:Bool),rs=[OD b]/\[OD !b]=[OD !xG z])
 ·kernel_rfl
 exact(RM z.size 1000).use ⟨_,rfl,rfl⟩
def vR (a:Int):ON AV:=[OF (.int .i64 a)]
def uY (a:Sc) (b:Int) (c:ON (D×D)) (d:Int) (e:Int) (f:Int):ON Box:=[Ns 28 [.d (.sl (OM Nx (Ni a))),.d (.sl (OM N6 (Nh a))),.d (.sl (OM N9 (Nd a))),.d (.sl (OM Ny (Nb a))),.d (.sl (OM N8 (Nj a)))],.cells 43 (vR b),.map c,.cells 3 (vR d),.cells 3 (vR e),.cells 3 (vR f)]
theorem OZ (s:Sc) (e:Int) (es:ON (D×D)) (n p g:Int) (z:Le) (hz:z.who.length<4611686018427387904) (hy:z.groups.length<4611686018427387904):Nn Tryz.prog G 63 [.d z.d,.ptr 4 0,.ptr 5 0] (Ro s e es n p g) (λrs H'=>rs=[.bool (!xw p g z)]/\H'=Ro s e es n p g):=by
 unfold N8;refine zF Tryz.func63 rfl ⟨_,_,rfl,rfl⟩ ?_;apply @z7 _ (OB Tryz.prog G 60 [OE (OM intD (Le.who z)),.int .i64 p] λ(rs:ON D)=>∃(b:Bool),rs=[OD b]/\OB Tryz.prog G 60 [OE (OM intD (F0 z)),.int .i64 g] λ(rs:ON D)=>∃(b_1:Bool),rs=[OD b_1]/\[OD (bif !b then true else !b_1)]=[OD !xw p g z]/\uY s e es n p g=uY s e es n p g)
 ·kernel_rfl
 delta uY vR;refine(QN z.who p hz).use ⟨_,rfl,(QN z.groups g hy).use ⟨_,rfl,?_,rfl⟩⟩;unfold xw;simp only[yi,Gj]
def sZ (a:Nat) (b:ON Rm) (c:Int):Prop:=a<=OJ b/\yu (λ(z:Rm)=>!wX c z) (Lx a b) a=yu (λ(z:Rm)=>!wX c z) b 0
def qU (a:ON Rm) (b:Nat):D:=zk [NC,NP .i64,NP .i64,NB] (OM N6 a) (N1 (b:Int))
def wx (a:ON D) (b:ON D) (c:ON D) (d:ON D) (e:ON D) (f:Int) (g:ON (D×D)) (h:Int):ON Box:=[Ns 28 [.d (.sl a),.d (.sl b),.d (.sl c),.d (.sl d),.d (.sl e)],.cells 43 (vR f),.map g,.cells 3 (vR h)]
theorem Q8 (s:Sc) (e:Int) (es:ON (D×D)) (n:Int) (l:ON Rm) (hl:l.length<4611686018427387904) (hq:∀z∈l,z.shut.length<4611686018427387904):Nn Tryz.prog G 111 [.d (.sl (l.map N6)),.clo 59 [] [.ptr 3 0]] (Wd s e es n) (λrs H'=>rs=[.int .i64 (yu (λz=>!wX n z) l 0)]/\H'=Wd s e es n):=by
 refine zg (LL [(2,zT (α:=Nat) Tryz.prog G L0 4 (zz (z6 Tryz.f111) 0) [0,1,7] (λi=>i<=l.length/\yu (λz=>!wX n z) (l.drop i) i=yu (λz=>!wX n z) l 0) (λi=>l.length - i) (λi=>[(8,.d (.int .i64 i))]) (λH _=>H))]) Tryz.func111 rfl ⟨_,_,rfl,rfl⟩ (zm zy) ?_;apply @z7 _ (∃(x0:Nat),sZ x0 l n/\((OM N6 l=OM N6 l/\Ml 59 [] [N5 3 0]=Ml 59 [] [N5 3 0]/\(↑(OJ (OM N6 l)):Int)=(↑(OJ (OM N6 l)):Int)/\(0:Int)=(x0:Int)/\OG)/\(OM Nx (Ni s)=OM Nx (Ni s)/\OM N6 (Nh s)=OM N6 (Nh s)/\OM N9 (Nd s)=OM N9 (Nd s)/\OM Ny (Nb s)=OM Ny (Nb s)/\OM N8 (Nj s)=OM N8 (Nj s)/\OG)/\(e=e/\OG)/\es=es/\(n=n/\OG)/\OG)/\∀(x:Nat),sZ x l n->(decide ((x:Int)<(↑(OJ (OM N6 l)):Int))=true->((0:Int)<=(x:Int)/\(OM N6 l)[N1 (x:Int)]? = some (qU l x))/\Nn Tryz.prog G 59 [OF (qU l x),.ptr 3 0] (xB s e es n) λ(rs:ON D) (H':ON Box)=>∃(b:Bool),rs=[OD b]/\∃(l_1:ON D)(l_2:ON D)(l_3:ON D)(l_4:ON D)(l_5:ON D)(n_1:Int)(es_1:ON (D×D)),∃(n_2:Int),H'=wx l_1 l_2 l_3 l_4 l_5 n_1 es_1 n_2/\(b=true->[OH .i64 (x:Int)]=[OH .i64 (yu (λ(z:Rm)=>!wX n z) l 0)]/\wx l_1 l_2 l_3 l_4 l_5 n_1 es_1 n_2=xB s e es n)/\(b=false->∃(y:Nat),sZ y l n/\OJ l - y<OJ l - x/\(OM N6 l=OM N6 l/\Ml 59 [] [N5 3 0]=Ml 59 [] [N5 3 0]/\(↑(OJ (OM N6 l)):Int)=(↑(OJ (OM N6 l)):Int)/\Nl .i64 ((x:Int)+1)=(y:Int)/\OG)/\(l_1=OM Nx (Ni s)/\l_2=OM N6 (Nh s)/\l_3=OM N9 (Nd s)/\l_4=OM Ny (Nb s)/\l_5=OM N8 (Nj s)/\OG)/\(n_1=e/\OG)/\es_1=es/\(n_2=n/\OG)/\OG))/\(decide ((x:Int)<(↑(OJ (OM N6 l)):Int))=false->[OH .i64 (-1)]=[OH .i64 (yu (λ(z:Rm)=>!wX n z) l 0)]/\xB s e es n=xB s e es n))
 ·kernel_rfl
 delta sZ qU xB wx vR uY;refine⟨0,⟨L6 _,rfl⟩,by and_intros<;>first|rfl|trivial,λx hx=>⟨λhlt=>?_,λhge=>?_⟩⟩
 ·simp only[Nv,NR]at hlt;obtain⟨z,hz,hm⟩:=zt (l:=l) (x:=x) (by omega);have hx2:=hx.2;rw[yZ hz,yu]at hx2;rw[M1,rQ hz];refine⟨⟨by omega,pH hz⟩,(Oc s e es n z (hq z hm)).mono ?_⟩;rintro rs H' ⟨rfl,rfl⟩;have e1:Nl .i64 ((x:Int)+1)=((x+1:Nat):Int):=by rw[zu (by omega) (by omega)];rfl
  refine⟨_,rfl,_,_,_,_,_,_,_,_,rfl,λhb=>⟨?_,rfl⟩,λhb=>⟨x+1,⟨by omega,?_⟩,by omega,by and_intros<;>first|rfl|trivial|exact e1⟩⟩
  ·rw[Nf hb]at hx2;rw[hx2]
  ·rw[N2 (by rw[hb];decide)]at hx2;exact hx2
 ·simp only[Nv,M2]at hge;have hx2:=hx.2;rw[Ls (by omega),yu]at hx2;exact⟨by rw[hx2],rfl⟩
theorem PK (s:Sc) (e:Int) (es:ON (D×D)) (n:Int) (l:ON Rm) (hl:l.length<4611686018427387904) (hq:∀z∈l,z.shut.length<4611686018427387904):Nn Tryz.prog G 64 [.d (.sl (l.map N6)),.clo 59 [] [.ptr 3 0]] (Wd s e es n) (λrs H'=>rs=[.bool (l.any λz=>!wX n z)]/\H'=Wd s e es n):=by
 refine zF Tryz.func64 rfl ⟨_,_,rfl,rfl⟩ ?_;apply @z7 _ (Nn Tryz.prog G 111 [OF (.sl (OM N6 l)),.clo 59 [] [N5 3 0]] (xB s e es n) λ(rs:ON D) (H':ON Box)=>∃(n_1:Int),rs=[OH .i64 n_1]/\∃(l_1:ON D)(l_2:ON D)(l_3:ON D)(l_4:ON D)(l_5:ON D)(n_2:Int)(es_1:ON (D×D)),∃(n_3:Int),H'=wx l_1 l_2 l_3 l_4 l_5 n_2 es_1 n_3/\[OD (decide (n_1>=0))]=[OD (Lv l λ(z:Rm)=>!wX n z)]/\wx l_1 l_2 l_3 l_4 l_5 n_2 es_1 n_3=xB s e es n)
 ·kernel_rfl
 delta xB wx sZ qU vR uY;refine(Q8 (G:=G) s e es n l hl hq).mono ?_;rintro rs H' ⟨rfl,rfl⟩;refine⟨_,rfl,_,_,_,_,_,_,_,_,rfl,?_,rfl⟩;rw[uZ]
def ki (a:Nat) (b:ON Pe) (c:Int):Prop:=a<=OJ b/\yu (λ(z:Pe)=>!yY (Jh z) c) (Lx a b) a=yu (λ(z:Pe)=>!yY (Jh z) c) b 0
def dm (a:ON Pe) (b:Nat):D:=zk [NC,NB] (OM N9 a) (N1 (b:Int))
theorem Q9 (s:Sc) (e:Int) (es:ON (D×D)) (n:Int) (l:ON Pe) (hl:l.length<4611686018427387904) (hq:∀z∈l,z.away.length<4611686018427387904):Nn Tryz.prog G 112 [.d (.sl (l.map N9)),.clo 61 [] [.ptr 3 0]] (Wd s e es n) (λrs H'=>rs=[.int .i64 (yu (λz=>!yY z.away n) l 0)]/\H'=Wd s e es n):=by
 refine zg (LL [(2,zT (α:=Nat) Tryz.prog G L0 4 (zz (z6 Tryz.f112) 0) [0,1,7] (λi=>i<=l.length/\yu (λz=>!yY z.away n) (l.drop i) i=yu (λz=>!yY z.away n) l 0) (λi=>l.length - i) (λi=>[(8,.d (.int .i64 i))]) (λH _=>H))]) Tryz.func112 rfl ⟨_,_,rfl,rfl⟩ (zm zy) ?_;apply @z7 _ (∃(x0:Nat),ki x0 l n/\((OM N9 l=OM N9 l/\Ml 61 [] [N5 3 0]=Ml 61 [] [N5 3 0]/\(↑(OJ (OM N9 l)):Int)=(↑(OJ (OM N9 l)):Int)/\(0:Int)=(x0:Int)/\OG)/\(OM Nx (Ni s)=OM Nx (Ni s)/\OM N6 (Nh s)=OM N6 (Nh s)/\OM N9 (Nd s)=OM N9 (Nd s)/\OM Ny (Nb s)=OM Ny (Nb s)/\OM N8 (Nj s)=OM N8 (Nj s)/\OG)/\(e=e/\OG)/\es=es/\(n=n/\OG)/\OG)/\∀(x:Nat),ki x l n->(decide ((x:Int)<(↑(OJ (OM N9 l)):Int))=true->((0:Int)<=(x:Int)/\(OM N9 l)[N1 (x:Int)]? = some (dm l x))/\Nn Tryz.prog G 61 [OF (dm l x),.ptr 3 0] (xB s e es n) λ(rs:ON D) (H':ON Box)=>∃(b:Bool),rs=[OD b]/\∃(l_1:ON D)(l_2:ON D)(l_3:ON D)(l_4:ON D)(l_5:ON D)(n_1:Int)(es_1:ON (D×D)),∃(n_2:Int),H'=wx l_1 l_2 l_3 l_4 l_5 n_1 es_1 n_2/\(b=true->[OH .i64 (x:Int)]=[OH .i64 (yu (λ(z:Pe)=>!yY (Jh z) n) l 0)]/\wx l_1 l_2 l_3 l_4 l_5 n_1 es_1 n_2=xB s e es n)/\(b=false->∃(y:Nat),ki y l n/\OJ l - y<OJ l - x/\(OM N9 l=OM N9 l/\Ml 61 [] [N5 3 0]=Ml 61 [] [N5 3 0]/\(↑(OJ (OM N9 l)):Int)=(↑(OJ (OM N9 l)):Int)/\Nl .i64 ((x:Int)+1)=(y:Int)/\OG)/\(l_1=OM Nx (Ni s)/\l_2=OM N6 (Nh s)/\l_3=OM N9 (Nd s)/\l_4=OM Ny (Nb s)/\l_5=OM N8 (Nj s)/\OG)/\(n_1=e/\OG)/\es_1=es/\(n_2=n/\OG)/\OG))/\(decide ((x:Int)<(↑(OJ (OM N9 l)):Int))=false->[OH .i64 (-1)]=[OH .i64 (yu (λ(z:Pe)=>!yY (Jh z) n) l 0)]/\xB s e es n=xB s e es n))
 ·kernel_rfl
 delta ki dm xB wx sZ qU vR uY;refine⟨0,⟨L6 _,rfl⟩,by and_intros<;>first|rfl|trivial,λx hx=>⟨λhlt=>?_,λhge=>?_⟩⟩
 ·simp only[Nv,NR]at hlt;obtain⟨z,hz,hm⟩:=zt (l:=l) (x:=x) (by omega);have hx2:=hx.2;rw[yZ hz,yu]at hx2;rw[M1,mh hz];refine⟨⟨by omega,jV hz⟩,(Ob s e es n z (hq z hm)).mono ?_⟩;rintro rs H' ⟨rfl,rfl⟩;have e1:Nl .i64 ((x:Int)+1)=((x+1:Nat):Int):=by rw[zu (by omega) (by omega)];rfl
  refine⟨_,rfl,_,_,_,_,_,_,_,_,rfl,λhb=>⟨?_,rfl⟩,λhb=>⟨x+1,⟨by omega,?_⟩,by omega,by and_intros<;>first|rfl|trivial|exact e1⟩⟩
  ·rw[Nf hb]at hx2;rw[hx2]
  ·rw[N2 (by rw[hb];decide)]at hx2;exact hx2
 ·simp only[Nv,M2]at hge;have hx2:=hx.2;rw[Ls (by omega),yu]at hx2;exact⟨by rw[hx2],rfl⟩
theorem PJ (s:Sc) (e:Int) (es:ON (D×D)) (n:Int) (l:ON Pe) (hl:l.length<4611686018427387904) (hq:∀z∈l,z.away.length<4611686018427387904):Nn Tryz.prog G 65 [.d (.sl (l.map N9)),.clo 61 [] [.ptr 3 0]] (Wd s e es n) (λrs H'=>rs=[.bool (l.any λz=>!yY z.away n)]/\H'=Wd s e es n):=by
 refine zF Tryz.func65 rfl ⟨_,_,rfl,rfl⟩ ?_;apply @z7 _ (Nn Tryz.prog G 112 [OF (.sl (OM N9 l)),.clo 61 [] [N5 3 0]] (xB s e es n) λ(rs:ON D) (H':ON Box)=>∃(n_1:Int),rs=[OH .i64 n_1]/\∃(l_1:ON D)(l_2:ON D)(l_3:ON D)(l_4:ON D)(l_5:ON D)(n_2:Int)(es_1:ON (D×D)),∃(n_3:Int),H'=wx l_1 l_2 l_3 l_4 l_5 n_2 es_1 n_3/\[OD (decide (n_1>=0))]=[OD (Lv l λ(z:Pe)=>!yY (Jh z) n)]/\wx l_1 l_2 l_3 l_4 l_5 n_2 es_1 n_3=xB s e es n)
 ·kernel_rfl
 delta xB wx sZ qU vR uY;refine(Q9 (G:=G) s e es n l hl hq).mono ?_;rintro rs H' ⟨rfl,rfl⟩;refine⟨_,rfl,_,_,_,_,_,_,_,_,rfl,?_,rfl⟩;rw[uZ]
def kh (a:Nat) (b:ON Gr):Prop:=a<=OJ b/\yu (λ(z:Gr)=>!xG z) (Lx a b) a=yu (λ(z:Gr)=>!xG z) b 0
def dl (a:ON Gr) (b:Nat):D:=zk [NC,NP .i64] (OM Ny a) (N1 (b:Int))
theorem Qz (l:ON Gr) (hl:l.length<4611686018427387904):OB Tryz.prog G 113 [.sl (l.map Ny),.fn 62] (· = [.int .i64 (yu (λz=>!xG z) l 0)]):=by
 refine zr (LL [(2,zT (α:=Nat) Tryz.prog G L0 0 (zz (z6 Tryz.f113) 0) [0,1,7] (λi=>i<=l.length/\yu (λz=>!xG z) (l.drop i) i=yu (λz=>!xG z) l 0) (λi=>l.length - i) (λi=>[(8,.d (.int .i64 i))]) (λH _=>H))]) Tryz.func113 ⟨_,rfl⟩ (zm zy) ?_;apply @z7 _ (∃(x0:Nat),kh x0 l/\((OM Ny l=OM Ny l/\OF (.fn 62)=OF (.fn 62)/\(↑(OJ (OM Ny l)):Int)=(↑(OJ (OM Ny l)):Int)/\(0:Int)=(x0:Int)/\OG)/\OG)/\∀(x:Nat),kh x l->(decide ((x:Int)<(↑(OJ (OM Ny l)):Int))=true->((0:Int)<=(x:Int)/\(OM Ny l)[N1 (x:Int)]? = some (dl l x))/\OB Tryz.prog G 62 [dl l x] λ(rs:ON D)=>∃(b:Bool),rs=[OD b]/\(b=true->[OH .i64 (x:Int)]=[OH .i64 (yu (λ(z:Gr)=>!xG z) l 0)])/\(b=false->∃(y:Nat),kh y l/\OJ l - y<OJ l - x/\(OM Ny l=OM Ny l/\OF (.fn 62)=OF (.fn 62)/\(↑(OJ (OM Ny l)):Int)=(↑(OJ (OM Ny l)):Int)/\Nl .i64 ((x:Int)+1)=(y:Int)/\OG)/\OG))/\(decide ((x:Int)<(↑(OJ (OM Ny l)):Int))=false->[OH .i64 (-1)]=[OH .i64 (yu (λ(z:Gr)=>!xG z) l 0)]))
 ·kernel_rfl
 delta kh dl;refine⟨0,⟨L6 _,rfl⟩,by and_intros<;>first|rfl|trivial,λx hx=>⟨λhlt=>?_,λhge=>?_⟩⟩
 ·simp only[Nv,NR]at hlt;obtain⟨z,hz,hm⟩:=zt (l:=l) (x:=x) (by omega);have hx2:=hx.2;rw[yZ hz,yu]at hx2;rw[M1,jT hz];have e1:Nl .i64 ((x:Int)+1)=((x+1:Nat):Int):=by rw[zu (by omega) (by omega)];rfl
  refine⟨⟨by omega,eq hz⟩,(Oa z).use ⟨_,rfl,λhb=>?_,λhb=>⟨x+1,⟨by omega,?_⟩,by omega,by and_intros<;>first|rfl|trivial|exact e1⟩⟩⟩
  ·rw[Nf hb]at hx2;rw[hx2]
  ·rw[N2 (by rw[hb];decide)]at hx2;exact hx2
 ·simp only[Nv,M2]at hge;have hx2:=hx.2;rw[Ls (by omega),yu]at hx2;rw[hx2]
theorem PI (l:ON Gr) (hl:l.length<4611686018427387904):OB Tryz.prog G 66 [.sl (l.map Ny),.fn 62] (· = [.bool (l.any λz=>!xG z)]):=by
 refine zn Tryz.func66 ⟨_,rfl⟩ ?_;apply @z7 _ (OB Tryz.prog G 113 [OE (OM Ny l),.fn 62] λ(rs:ON D)=>∃(n:Int),rs=[OH .i64 n]/\[OD (decide (n>=0))]=[OD (Lv l λ(z:Gr)=>!xG z)])
 ·kernel_rfl
 refine(Qz (G:=G) l hl).use ⟨_,rfl,?_⟩;rw[uZ]
def nZ (a:Nat) (b:ON Le) (c:Int) (d:Int):Prop:=a<=OJ b/\yu (λ(z:Le)=>!xw c d z) (Lx a b) a=yu (λ(z:Le)=>!xw c d z) b 0
def h114Lq3:AV:=Ml 63 [] [N5 4 0,.ptr 5 0]
def h114Lq2:Prop:=h114Lq3=h114Lq3
def kg (a:ON Le) (b:Nat):D:=zk [NC,NB,NB] (OM N8 a) (N1 (b:Int))
def qT (a:ON D) (b:ON D) (c:ON D) (d:ON D) (e:ON D) (f:Int) (g:ON (D×D)) (h:Int) (i:Int) (j:Int):ON Box:=[Ns 28 [.d (.sl a),.d (.sl b),.d (.sl c),.d (.sl d),.d (.sl e)],.cells 43 (vR f),.map g,.cells 3 (vR h),.cells 3 (vR i),.cells 3 (vR j)]
theorem Qy (s:Sc) (e:Int) (es:ON (D×D)) (n p g:Int) (l:ON Le) (hl:l.length<4611686018427387904) (hq:∀z∈l,z.who.length<4611686018427387904/\z.groups.length<4611686018427387904):Nn Tryz.prog G 114 [.d (.sl (l.map N8)),.clo 63 [] [.ptr 4 0,.ptr 5 0]] (Ro s e es n p g) (λrs H'=>rs=[.int .i64 (yu (λz=>!xw p g z) l 0)]/\H'=Ro s e es n p g):=by
 refine zg (LL [(2,zT (α:=Nat) Tryz.prog G L0 6 (zz (z6 Tryz.f114) 0) [0,1,7] (λi=>i<=l.length/\yu (λz=>!xw p g z) (l.drop i) i=yu (λz=>!xw p g z) l 0) (λi=>l.length - i) (λi=>[(8,.d (.int .i64 i))]) (λH _=>H))]) Tryz.func114 rfl ⟨_,_,rfl,rfl⟩ (zm zy) ?_;apply @z7 _ (∃(x0:Nat),nZ x0 l p g/\((OM N8 l=OM N8 l/\h114Lq2/\(↑(OJ (OM N8 l)):Int)=(↑(OJ (OM N8 l)):Int)/\(0:Int)=(x0:Int)/\OG)/\(OM Nx (Ni s)=OM Nx (Ni s)/\OM N6 (Nh s)=OM N6 (Nh s)/\OM N9 (Nd s)=OM N9 (Nd s)/\OM Ny (Nb s)=OM Ny (Nb s)/\OM N8 (Nj s)=OM N8 (Nj s)/\OG)/\(e=e/\OG)/\es=es/\(n=n/\OG)/\(p=p/\OG)/\(g=g/\OG)/\OG)/\∀(x:Nat),nZ x l p g->(decide ((x:Int)<(↑(OJ (OM N8 l)):Int))=true->((0:Int)<=(x:Int)/\(OM N8 l)[N1 (x:Int)]? = some (kg l x))/\Nn Tryz.prog G 63 [OF (kg l x),.ptr 4 0,.ptr 5 0] (uY s e es n p g) λ(rs:ON D) (H' : ON Box)=>∃(b:Bool),rs=[OD b]/\∃(l_1:ON D)(l_2:ON D)(l_3:ON D)(l_4:ON D)(l_5:ON D)(n_1:Int)(es_1:ON (D×D)),∃(n_2:Int)(n_3:Int)(n_4:Int),H'=qT l_1 l_2 l_3 l_4 l_5 n_1 es_1 n_2 n_3 n_4/\(b=true->[OH .i64 (x:Int)]=[OH .i64 (yu (λ(z:Le)=>!xw p g z) l 0)]/\qT l_1 l_2 l_3 l_4 l_5 n_1 es_1 n_2 n_3 n_4=uY s e es n p g)/\(b=false->∃(y:Nat),nZ y l p g/\OJ l - y<OJ l - x/\(OM N8 l=OM N8 l/\h114Lq2/\(↑(OJ (OM N8 l)):Int)=(↑(OJ (OM N8 l)):Int)/\Nl .i64 ((x:Int)+1)=(y:Int)/\OG)/\(l_1=OM Nx (Ni s)/\l_2=OM N6 (Nh s)/\l_3=OM N9 (Nd s)/\l_4=OM Ny (Nb s)/\l_5=OM N8 (Nj s)/\OG)/\(n_1=e/\OG)/\es_1=es/\(n_2=n/\OG)/\(n_3=p/\OG)/\(n_4=g/\OG)/\OG))/\(decide ((x:Int)<(↑(OJ (OM N8 l)):Int))=false->[OH .i64 (-1)]=[OH .i64 (yu (λ(z:Le)=>!xw p g z) l 0)]/\uY s e es n p g=uY s e es n p g))
 ·kernel_rfl
 delta nZ h114Lq2 h114Lq3 kg uY vR qT;refine⟨0,⟨L6 _,rfl⟩,by and_intros<;>first|rfl|trivial,λx hx=>⟨λhlt=>?_,λhge=>?_⟩⟩
 ·simp only[Nv,NR]at hlt;obtain⟨z,hz,hm⟩:=zt (l:=l) (x:=x) (by omega);have hx2:=hx.2;rw[yZ hz,yu]at hx2;rw[M1,rP hz];refine⟨⟨by omega,rO hz⟩,(OZ s e es n p g z (hq z hm).1 (hq z hm).2).mono ?_⟩;rintro rs H' ⟨rfl,rfl⟩;have e1:Nl .i64 ((x:Int)+1)=((x+1:Nat):Int):=by rw[zu (by omega) (by omega)];rfl
  refine⟨_,rfl,_,_,_,_,_,_,_,_,_,_,rfl,λhb=>⟨?_,rfl⟩,λhb=>⟨x+1,⟨by omega,?_⟩,by omega,by and_intros<;>first|rfl|trivial|exact e1⟩⟩
  ·rw[Nf hb]at hx2;rw[hx2]
  ·rw[N2 (by rw[hb];decide)]at hx2;exact hx2
 ·simp only[Nv,M2]at hge;have hx2:=hx.2;rw[Ls (by omega),yu]at hx2;exact⟨by rw[hx2],rfl⟩
theorem PH (s:Sc) (e:Int) (es:ON (D×D)) (n p g:Int) (l:ON Le) (hl:l.length<4611686018427387904) (hq:∀z∈l,z.who.length<4611686018427387904/\z.groups.length<4611686018427387904):Nn Tryz.prog G 67 [.d (.sl (l.map N8)),.clo 63 [] [.ptr 4 0,.ptr 5 0]] (Ro s e es n p g) (λrs H'=>rs=[.bool (l.any λz=>!xw p g z)]/\H'=Ro s e es n p g):=by
 refine zF Tryz.func67 rfl ⟨_,_,rfl,rfl⟩ ?_;apply @z7 _ (Nn Tryz.prog G 114 [OF (.sl (OM N8 l)),h114Lq3] (uY s e es n p g) λ(rs:ON D) (H':ON Box)=>∃(n_1:Int),rs=[OH .i64 n_1]/\∃(l_1:ON D)(l_2:ON D)(l_3:ON D)(l_4:ON D)(l_5:ON D)(n_2:Int)(es_1:ON (D×D)),∃(n_3:Int)(n_4:Int)(n_5:Int),H'=qT l_1 l_2 l_3 l_4 l_5 n_2 es_1 n_3 n_4 n_5/\[OD (decide (n_1>=0))]=[OD (Lv l λ(z:Le)=>!xw p g z)]/\qT l_1 l_2 l_3 l_4 l_5 n_2 es_1 n_3 n_4 n_5=uY s e es n p g)
 ·kernel_rfl
 delta h114Lq3 nZ h114Lq2 kg uY vR qT;refine(Qy (G:=G) s e es n p g l hl hq).mono ?_;rintro rs H' ⟨rfl,rfl⟩;refine⟨_,rfl,_,_,_,_,_,_,_,_,_,_,rfl,?_,rfl⟩;rw[uZ]
end
section
variable {G:Nat->OK (ON D)}
theorem Qx (b:Bool) (X:ON Box) (s:Sc):∃(rs:ON D) (H':ON Box),(b=true->H'=X)/\(b=false->∃m,H'=Ti s m):=by obtain⟨rs,H',_,h⟩:=Wq b X s;exact⟨rs,H',h⟩
def h94Kq23:ON AV:=[NE 4]
def h94Kq2 (a:Sc):Box:=Ns 28 [.d (.sl (OM Nx (Ni a))),.d (.sl (OM N6 (Nh a))),.d (.sl (OM N9 (Nd a))),.d (.sl (OM Ny (Nb a))),.d (.sl (OM N8 (Nj a)))]
def h94Kq1:Box:=Ns 43 [.d (.int .i64 0)]
def h94Kq18:Box:=Ns 122 [.map 2]
def h94Kq3:ON AV:=[OI,.ptr 0 0,.ptr 1 0,.any,.ptr 3 0,.any,.any,.any,.any,.any,.any,.any,.any,.any,.any,.any,.any,.any,.any,.any,.any,.any,.any,.any,.any,.any,.any,.any,.any,.any,.any,.any,.any,.any,.any,.any,.any,.any,.any,.any,.any,.any,.any,.any,.any,.any,.any,.any,.any,.any,.any,.any,.any,.any,.any,.any,.any,.any,.any,.any,.any,.any,.any,.any,.any,.any,.any,.any,.any,.any,.any,.any,.any,.any,.any,.any,.any,.any,.any,.any,.any,.any,.any,.any,.any,.any,.any,.any,.any,.any,.any,.any,.any,.any,.any,.any,.any,.any,.any,.any,.any,.any,.any,.any,.any,.any,.any,.any,.any,.any,.any,.any,.any,.any,.any,.any,.any,.any,.any,.any,.any,.any,.any,.any,.any,.any,.any,.any,.any,.any,.any,.any,.any,.any,.any,.any]
def h94Kq17:Box:=M7 h94Kq3 (ze c26) (zo c26) (zc c26) none Mg
def h94Kq22:ON Box:=[h94Kq18,h94Kq17]
def vA (a:Sc):ON Box:=h94Kq2 a::h94Kq1::Kw []::h94Kq22
def qS (a:ON D) (b:ON D) (c:ON D) (d:ON D) (e:ON D):Box:=Ns 28 [.d (.sl a),.d (.sl b),.d (.sl c),.d (.sl d),.d (.sl e)]
def qR (a:ON D) (b:ON D) (c:ON D) (d:ON D) (e:ON D) (f:Int) (g:ON (D×D)) (h:OK Np) (i:NQ):ON Box:=[qS a b c d e,.cells 43 [.d (.int .i64 f)],.map g,h94Kq18,.loop h94Kq3 (ze c26) (zo c26) (zc c26) h i]
def kf (a:Sc) (b:Int):ON Box:=h94Kq2 a::h94Kq1::Kw (yB (zh a b))::h94Kq22
def dk (a:Sc) (b:ON Nm):ON Box:=[h94Kq2 a,.cells 43 [.d (.int .i64 1)],.map (yB b),h94Kq18,.loop h94Kq3 (ze c26) (zo c26) (zc c26) (some Lg) J4]
def ke (a:Sc) (b:Int) (c:ON D) (d:ON D) (e:ON D) (f:ON D) (g:ON D) (h:Int) (i:ON (D×D)) (j:OK Np) (k:NQ):Prop:=(zZ (zh a b)=true->qR c d e f g h i j k=kf a b)/\(zZ (zh a b)=false->∃(m:ON Nm),qR c d e f g h i j k=dk a m)
def sY (a:ON D) (b:ON Box) (c:Sc) (d:Int):Prop:=a=[]/\∃(l:ON D)(l_1:ON D)(l_2:ON D)(l_3:ON D)(l_4:ON D)(n:Int)(es:ON (D×D)),∃(pend:OK Np)(st:NQ),b=qR l l_1 l_2 l_3 l_4 n es pend st/\ke c d l l_1 l_2 l_3 l_4 n es pend st
def h94Kq12:Prop:=(7:Int)=7/\(0:Int)<=7/\(7:Int)<=1000000000/\(↑0:Int)*(7:Int)<=281474976710656
def h94Kq10:AV:=OF (.str (Mm (Mn (Mi #[(100:UInt8),(97:UInt8),(121:UInt8)]))))
def h94Kq20:AV:=Ml 146 [] [N5 6 0,.ptr 5 0]
def h94Kq24:ON Box:=[Ns 9 [h94Kq10],.cells 173 h94Kq23]
def dj (a:Nat->OK (ON D)) (b:Sc):Prop:=PMaker Tryz.prog a 106 (h94Kq10::h94Kq23) (vA b) h94Kq20 h94Kq24
def h94Kq21:ON D:=[NY [],.agg [],.agg [],.agg [],.agg [],.agg [],.agg []]
def kc (a:ON D) (b:ON Box) (c:Sc) (d:Int):Prop:=a=[]/\∃(l:ON D)(l_1:ON D)(l_2:ON D)(l_3:ON D)(l_4:ON D)(n:Int)(es:ON (D×D)),∃(pend:OK Np)(st:NQ)(s:ON UInt8),b=[qS l l_1 l_2 l_3 l_4,.cells 43 [.d (.int .i64 n)],.map es,h94Kq18,.loop h94Kq3 (ze c26) (zo c26) (zc c26) pend st,.cells 9 [.d (.str s)],.cells 173 h94Kq23]/\ke c d l l_1 l_2 l_3 l_4 n es pend st
def di (a:Nat->OK (ON D)) (b:Sc) (c:Int):Prop:=Nn Tryz.prog a 105 [OF (.sl h94Kq21),.nilf,h94Kq20] (h94Kq2 b::h94Kq1::Kw []::h94Kq18::h94Kq17::h94Kq24) λ(rs:ON D) (H':ON Box)=>kc rs H' b c
def kb (a:Nat->OK (ON D)) (b:Sc) (c:Int):Prop:=h94Kq12/\dj a b/\di a b c
def h94Kq4:Prop:=(8:Int)=8/\(0:Int)<=8/\(8:Int)<=1000000000/\(↑0:Int)*(8:Int)<=281474976710656
def h94Kq8:AV:=OF (.str (Mm (Mn (Mi #[(104:UInt8),(111:UInt8),(117:UInt8),(115:UInt8),(101:UInt8)]))))
def ka (a:Nat->OK (ON D)) (b:Sc):Prop:=PMaker Tryz.prog a 106 (h94Kq8::h94Kq23) (vA b) h94Kq20 [Ns 9 [h94Kq8],.cells 173 h94Kq23]
def kZ (a:Nat->OK (ON D)) (b:Sc) (c:Int):Prop:=Nn Tryz.prog a 105 [OF (.sl (NY []::h94Kq21)),.nilf,h94Kq20] [h94Kq2 b,h94Kq1,.map [],h94Kq18,h94Kq17,.cells 9 [h94Kq8],.cells 173 h94Kq23] λ(rs:ON D) (H':ON Box)=>kc rs H' b c
def kY (a:Nat->OK (ON D)) (b:Sc) (c:Int):Prop:=h94Kq4/\ka a b/\kZ a b c
theorem h94K (hG:∃m,G 4=some [.int .i64 m]) (s:Sc) (k:Int) (hs:s.Fits) (h1:1<=k) (h5:k<=5):Nn Tryz.prog G 94 [.yld 4,.iptr [.int .i64 k],.iptr [.sl (s.slots.map Nx),.sl (s.rooms.map N6),.sl (s.people.map N9),.sl (s.groups.map Ny),.sl (s.lessons.map N8)]] (hK s []) (λ_ H'=>(zZ (zh s k)=true->H'=hK s (zh s k))/\(zZ (zh s k)=false->∃m,H'=Ti s m)):=by
 refine zF Tryz.func94 rfl (Qx _ _ _) ?_;apply @z7 _ (((k==1)=true->Nn Tryz.prog G 95 (OF (.sl (OM N8 (Nj s)))::OF (.fn 96)::h94Kq23) (vA s) λ(rs:ON D) (H':ON Box)=>sY rs H' s k)/\((k==1)=false->((k==2)=true->Nn Tryz.prog G 97 (OF (.sl (OM Nx (Ni s)))::OF (.fn 98)::h94Kq23) (vA s) λ(rs:ON D) (H':ON Box)=>sY rs H' s k)/\((k==2)=false->((k==3)=true->Nn Tryz.prog G 99 (OF (.sl (OM N6 (Nh s)))::OF (.fn 100)::h94Kq23) (vA s) λ(rs:ON D) (H':ON Box)=>sY rs H' s k)/\((k==3)=false->((k==4)=true->Nn Tryz.prog G 101 (OF (.sl (OM N9 (Nd s)))::OF (.fn 102)::h94Kq23) (vA s) λ(rs:ON D) (H':ON Box)=>sY rs H' s k)/\((k==4)=false->((k==5)=true->Nn Tryz.prog G 103 (OF (.sl (OM Ny (Nb s)))::OF (.fn 104)::h94Kq23) (vA s) λ(rs:ON D) (H':ON Box)=>sY rs H' s k)/\((k==5)=false->((k==6)=true->kb G s k/\kb G s k/\dj G s/\h94Kq12/\di G s k)/\((k==6)=false->((k==7)=true->kY G s k/\kY G s k/\ka G s/\h94Kq4/\kZ G s k)/\((k==7)=false->(zZ (zh s k)=true->vA s=kf s k)/\(zZ (zh s k)=false->∃(m:ON Nm),vA s=dk s m)))))))))
 ·kernel_rfl
 delta h94Kq23 vA h94Kq2 h94Kq1 h94Kq22 h94Kq18 h94Kq17 h94Kq3 sY qR qS ke kf dk kb h94Kq12 dj h94Kq10 h94Kq20 h94Kq24 di h94Kq21 kc kY h94Kq4 ka h94Kq8 kZ;have c1:k=1->zh s k=s.lessons.map (·.name):=λe=>by subst e;simp[zh]
 have c2:k=2->zh s k=s.slots.map (·.name):=λe=>by subst e;simp[zh]
 have c3:k=3->zh s k=s.rooms.map (·.name):=λe=>by subst e;simp[zh]
 have c4:k=4->zh s k=s.people.map (·.name):=λe=>by subst e;simp[zh]
 have c5:k=5->zh s k=s.groups.map (·.name):=λe=>by subst e;simp[zh]
 refine⟨λe=>?_,λn1=>⟨λe=>?_,λn2=>⟨λe=>?_,λn3=>⟨λe=>?_,λn4=>⟨λe=>?_,λn5=>?_⟩⟩⟩⟩⟩
 ·have e':k=1:=by simpa using e
  rw[c1 e'];refine(PN hG s s.lessons hs.lessons).mono ?_;intro rs H' hh;obtain⟨rfl,hA,hB⟩:=hh;cases hb:zZ (s.lessons.map (·.name))with
  |true =>
   obtain rfl:=hA hb;exact⟨rfl,_,_,_,_,_,_,_,_,_,rfl,λ_=>rfl,λh=>No h (by decide)⟩
  |false =>
   obtain⟨m,rfl⟩:=hB hb;exact⟨rfl,_,_,_,_,_,_,_,_,_,rfl,λh=>No h (by decide),λ_=>⟨m,rfl⟩⟩
 ·have e':k=2:=by simpa using e
  rw[c2 e'];refine(PM hG s s.slots hs.slots).mono ?_;intro rs H' hh;obtain⟨rfl,hA,hB⟩:=hh;cases hb:zZ (s.slots.map (·.name))with
  |true =>
   obtain rfl:=hA hb;exact⟨rfl,_,_,_,_,_,_,_,_,_,rfl,λ_=>rfl,λh=>No h (by decide)⟩
  |false =>
   obtain⟨m,rfl⟩:=hB hb;exact⟨rfl,_,_,_,_,_,_,_,_,_,rfl,λh=>No h (by decide),λ_=>⟨m,rfl⟩⟩
 ·have e':k=3:=by simpa using e
  rw[c3 e'];refine(PL hG s s.rooms hs.rooms).mono ?_;intro rs H' hh;obtain⟨rfl,hA,hB⟩:=hh;cases hb:zZ (s.rooms.map (·.name))with
  |true =>
   obtain rfl:=hA hb;exact⟨rfl,_,_,_,_,_,_,_,_,_,rfl,λ_=>rfl,λh=>No h (by decide)⟩
  |false =>
   obtain⟨m,rfl⟩:=hB hb;exact⟨rfl,_,_,_,_,_,_,_,_,_,rfl,λh=>No h (by decide),λ_=>⟨m,rfl⟩⟩
 ·have e':k=4:=by simpa using e
  rw[c4 e'];refine(Q6 hG s s.people hs.people).mono ?_;intro rs H' hh;obtain⟨rfl,hA,hB⟩:=hh;cases hb:zZ (s.people.map (·.name))with
  |true =>
   obtain rfl:=hA hb;exact⟨rfl,_,_,_,_,_,_,_,_,_,rfl,λ_=>rfl,λh=>No h (by decide)⟩
  |false =>
   obtain⟨m,rfl⟩:=hB hb;exact⟨rfl,_,_,_,_,_,_,_,_,_,rfl,λh=>No h (by decide),λ_=>⟨m,rfl⟩⟩
 ·have e':k=5:=by simpa using e
  rw[c5 e'];refine(Q7 hG s s.groups hs.groups).mono ?_;intro rs H' hh;obtain⟨rfl,hA,hB⟩:=hh;cases hb:zZ (s.groups.map (·.name))with
  |true =>
   obtain rfl:=hA hb;exact⟨rfl,_,_,_,_,_,_,_,_,_,rfl,λ_=>rfl,λh=>No h (by decide)⟩
  |false =>
   obtain⟨m,rfl⟩:=hB hb;exact⟨rfl,_,_,_,_,_,_,_,_,_,rfl,λh=>No h (by decide),λ_=>⟨m,rfl⟩⟩
 ·exfalso;have n1:k≠1:=by simpa using n1
  have n2:k≠2:=by simpa using n2
  have n3:k≠3:=by simpa using n3
  have n4:k≠4:=by simpa using n4
  have n5:k≠5:=by simpa using n5
  omega
def sJ (l:ON Sl):ON (D×D):=l.map λx=>(.agg [.int .i64 x.day,.int .i64 x.hour],.bool true)
theorem UK (a b:Int) (l:ON Sl):((sJ l).all λkv=>sameKind (.agg [.int .i64 a,.int .i64 b]) kv.1&&L2 .bool kv.2)=true:=by rw[ND];intro d hd;obtain⟨t,_,rfl⟩:=Mj.1 hd;rfl
theorem fq (a b:Int):∀l:ON Sl,zX (sJ l) (.agg [.int .i64 a,.int .i64 b])=if(l.map vU).contains (a,b)then some (.bool true)else none
 |[]=>rfl
 |x::l=>by
  have ih:=fq a b l;unfold zX at *;unfold sJ at *;rw[Mf,KP,Mf,Hu];have hb:beqD (.agg [.int .i64 a,.int .i64 b]) (.agg [.int .i64 x.day,.int .i64 x.hour])=((a,b)==vU x):=by show(a==x.day&&b==x.hour)=((a,b)==(x.day,x.hour));rfl
  rw[hb];cases ((a,b)==vU x)with
  |true=>rfl
  |false=>rw[LF];exact ih
theorem ay (a b:Int):∀l:ON Sl,(l.map vU).contains (a,b)=false->∀x:Sl,vU x=(a,b)->updD (sJ l) (.agg [.int .i64 a,.int .i64 b]) (.bool true)=sJ (l++[x])
 |[],_,x,hx=>by cases hx;rfl
 |y::l,h,x,hx=>by rw[Mf,Hu,LA]at h;have ih:=ay a b l h.2 x hx;have hb:beqD (.agg [.int .i64 a,.int .i64 b]) (.agg [.int .i64 y.day,.int .i64 y.hour])=false:=h.1;show(if beqD _ _=true then _ else _)=_;rw[hb];show(_ ,_)::updD (sJ l) _ _=_;rw[ih];rfl
def uX (l:ON Sl):Bool:=l.all me&&decide ((l.map vU).Nodup)
theorem aw {l:ON Sl}{x:Nat}{z:Sl}(h:l[x]? = some z) (hp:uX (l.take x)=true):uX (l.take (x+1))=(me z&& !((l.take x).map vU).contains (z.day,z.hour)):=by
 unfold uX at *;rw[NK]at hp;rw[MG];have hk:(l.map vU)[x]? = some (vU z):=by rw[M6,h];rfl
 simp only[NK,NR,Lc]at hp ⊢;rw[Ce,jO hk,←Ce,yp h,J2];simp only[NK,J7,CG,Ei];have:(OM vU (NW x l)).contains (z.day,z.hour)=false↔vU z∉OM vU (NW x l):=by rw[←Iu,Jf];rfl
 rw[this];constructor
 ·rintro⟨⟨_,h1⟩,_,h2⟩;exact⟨h1,h2⟩
 ·rintro⟨h1,h2⟩;exact⟨⟨hp.1,h1⟩,hp.2,h2⟩
theorem ZH {l:ON Sl}{x:Nat}(h:uX l=true):uX (l.take x)=true:=by unfold uX at *;simp only[NK,NR,ND]at h ⊢;exact⟨λn hn=>h.1 n (Je hn),h.2.sublist ((E0 _ _).map _)⟩
theorem nY {α:Type}(p:α->Bool) (l:ON α):(l.any λz=>!p z) = !l.all p:=by
 induction l with
 |nil=>rfl
 |cons a l ih=>rw[K7,J7,ih,Gj]
theorem S2 {s:Sc}(h:ny s=false):[OH .i64 1]=[OH .i64 (xg s)]:=by unfold xg;rw[Nf h]
theorem au {s:Sc}{k:Nat}(h:zZ (zh s ((k:Int)+1))=false) (hk:k<5):ny s=false:=by
 have:wW s 5=false:=by unfold wW;rw[ON.all_eq_false];exact⟨k,by simpa using hk,by rw[h];decide⟩
 unfold ny;rw[this];rfl
theorem iF {s:Sc}{k:Nat}(h:wW s k=true) (h2:zZ (zh s ((k:Int)+1))=true):wW s (k+1)=true:=by unfold wW at *;rw[ON.range_succ,J2,h];simp[h2]
theorem ie (l:ON Sl):ep l=(uX l&& !l.isEmpty):=rfl
theorem Wp {s:Sc}(h:uX s.slots=false):ny s=false:=by unfold ny;rw[ie,h];simp
theorem Wo {s:Sc}(h:(s.slots.length:Int)=0∨(s.rooms.length:Int)=0):ny s=false:=by
 unfold ny;rw[ie];rcases h with h|h
 ·have:s.slots=[]:=Ju (by omega);rw[this];simp
 ·have:s.rooms=[]:=Ju (by omega);rw[this];simp
def dg (a:Nat) (b:Sc):Prop:=(1<=a/\a<=6)/\wW b (a - 1)=true
def wR (a:Sc):ON D:=OM Nx (Ni a)
def ic (a:Sc):ON D:=OM N6 (Nh a)
def om (a:Sc):ON D:=OM N9 (Nd a)
def ol (a:Sc):ON D:=OM Ny (Nb a)
def de (a:Sc):Prop:=wR a=wR a/\ic a=ic a/\om a=om a/\ol a=ol a/\OM N8 (Nj a)=OM N8 (Nj a)/\OG
def dd (a:Sc):ON D:=[OE (wR a),.sl (ic a),.sl (om a),.sl (ol a),.sl (OM N8 (Nj a))]
def UJ (a:Nat) (b:Nat):Prop:=Nl .i64 ((a:Int)+1)=(b:Int)/\OG
def ZG (a:Sc) (b:Nat) (c:ON D) (d:ON D) (e:ON D) (f:ON D) (g:ON D) (h:Int):Prop:= ∃(y:Nat),dg y a/\6 - y<6 - b/\(N5 0 0=N5 0 0/\N5 1 0=N5 1 0/\UJ b y)/\(c=wR a/\d=ic a/\e=om a/\f=ol a/\g=OM N8 (Nj a)/\OG)/\(h=0/\OG)/\OG
def ib (a:Sc):ON D:=[OH .i64 (xg a)]
def X9 (a:Nat) (b:Sc):Prop:=a<=OJ (Ni b)/\uX (NW a (Ni b))=true
def nX (a:Sc):Int:=(↑(OJ (wR a)):Int)
def lc (a:Nat) (b:Sc):ON (D×D):=sJ (NW a (Ni b))
def Xz (a:Sc) (b:Nat):D:=NY (Mx [(λ(x:Sh×Nat)=>match x with|(sh,j)=>MK sh (Nz (z1 (OM Nx (Ni a)) (N1 (b:Int)) j) default)) (NP .i64,0+1+1),(λ(x:Sh×Nat)=>match x with|(sh,j)=>MK sh (Nz (z1 (OM Nx (Ni a)) (N1 (b:Int)) j) default)) (NP .i64,0+1)])
def ZF (a:Sc) (b:Nat) (c:D×D):Bool:=sameKind (Xz a b) (N7 c)
def oh (a:ON D) (b:Bool):Prop:=a=[OD b]
def ZE (a:Nat) (b:Sc) (c:Bool) (d:Bool):Bool:=bif bif Kz (Nz (zX (lc a b) (Xz b a)) (OD false))then true else !c then true else !d
def db (a:Sc):Prop:=[OH .i64 1]=ib a
def ZD (a:Sc):Bool:=bif nX a==0 then true else(↑(OJ (ic a)):Int)==0
def aq (a:Int):ON AV:=[OF (.int .i64 a)]
def UI (a:ON D) (b:ON D) (c:ON D) (d:ON D) (e:ON D) (f:Int) (g:ON (D×D)) (h:Int):ON Box:=[qS a b c d e,.cells 43 (aq f),.map g,.cells 3 (aq h)]
def ZC (a:ON Box) (b:ON D) (c:ON D) (d:ON D) (e:ON D) (f:ON D) (g:Int) (h:ON (D×D)) (i:Int):Prop:=a=UI b c d e f g h i
def UH (a:ON D) (b:ON D) (c:ON D) (d:ON D) (e:ON D) (f:Int) (g:ON (D×D)) (h:Int) (i:Sc):ON Box:=[qS a b c d e,.cells 43 (aq f),.map g,.cells 3 (aq h),.cells 3 [.d (.int .i64 (↑(OJ (om i)):Int))],.cells 3 [.d (.int .i64 (↑(OJ (ol i)):Int))]]
def ZB (a:Int) (b:ON D) (c:Sc) (d:ON D):Bool:=bif bif bif bif decide (a>50)then true else decide ((↑(OJ b):Int)>32)then true else decide ((↑(OJ (om c)):Int)>64)then true else decide ((↑(OJ (ol c)):Int)>64)then true else decide ((↑(OJ d):Int)>64)
theorem h26 (hG:∃m,G 4=some [.int .i64 m]) (s:Sc) (hs:s.Fits):OB Tryz.prog G 26 [s.d] (· = [.int .i64 (xg s)]):=by
 have h56:=λk=>h56 (G:=G) s k;have h94K:=λk h1 h5=>h94K (G:=G) hG s k hs h1 h5;rw[zf]at *;refine zr (LL [(2,ui (α:=Nat) Tryz.prog G (λ_=>LL [(1000005,vI Tryz.prog G [1,2,4] Q2 c26)]) 0 (zz (z6 Tryz.f26) 0) [1,2] (λk=>(1<=k/\k<=6)/\wW s (k - 1)=true) (λk=>6 - k) (λk=>[(3,.d (.int .i64 k))]) (λH _=>H)),(12,zT (α:=Nat) Tryz.prog G L0 0 (zz (z6 Tryz.f26) 1) [1,2,7,40,41] (λi=>i<=s.slots.length/\uX (s.slots.take i)=true) (λi=>s.slots.length - i) (λi=>[(42,.d (.int .i64 i))]) (λH i=>H.take 2++[.map (sJ (s.slots.take i))]))]) Tryz.func26 ⟨_,rfl⟩ (lE (yI mixed (λ_=>zm (yL (by kernel_rfl)))) zy) ?_;apply @z7 _ (∃(x0:Nat),dg x0 s/\((N5 0 0=N5 0 0/\N5 1 0=N5 1 0/\(1:Int)=(x0:Int)/\OG)/\de s/\((0:Int)=0/\OG)/\OG)/\∀(x:Nat),dg x s->(decide ((x:Int)<=5)=true->(Lz Tryz.prog G 56 [NY (dd s),.int .i64 (x:Int)] λ(av:AV)=>av=Ml 94 [] [Ma [.int .i64 (x:Int)],.iptr (dd s)])/\Nn Tryz.prog G 94 [NE 4,.iptr [.int .i64 (x:Int)],.iptr (dd s)] (vA s) λ(x_1:ON D) (H':ON Box)=>∃(l:ON D)(l_1:ON D)(l_2:ON D)(l_3:ON D)(l_4:ON D)(n:Int)(es:ON (D×D)),∃(pend:OK Np)(st:NQ),H'=qR l l_1 l_2 l_3 l_4 n es pend st/\st≠J3/\(pend=none/\ZG s x l l_1 l_2 l_3 l_4 n∨pend=some Lg/\[OH .i64 n]=ib s∨pend=some (Jk (aa c26))/\ZG s x l l_1 l_2 l_3 l_4 n))/\(decide ((x:Int)<=5)=false->∃(x0:Nat),X9 x0 s/\((N5 0 0=N5 0 0/\N5 1 0=N5 1 0/\L1 2=L1 2/\wR s=wR s/\nX s=nX s/\(0:Int)=(x0:Int)/\OG)/\de s/\((0:Int)=0/\OG)/\[]=lc x0 s/\OG)/\∀(x:Nat),X9 x s->(decide ((x:Int)<nX s)=true->((0:Int)<=(x:Int)/\(wR s)[N1 (x:Int)]? = some (zk [NC,NP .i64,NP .i64] (wR s) (N1 (x:Int))))/\(LV (lc x s) λ(kv:D×D)=>ZF s x kv&&L2 Jy (NV kv))=true/\OB Tryz.prog G 58 [OH .i64 (NO (Nz (z1 (wR s) (N1 (x:Int)) (0+1)) default)),.int .i64 6] λ(rs:ON D)=>∃(b:Bool),oh rs b/\OB Tryz.prog G 58 [OH .i64 (NO (Nz (z1 (wR s) (N1 (x:Int)) (0+1+1)) default)),.int .i64 11] λ(rs:ON D)=>∃(b_1:Bool),oh rs b_1/\(ZE x s b b_1=true->db s)/\(ZE x s b b_1=false->(LV (lc x s) λ(kv:D×D)=>ZF s x kv)=true/\∃(y:Nat),X9 y s/\OJ (Ni s) - y<OJ (Ni s) - x/\(N5 0 0=N5 0 0/\N5 1 0=N5 1 0/\L1 2=L1 2/\wR s=wR s/\nX s=nX s/\UJ x y)/\de s/\((0:Int)=0/\OG)/\updD (lc x s) (Xz s x) (OD true)=lc y s/\OG))/\(decide ((x:Int)<nX s)=false->(ZD s=true->db s)/\(ZD s=false->Nn Tryz.prog G 64 [OF (.sl (ic s)),.clo 59 [] [N5 3 0]] [h94Kq2 s,h94Kq1,.map (lc x s),.cells 3 [.d (.int .i64 (nX s))]] λ(rs:ON D) (H':ON Box)=>∃(b:Bool),oh rs b/\∃(l:ON D)(l_1:ON D)(l_2:ON D)(l_3:ON D)(l_4: ON D)(n:Int)(es:ON (D×D)),∃(n_1:Int),ZC H' l l_1 l_2 l_3 l_4 n es n_1/\Nn Tryz.prog G 65 [OF (.sl l_2),.clo 61 [] [N5 3 0]] (UI l l_1 l_2 l_3 l_4 n es n_1) λ(rs:ON D) (H':ON Box)=>ZC H' l l_1 l_2 l_3 l_4 n es n_1/\∃(b_1:Bool),oh rs b_1/\OB Tryz.prog G 66 [OE l_3,.fn 62] λ(rs:ON D)=>∃(b_2:Bool),oh rs b_2/\Nn Tryz.prog G 67 [OF (.sl l_4),.clo 63 [] [N5 4 0,.ptr 5 0]] (UH l l_1 l_2 l_3 l_4 n es n_1 s) λ(rs:ON D) (H':ON Box)=>H'=UH l l_1 l_2 l_3 l_4 n es n_1 s/\∃(b_3:Bool),oh rs b_3/\((bif bif bif b then true else b_1 then true else b_2 then true else b_3)=true->db s)/\((bif bif bif b then true else b_1 then true else b_2 then true else b_3)=false->(ZB n_1 l_1 s l_4=true->[OH .i64 2]=ib s)/\(ZB n_1 l_1 s l_4=false->[OH .i64 0]=ib s))))))
 ·kernel_rfl
 delta dg de wR ic om ol dd vA h94Kq23 h94Kq2 h94Kq1 h94Kq22 h94Kq18 h94Kq17 h94Kq3 sY qR qS ke kf dk kb h94Kq12 dj h94Kq10 h94Kq20 h94Kq24 di h94Kq21 kc kY h94Kq4 ka h94Kq8 kZ ZG UJ ib X9 nX lc ZF Xz oh ZE db ZD ZC UI aq UH ZB;have b1:∀{k n:Int},(k==n)=true->k=n:=λh=>beq_iff_eq.1 h;have b2:∀{k n:Int},(k==n)=false->¬ k=n:=λh=>by rw[←Iu,beq_iff_eq]at h;exact h
 refine⟨1,⟨⟨by omega,by omega⟩,rfl⟩,by and_intros<;>first|rfl|trivial,λx hx=>⟨λhle=>?_,λhgt=>?_⟩⟩
 ·have hle:=M3 hle;refine⟨h56 _,(h94K x (by omega) (by omega)).mono ?_⟩;intro rs H' hh;obtain⟨k,rfl⟩:∃k,x=k+1:=⟨x - 1,by omega⟩;have ek:((k+1:Nat):Int)=(k:Int)+1:=by omega
  cases hb:zZ (zh s ((k+1:Nat):Int))with
  |true =>
   obtain rfl:=hh.1 hb;rw[ek]at hb;refine⟨_,_,_,_,_,_,_,_,_,rfl,by decide,.inl ⟨rfl,k+2,⟨⟨by omega,by omega⟩,iF hx.2 hb⟩,by omega,?_⟩⟩;have e1:Nl .i64 (((k+1:Nat):Int)+1)=((k+2:Nat):Int):=by rw[zu (by omega) (by omega)];omega
   and_intros<;>first|exact e1|rfl|trivial
  |false =>
   obtain⟨m,rfl⟩:=hh.2 hb;rw[ek]at hb;exact⟨_,_,_,_,_,_,_,_,_,rfl,by decide,.inr (.inl ⟨rfl,S2 (au hb (by omega))⟩)⟩
 ·have hgt:=of_decide_eq_false hgt;have h6:x=6:=by omega
  subst h6;have hN:wW s 5=true:=hx.2;have hsl:=hs.slots;refine⟨0,⟨by omega,rfl⟩,by and_intros<;>first|rfl|trivial,λx hx=>⟨λhlt=>?_,λhge=>?_⟩⟩
  ·simp only[Nv,NR]at hlt;obtain⟨z,hz,hm⟩:=zt (l:=s.slots) (x:=x) (by omega);have hsn:=aw hz hx.2;have ei (n:Int):NO (Nz (some (OH .i64 n)) default)=n:=rfl;rw[M1,pI hz,rS hz,rR hz,ei,ei];have hkey:NY [OH .i64 (NO (Nz (z1 (OM Nx s.slots) x (0+1)) default)),OH .i64 (NO (Nz (z1 (OM Nx s.slots) x (0+1+1)) default))]=NY [.int .i64 z.day,.int .i64 z.hour]:=by rw[rS hz,rR hz];rfl
   have hall:=UK z.day z.hour (s.slots.take x);have hlk:Kz (Nz (zX (sJ (s.slots.take x)) (NY [.int .i64 z.day,.int .i64 z.hour])) (.bool false))=((s.slots.take x).map vU).contains (z.day,z.hour):=by rw[fq];cases ((s.slots.take x).map vU).contains (z.day,z.hour)<;>rfl
   rw[←hkey]at hall;rw[←hkey]at hlk;refine⟨⟨by omega,mi hz⟩,hall,(RM _ 6).use ⟨_,rfl,(RM _ 11).use ⟨_,rfl,λh=>?_,λh=>?_⟩⟩⟩
   ·have h':(bif bif Kz (Nz (zX (sJ (s.slots.take x)) (NY [OH .i64 (NO (Nz (z1 (OM Nx s.slots) x (0+1)) default)),OH .i64 (NO (Nz (z1 (OM Nx s.slots) x (0+1+1)) default))])) (.bool false))then true else !(decide (0<=z.day)&&decide (z.day<=6))then true else !(decide (0<=z.hour)&&decide (z.hour<=11)))=true:=h;rw[hlk]at h';refine S2 (Wp ?_);cases hU:uX s.slots with
    |false=>rfl
    |true =>
     exfalso;have h3:=ZH (x:=x+1) hU;rw[hsn]at h3;unfold me at h3;cases hc:((s.slots.take x).map vU).contains (z.day,z.hour)<;>rw[hc]at h3 h'<;>simp at h3 h'
     omega
   ·have h':(bif bif Kz (Nz (zX (sJ (s.slots.take x)) (NY [OH .i64 (NO (Nz (z1 (OM Nx s.slots) x (0+1)) default)),OH .i64 (NO (Nz (z1 (OM Nx s.slots) x (0+1+1)) default))])) (.bool false))then true else !(decide (0<=z.day)&&decide (z.day<=6))then true else !(decide (0<=z.hour)&&decide (z.hour<=11)))=false:=h;rw[hlk]at h';have hc:((s.slots.take x).map vU).contains (z.day,z.hour)=false:=by
     cases hc:((s.slots.take x).map vU).contains (z.day,z.hour)with
     |false=>rfl
     |true=>rw[hc]at h';cases h'
    rw[hc]at h';have hok:me z=true:=by unfold me;simp at h' ⊢;omega
    have hall2:((sJ (s.slots.take x)).all λkv=>sameKind (NY [OH .i64 (NO (Nz (z1 (OM Nx s.slots) x (0+1)) default)),OH .i64 (NO (Nz (z1 (OM Nx s.slots) x (0+1+1)) default))]) kv.1)=true:=by rw[ND]at hall ⊢;intro kv hkv;have:=hall kv hkv;rw[NK]at this;exact this.1
    refine⟨hall2,x+1,⟨by omega,by rw[hsn,hok,hc];rfl⟩,by omega,?_⟩;have e1:Nl .i64 ((x:Int)+1)=((x+1:Nat):Int):=by rw[zu (by omega) (by omega)];rfl
    have e2:=ay z.day z.hour (s.slots.take x) hc z rfl;rw[←hkey,←yp hz]at e2;and_intros<;>first|exact e1|exact e2|rfl|trivial
  ·simp only[Nv,M2]at hge;have hx2:=hx.2;rw[MY (by omega)]at hx2;refine⟨λh=>?_,λh=>?_⟩
   ·refine S2 (Wo ?_);rw[Nv,Nv]at h;cases hA:((s.slots.length:Int)==0)<;>rw[hA]at h
    ·exact .inr (b1 h)
    ·exact .inl (b1 hA)
   ·rw[Nv,Nv]at h ⊢;have hne:0<s.slots.length/\0<s.rooms.length:=by
     cases hA:((s.slots.length:Int)==0)<;>rw[hA]at h
     ·have h3:=b2 hA;have h4:((s.rooms.length:Int)==0)=false:=h;have h5:=b2 h4;omega
     ·cases h
    have hrl:=hs.rooms;have hpl:=hs.people;have hgl:=hs.groups;have hll:=hs.lessons;refine(PK s 0 _ s.slots.length s.rooms (by omega) (λz hz=>by have:=hs.shut z hz;omega)).mono ?_;rintro rs H' ⟨rfl,rfl⟩;refine⟨_,rfl,_,_,_,_,_,_,_,_,rfl,(PJ s 0 _ s.slots.length s.people (by omega) (λz hz=>by have:=hs.away z hz;omega)).mono ?_⟩;rintro rs H' ⟨rfl,rfl⟩;refine⟨rfl,_,rfl,(PI s.groups (by omega)).use ⟨_,rfl,?_⟩⟩;rw[Nv,Nv];refine(PH s 0 _ s.slots.length s.people.length s.groups.length s.lessons (by omega) (λz hz=>by have:=hs.who z hz;have:=hs.grs z hz;omega)).mono ?_;rintro rs H' ⟨rfl,rfl⟩;have hmay:ny s=(!(((s.rooms.any λz=>!wX s.slots.length z)||(s.people.any λz=>!yY z.away s.slots.length))||(s.groups.any λz=>!xG z)||(s.lessons.any λz=>!xw s.people.length s.groups.length z))):=by
     have e1:ep s.slots=true:=by
      rw[ie,hx2];have:s.slots≠[]:=λe=>by rw[e]at hne;simp at hne
      simp[this]
     have e2:s.rooms.isEmpty=false:=by
      have:s.rooms≠[]:=λe=>by rw[e]at hne;simp at hne
      simp[this]
     unfold ny;rw[hN,e1,e2,nY,nY,nY,nY];simp
    refine⟨rfl,_,rfl,λh=>S2 ?_,λh=>?_⟩
    ·rw[hmay];simp only[yi]at h;rw[h];rfl
    ·have hm:ny s=true:=by rw[hmay];simp only[yi]at h;rw[h];rfl
     refine⟨λh=>?_,λh=>?_⟩
     ·simp only[yi,Nv,L4,NR]at h;unfold xg;rw[N2 (by rw[hm];decide),Nf (by omega)]
     ·simp only[yi,Nv,LA,M2]at h;unfold xg;rw[N2 (by rw[hm];decide),N2 (by omega)]
end
def GA (M:Mk) (m:Int):Nat->OK (ON D)
 |4=>some [.int .i64 m]
 |g=>GG M g
theorem fp (M:Mk) (m:Int):∀g cs,GG M g=some cs->GA M m g=some cs:=by
 intro g cs h;unfold GA;split
 ·simp[GG]at h
 ·exact h
theorem iE (M:Mk) (m:Int):∃m',GA M m 4=some [.int .i64 m']:=⟨m,rfl⟩
def Wc (s:Sc):ON Box:=[.cells 28 (pc s)]
section
variable {G:Nat->OK (ON D)}
theorem Qw (n m:Int):OB Tryz.prog G 131 [.int .i64 n,.int .i64 m] (· = [.bool (decide (0<=n)&&decide (n<m))]):=by
 refine zn Tryz.func131 ⟨_,rfl⟩ ?_;apply @z7 _ ([OD (bif decide (0<=n)then decide (n<m)else false)]=[OD (decide (0<=n)&&decide (n<m))])
 ·kernel_rfl
 simp only[zM]
def wo (a:Sc):ON Box:=[Ns 28 [.d (.sl (OM Nx (Ni a))),.d (.sl (OM N6 (Nh a))),.d (.sl (OM N9 (Nd a))),.d (.sl (OM Ny (Nb a))),.d (.sl (OM N8 (Nj a)))]]
theorem PG (s:Sc) (z:Pl):Nn Tryz.prog G 130 [.d z.d,.ptr 0 0] (Wc s) (λrs H'=>rs=[.bool (!xF s z)]/\H'=Wc s):=by
 unfold Nr;refine zF Tryz.func130 rfl ⟨_,_,rfl,rfl⟩ ?_;apply @z7 _ (OB Tryz.prog G 131 [OH .i64 (Pl.slot z),.int .i64 (↑(OJ (OM Nx (Ni s))):Int)] λ(rs:ON D)=>∃(b:Bool),rs=[OD b]/\OB Tryz.prog G 131 [OH .i64 (Pl.room z),.int .i64 (↑(OJ (OM N6 (Nh s))):Int)] λ(rs:ON D)=>∃(b_1:Bool),rs=[OD b_1]/\[OD (bif !b then true else !b_1)]=[OD !xF s z]/\wo s=wo s)
 ·kernel_rfl
 delta wo;rw[Nv,Nv];refine(Qw z.slot s.slots.length).use ⟨_,rfl,(Qw z.room s.rooms.length).use ⟨_,rfl,?_,rfl⟩⟩;unfold xF;simp only[yi,Gj,Cf]
def qQ (a:Nat) (b:ON Pl) (c:Sc):Prop:=a<=OJ b/\yu (λ(z:Pl)=>!xF c z) (Lx a b) a=yu (λ(z:Pl)=>!xF c z) b 0
def qP (a:ON Pl) (b:Nat):D:=zk [NP .i64,NP .i64] (OM Nr a) (N1 (b:Int))
def sX (a:ON D) (b:ON D) (c:ON D) (d:ON D) (e:ON D):ON Box:=[Ns 28 [.d (.sl a),.d (.sl b),.d (.sl c),.d (.sl d),.d (.sl e)]]
theorem Qv (s:Sc) (l:ON Pl) (hl:l.length<4611686018427387904):Nn Tryz.prog G 167 [.d (.sl (l.map Nr)),.clo 130 [] [.ptr 0 0]] (Wc s) (λrs H'=>rs=[.int .i64 (yu (λz=>!xF s z) l 0)]/\H'=Wc s):=by
 refine zg (LL [(2,zT (α:=Nat) Tryz.prog G L0 1 (zz (z6 Tryz.f167) 0) [0,1,7] (λi=>i<=l.length/\yu (λz=>!xF s z) (l.drop i) i=yu (λz=>!xF s z) l 0) (λi=>l.length - i) (λi=>[(8,.d (.int .i64 i))]) (λH _=>H))]) Tryz.func167 rfl ⟨_,_,rfl,rfl⟩ (zm zy) ?_;apply @z7 _ (∃(x0:Nat),qQ x0 l s/\((OM Nr l=OM Nr l/\Ml 130 [] [N5 0 0]=Ml 130 [] [N5 0 0]/\(↑(OJ (OM Nr l)):Int)=(↑(OJ (OM Nr l)):Int)/\(0:Int)=(x0:Int)/\OG)/\(OM Nx (Ni s)=OM Nx (Ni s)/\OM N6 (Nh s)=OM N6 (Nh s)/\OM N9 (Nd s)=OM N9 (Nd s)/\OM Ny (Nb s)=OM Ny (Nb s)/\OM N8 (Nj s)=OM N8 (Nj s)/\OG)/\OG)/\∀(x:Nat),qQ x l s->(decide ((x:Int)<(↑(OJ (OM Nr l)):Int))=true->((0:Int)<=(x:Int)/\(OM Nr l)[N1 (x:Int)]? = some (qP l x))/\Nn Tryz.prog G 130 [OF (qP l x),.ptr 0 0] (wo s) λ(rs:ON D) (H':ON Box)=>∃(b:Bool),rs=[OD b]/\∃(l_1: ON D)(l_2:ON D)(l_3:ON D)(l_4:ON D)(l_5:ON D),H'=sX l_1 l_2 l_3 l_4 l_5/\(b=true->[OH .i64 (x:Int)]=[OH .i64 (yu (λ(z:Pl)=>!xF s z) l 0)]/\sX l_1 l_2 l_3 l_4 l_5=wo s)/\(b=false->∃(y:Nat),qQ y l s/\OJ l - y<OJ l - x/\(OM Nr l=OM Nr l/\Ml 130 [] [N5 0 0]=Ml 130 [] [N5 0 0]/\(↑(OJ (OM Nr l)):Int)=(↑(OJ (OM Nr l)):Int)/\Nl .i64 ((x:Int)+1)=(y:Int)/\OG)/\(l_1=OM Nx (Ni s)/\l_2=OM N6 (Nh s)/\l_3=OM N9 (Nd s)/\l_4=OM Ny (Nb s)/\l_5=OM N8 (Nj s)/\OG)/\OG))/\(decide ((x:Int)<(↑(OJ (OM Nr l)):Int))=false->[OH .i64 (-1)]=[OH .i64 (yu (λ(z:Pl) =>!xF s z) l 0)]/\wo s=wo s))
 ·kernel_rfl
 delta qQ qP wo sX;refine⟨0,⟨L6 _,rfl⟩,by and_intros<;>first|rfl|trivial,λx hx=>⟨λhlt=>?_,λhge=>?_⟩⟩
 ·simp only[Nv,NR]at hlt;obtain⟨z,hz,hm⟩:=zt (l:=l) (x:=x) (by omega);have hx2:=hx.2;rw[yZ hz,yu]at hx2;rw[M1,pG hz];refine⟨⟨by omega,pF hz⟩,(PG s z).mono ?_⟩;rintro rs H' ⟨rfl,rfl⟩;have e1:Nl .i64 ((x:Int)+1)=((x+1:Nat):Int):=by rw[zu (by omega) (by omega)];rfl
  refine⟨_,rfl,_,_,_,_,_,rfl,λhb=>⟨?_,rfl⟩,λhb=>⟨x+1,⟨by omega,?_⟩,by omega,by and_intros<;>first|rfl|trivial|exact e1⟩⟩
  ·rw[Nf hb]at hx2;rw[hx2]
  ·rw[N2 (by rw[hb];decide)]at hx2;exact hx2
 ·simp only[Nv,M2]at hge;have hx2:=hx.2;rw[Ls (by omega),yu]at hx2;exact⟨by rw[hx2],rfl⟩
theorem Qu (s:Sc) (l:ON Pl) (hl:l.length<4611686018427387904):Nn Tryz.prog G 132 [.d (.sl (l.map Nr)),.clo 130 [] [.ptr 0 0]] (Wc s) (λrs H'=>rs=[.bool (l.any λz=>!xF s z)]/\H'=Wc s):=by
 refine zF Tryz.func132 rfl ⟨_,_,rfl,rfl⟩ ?_;apply @z7 _ (Nn Tryz.prog G 167 [OF (.sl (OM Nr l)),.clo 130 [] [N5 0 0]] (wo s) λ(rs:ON D) (H':ON Box)=>∃(n:Int),rs=[OH .i64 n]/\∃(l_1:ON D)(l_2:ON D)(l_3:ON D)(l_4:ON D)(l_5:ON D),H'=sX l_1 l_2 l_3 l_4 l_5/\[OD (decide (n>=0))]=[OD (Lv l λ(z:Pl)=>!xF s z)]/\sX l_1 l_2 l_3 l_4 l_5=wo s)
 ·kernel_rfl
 delta wo sX qQ qP;refine(Qv (G:=G) s l hl).mono ?_;rintro rs H' ⟨rfl,rfl⟩;refine⟨_,rfl,_,_,_,_,_,rfl,?_,rfl⟩;rw[uZ]
def Xy (a:Sc) (b:ON Pl):ON D:=[OH .i64 (ye a b)]
def UG (a:ON Pl) (b:Sc) (c:Bool):Bool:=bif (↑(OJ (OM Nr a)):Int) != (↑(OJ (OM N8 (Nj b))):Int)then true else c
theorem h83 (hG:∃m,G 4=some [.int .i64 m]) (s:Sc) (w:ON Pl) (hs:s.Fits) (hw:w.length<1099511627776):OB Tryz.prog G 83 [s.d,wh w] (· = [.int .i64 (ye s w)]):=by
 have h26:=h26 (G:=G) hG s hs;rw[zf,yq]at *;refine zn Tryz.func83 ⟨_,rfl⟩ ?_;apply @z7 _ (OB Tryz.prog G 26 [NY [.sl (OM Nx (Ni s)),.sl (OM N6 (Nh s)),.sl (OM N9 (Nd s)),.sl (OM Ny (Nb s)),.sl (OM N8 (Nj s))]] λ(rs:ON D)=>∃(n:Int),rs=[OH .i64 n]/\((n != 0)=true->[OH .i64 n]=Xy s w)/\((n != 0)=false->Nn Tryz.prog G 132 [OF (.sl (OM Nr w)),.clo 130 [] [N5 0 0]] (wo s) λ(rs:ON D) (H':ON Box)=>H'=wo s/\∃(b:Bool),rs=[OD b]/\(UG w s b=true->[OH .i64 40]=Xy s w)/\(UG w s b=false->[OH .i64 0]=Xy s w)))
 ·kernel_rfl
 delta Xy wo UG;refine h26.use ⟨_,rfl,λh=>?_,λh=>(Qu s w (by omega)).mono ?_⟩
 ·rw[ye,Nf (by simpa using h)]
 ·rintro rs H' ⟨rfl,rfl⟩;have h0:xg s=0:=by simpa using h
  rw[nY,Nv,Nv];refine⟨rfl,_,rfl,λh3=>?_,λh3=>?_⟩
  ·simp only[yi,L4,bne_iff_ne,Lc]at h3;rw[ye,N2 (by simp[h0]),Nf];rcases h3 with h3|h3
   ·left;omega
   ·right;exact h3
  ·simp only[yi,LA,bne_eq_false_iff_eq,Bool.not_eq_false']at h3;rw[ye,N2 (by simp[h0]),N2];rintro (h4|h4)
   ·omega
   ·rw[h3.2]at h4;cases h4
theorem h49 (hG:∃m,G 4=some [.int .i64 m]) (p:Pn) (w:ON Pl) (hp:p.Fits) (hw:w.length<1099511627776):OB Tryz.prog G 49 [p.d,wh w] (· = [.bool (ye p.sc w==0)]):=by
 have h83:=h83 (G:=G) hG p.sc w hp.sc hw;rw[zf]at *;rw[yc];rw[yq]at *;refine zn Tryz.func49 ⟨_,rfl⟩ ?_;apply @z7 _ (OB Tryz.prog G 83 [NY [.sl (OM Nx (Ni (NT p))),.sl (OM N6 (Nh (NT p))),.sl (OM N9 (Nd (NT p))),.sl (OM Ny (Nb (NT p))),.sl (OM N8 (Nj (NT p)))],.agg [.sl (OM Nr w)]] λ(rs:ON D)=>∃(n:Int),rs=[OH .i64 n]/\[OD (n==0)]=[OD (ye (NT p) w==0)])
 ·kernel_rfl
 exact h83.use ⟨_,rfl,rfl⟩
def qx (a:ON Pl):Int:=(↑(OJ (OM Nr a)):Int)
def UF (a:ON Pl) (b:ON Pl):ON D:=[OE (OM Ic (if OJ a=OJ b then diffL 0 a b else [])),.int .i64 (if OJ a=OJ b then 0 else 1)]
def pY (a:ON Pl) (b:ON Pl) (c:Nat):ON D:=OM Ic (vT a b c)
def fm (a:ON Pl) (b:ON Pl) (c:Nat):Nat:=OJ (vT a b c)
def nW (a:ON Pl):Prop:=OM Nr a=OM Nr a
def UE (a:Nat) (b:ON Pl):Prop:=(0:Int)<=(a:Int)/\(OM Nr b)[N1 (a:Int)]? = some (qP b a)
def UD (a:ON Pl) (b:Nat):ON D:=Mx [NY (Mx [(λ(x:Sh×Nat)=>match x with|(sh,j)=>MK sh (Nz (z1 (OM Nr a) (N1 (b:Int)) j) default)) (NP .i64,0+1),(λ(x:Sh×Nat)=>match x with|(sh,j)=>MK sh (Nz (z1 (OM Nr a) (N1 (b:Int)) j) default)) (NP .i64,0),.int .i64 (b:Int)])]
def UC (a:ON Pl) (b:Nat) (c:Nat):Prop:=(0:Int)=0/\nW a/\qx a=qx a/\Nl .i64 ((b:Int)+1)=(c:Int)/\OG
theorem h51 (a b:ON Pl) (hb:b.length<1099511627776):OB Tryz.prog G 51 [wh a,wh b] (· = [.sl ((if a.length=b.length then diffL 0 a b else []).map Ic),.int .i64 (if a.length=b.length then 0 else 1)]):=by
 rw[yq,yq];refine zr (LL [(4,zT (α:=Nat) Tryz.prog G L0 0 (zz (z6 Tryz.f51) 0) [2,3,5,16,17] (λx=>x<=b.length) (λx=>b.length - x) (λx=>[(4,.vec 2 ((vT a b x).map Ic)),(18,.d (.int .i64 x))]) (λH x=>[H.getD 0 .dead,H.getD 1 .dead,.vec (vT a b x).length 3]))]) Tryz.func51 ⟨_,rfl⟩ (zm zy) ?_;apply @z7 _ (((qx a != qx b)=true->[OE [],.int .i64 1]=UF a b)/\((qx a != qx b)=false->∃(x0:Nat),x0<=OJ b/\((N5 0 0=N5 0 0/\N5 1 0=N5 1 0/\([]=pY a b x0/\OJ ([]:ON D)<=fm a b x0)/\(0:Int)=0/\nW b/\qx b=qx b/\(0:Int)=(x0:Int)/\OG)/\(nW a/\OG)/\(nW b/\OG)/\OG)/\∀(x:Nat),x<=OJ b->(decide ((x:Int)<qx b)=true->UE x b/\UE x a/\((!(λ(r:Bool)=>NO (Nz (z1 (OM Nr b) (N1 (x:Int)) 0) default)==NO (Nz (z1 (OM Nr a) (N1 (x:Int)) 0) default)&&r) ((λ(r:Bool)=>NO (Nz (z1 (OM Nr b) (N1 (x:Int)) (0+1)) default)==NO (Nz (z1 (OM Nr a) (N1 (x:Int)) (0+1)) default)&&r) true))=true->(fm a b x=OJ (pY a b x)/\3=3/\FA (pY a b x) [NY [.int .i64 (x:Int),.int .i64 (NO (Nz (z1 (OM Nr b) (N1 (x:Int)) 0) default)),.int .i64 (NO (Nz (z1 (OM Nr b) (N1 (x:Int)) (0+1)) default))]] (nat_lit 3) (nat_lit 24))/\∃(y:Nat),y<=OJ b/\OJ b - y<OJ b - x/\(N5 0 0=N5 0 0/\N5 1 0=N5 1 0/\pY a b x++UD b x=pY a b y/\UC b x y)/\(nW a/\OG)/\(nW b/\OG)/\OJ (pY a b x)+OJ (UD b x)=fm a b y/\OG)/\((!(λ(r:Bool)=>NO (Nz (z1 (OM Nr b) (N1 (x:Int)) 0) default)==NO (Nz (z1 (OM Nr a) (N1 (x:Int)) 0) default)&&r) ((λ(r:Bool)=>NO (Nz (z1 (OM Nr b) (N1 (↑x: Int)) (0+1)) default)==NO (Nz (z1 (OM Nr a) (N1 (x:Int)) (0+1)) default)&&r) true))=false->∃(y:Nat),y<=OJ b/\OJ b - y<OJ b - x/\(N5 0 0=N5 0 0/\N5 1 0=N5 1 0/\pY a b x=pY a b y/\UC b x y)/\(nW a/\OG)/\(nW b/\OG)/\fm a b x=fm a b y/\OG))/\(decide ((x:Int)<qx b)=false->[OE (pY a b x),.int .i64 0]=UF a b)))
 ·kernel_rfl
 delta qx UF pY fm nW UE qP qQ wo sX UD UC;refine⟨λh=>?_,λh=>?_⟩
 ·rw[Nv,Nv]at h;have hne:a.length≠b.length:=λe=>by rw[e]at h;simp at h
  rw[N2 hne,N2 hne];rfl
 ·rw[Nv,Nv]at h;have he:a.length=b.length:=by
   have:(a.length:Int)=b.length:=by simpa using h
   omega
  refine⟨0,by omega,by and_intros<;>first|rfl|trivial|simp,λx hx=>⟨λhlt=>?_,λhge=>?_⟩⟩
  ·simp only[Nv,NR]at hlt;obtain⟨y,hy,hym⟩:=zt (l:=a) (x:=x) (by omega);obtain⟨z,hz,hzm⟩:=zt (l:=b) (x:=x) (by omega);have ei (n:Int):NO (Nz (some (OH .i64 n)) default)=n:=rfl;have hlen:=XB a b x;simp only[M1,pG hy,pG hz,vW hy,vV hy,vW hz,vV hz,ei];have hc:(!(z.slot==y.slot&&(z.room==y.room&&true)))=decide (y≠z):=by rw[MG];cases y;cases z;simp;omega
   rw[hc];have hg1:0<=(x:Int)/\(OM Nr a)[x]? = some y.d:=⟨by omega,pF hy⟩;have hg2:0<=(x:Int)/\(OM Nr b)[x]? = some z.d:=⟨by omega,pF hz⟩;have e1:Nl .i64 ((x:Int)+1)=((x+1:Nat):Int):=by rw[zu (by omega) (by omega)];rfl
   have hcm:=U5 (vT a b x);unfold xW at hcm;refine⟨hg2,hg1,λh3=>⟨⟨by simp,by trivial,by rw[J2,hcm];rfl,by simp;omega⟩,x+1,by omega,by omega,?_⟩,λh3=>⟨x+1,by omega,by omega,?_⟩⟩
   ·have e2:(vT a b x).map Ic++[NY [.int .i64 (x:Int),.int .i64 z.slot,.int .i64 z.room]]=(vT a b (x+1)).map Ic:=by rw[pC hy hz,Nf (M3 h3),Lq];rfl
    have e3:(vT a b (x+1)).length=(vT a b x).length+1:=by rw[pC hy hz,Nf (M3 h3)];simp
    and_intros<;>first|rfl|trivial|exact e1|exact e2|exact e3.symm|(simp;omega)
   ·have e2:(vT a b (x+1))=vT a b x:=by rw[pC hy hz,N2 (of_decide_eq_false h3),ON.append_nil]
    rw[e2];and_intros<;>first|rfl|trivial|exact e1
  ·simp only[Nv,M2]at hge;rw[Nf he,Nf he];unfold vT;rw[MY (by omega),MY (by omega)]
theorem h21 (hG:∃m,G 4=some [.int .i64 m]) (p:Pn) (old w:ON Pl) (hp:p.Fits) (ho:old.length<1099511627776) (hw:w.length<1099511627776):OB Tryz.prog G 21 [p.d,wh old,wh w] (· = [.int .i64 (xX p old w)]):=by
 have h49:=h49 (G:=G) hG p old hp ho;have h51:=h51 (G:=G) old w hw;rw[yc]at *;rw[yq,yq]at *;refine zn Tryz.func21 ⟨_,rfl⟩ ?_;apply @z7 _ (OB Tryz.prog G 49 [NY [.sl (OM Nx (Ni (NT p))),.sl (OM N6 (Nh (NT p))),.sl (OM N9 (Nd (NT p))),.sl (OM Ny (Nb (NT p))),.sl (OM N8 (Nj (NT p))),.sl (OM Na (Lu p)),.sl (OM intD (ML p))],.agg [.sl (OM Nr old)]] λ(rs:ON D)=>∃(b:Bool),rs=[OD b]/\((!b)=true->[OH .i64 0]=[OH .i64 (xX p old w)])/\((!b)=false->OB Tryz.prog G 51 [NY [.sl (OM Nr old)],.agg [.sl (OM Nr w)]] λ(rs:ON D)=>∃(l:ON D)(n:Int),rs=[OE l,.int .i64 n]/\[OH .i64 (↑(OJ l):Int)]=[OH .i64 (xX p old w)]))
 ·kernel_rfl
 refine h49.use ⟨_,rfl,λh=>?_,λh=>h51.use ⟨_,_,rfl,?_⟩⟩
 ·have h0:ye p.sc old≠0:=by simpa using h
  unfold xX;rw[Nf h0]
 ·have h0:ye p.sc old=0:=by simpa using h
  have hm:xX p old w=if old.length=w.length then((diffL 0 old w).length:Int)else 0:=by unfold xX;rw[N2 (by rw[h0];decide)]
  rw[hm];by_cases e:old.length=w.length
  ·rw[Nf e,Nf e,Nv]
  ·rw[N2 e,N2 e];rfl
end
def c47:Np:=unScope (zz (zz (z6 Tryz.f47) 0) 0)
def tm47:ON AV:=[.any,.any,.any,.ptr 0 0,.ptr 1 0,.any,.any,.any,.any,.any,.any,.ptr 2 0,.ptr 4 0,.ptr 5 0,.any,.any,.any,.any,.any,.any,.any,.any,.any,.any,.any,.any,.any,.any,.any,.any,.any,.any,.any,.any,.any,.any,.any,.any,.any,.any,.any,.any,.any,.any,.any,.any,.any,.any,.any,.any,.any,.any,.any,.any,.any,.any,.any,.any,.any,.any,.any,.any,.any]
def Qt (r:Ru):ON AV:=[.d (.str r.name),.d (.bool r.hard),.d (.int .i64 r.weight),.d (.sl (r.each.map N3)),.d (.int .i64 r.body.kind),.d (.str r.body.name),.d (.int .i64 r.body.n),.d (.sl (r.body.ts.map Nc)),.d (.sl (r.body.bs.map N3)),.d (.sl (r.body.l.map NX))]
def hBr (s:Sc) (w:ON Pl) (out:ON In) (i:Int) (r:Ru):ON Box:=[.cells 28 (pc s),.cells 35 [.d (.sl (w.map Nr))],.cells 109 [.vec 3 (out.map MZ)],.vec out.length 6,.cells 3 [.d (.int .i64 i)],.cells 89 (Qt r),.loop tm47 (ze c47) (zo c47) (zc c47) none .ready]
section
variable {G:Nat->OK (ON D)}{M:Mk}
def mS (a:Sc):Box:=Ns 28 [.d (.sl (OM Nx (Ni a))),.d (.sl (OM N6 (Nh a))),.d (.sl (OM N9 (Nd a))),.d (.sl (OM Ny (Nb a))),.d (.sl (OM N8 (Nj a)))]
def mR (a:ON Pl):Box:=Ns 35 [.d (.sl (OM Nr a))]
def Wn (a:ON Int) (b:Int):ON D:=Mx [NY (Mx [OE [],.int .i64 0,.int .i64 0,.int .i64 0,.sl (OM intD a),.int .i64 b])]
def iD (a:Int) (b:Ru):ON Box:=[Ns 3 [.d (.int .i64 a)],.cells 89 [.d (.str (Kx b)),.d (.bool (LM b)),.d (.int .i64 (LD b)),.d (.sl (OM N3 (MF b))),.d (.int .i64 (NU (M9 b))),.d (.str (NG (M9 b))),.d (.int .i64 (NA (M9 b))),.d (.sl (OM Nc (NH (M9 b)))),.d (.sl (OM N3 (NJ (M9 b)))),.d (.sl (OM NX (Nt (M9 b))))],.loop [OI,.any,.any,.ptr 0 0,.ptr 1 0,.any,.any,.any,.any,.any,.any,.ptr 2 0,.ptr 4 0,.ptr 5 0,.any,.any,.any,.any,.any,.any,.any,.any,.any,.any,.any,.any,.any,.any,.any,.any,.any,.any,.any,.any,.any,.any,.any,.any,.any,.any,.any,.any,.any,.any,.any,.any,.any,.any,.any,.any,.any,.any,.any,.any,.any,.any,.any,.any,.any,.any,.any,.any,.any] (ze c47) (zo c47) (zc c47) none Mg]
def Wm (a:Bool) (b:ON In) (c:Int) (d:ON Int):ON In:=if a=true then b else b++[In.mk c d]
def Wl (a:Sc) (b:ON Pl) (c:Bool) (d:ON In) (e:Int) (f:ON Int) (g:Ru):ON Box:=mS a::mR b::Ns 109 [.vec 3 (OM MZ (Wm c d e f))]::Lo (OJ (Wm c d e f)) 6::iD e g
theorem PF (s:Sc) (w:ON Pl) (out:ON In) (i:Int) (r:Ru) (t:ON Int) (b:Bool) (ho:out.length<1099511627776) (hb:r.each.length<1099511627776) (ht:r.each.length<=t.length) (hrec:OB Tryz.prog G 87 [lC s w,.sl ((yR r.each t).map NM),r.body.d] (· = [.bool b])):Mo Tryz.prog G 6 [.d (vl t)] (hBr s w out i r) (λrs H'=>rs=[.bool true]/\H'=hBr s w (if b then out else out++[⟨i,t⟩]) i r):=by
 have h88:=h88 (G:=G) [] r.each t (by decide) hb ht;rw[yK]at hrec;unfold lC at hrec;unfold vl at *;refine Jl (tm:=tm47) (ps:=ze c47) (asn:=zo c47) (bd:=zc c47) mixed L0 rfl (by kernel_rfl) rfl rfl ⟨_,_,rfl,rfl⟩ (λ_=>nC (by kernel_rfl)) (λ_=>nC (by kernel_rfl)) ?_;apply @z7 _ (OB Tryz.prog G 88 [OE [],.sl (OM N3 (MF r)),.sl (OM intD t)] λ(rs:ON D)=>∃(l:ON D),rs=[OE l]/\OB Tryz.prog G 87 [NY [.sl (OM Nx (Ni s)),.sl (OM N6 (Nh s)),.sl (OM N9 (Nd s)),.sl (OM Ny (Nb s)),.sl (OM N8 (Nj s)),.sl (OM Nr w)],.sl l,.agg [.int .i64 (NU (M9 r)),.str (NG (M9 r)),.int .i64 (NA (M9 r)),.sl (OM Nc (NH (M9 r))),.sl (OM N3 (NJ (M9 r))),.sl (OM NX (Nt (M9 r)))]] λ(rs:ON D)=>∃(b_1:Bool),rs=[OD b_1]/\((!b_1)=true->(OJ out=OJ (OM MZ out)/\6=6/\FA (OM MZ out) [NY [.int .i64 i,.sl (OM intD t),.int .i64 0,.int .i64 0,.int .i64 0,.sl []]] (nat_lit 6) (nat_lit 80))/\[OD true]=[OD true]/\mS s::mR w::Ns 109 [.vec 3 (OM MZ out++Wn t i)]::Lo (OJ (OM MZ out)+OJ (Wn t i)) 6::iD i r=Wl s w b out i t r)/\((!b_1)=false->[OD true]=[OD true]/\mS s::mR w::Ns 109 [.vec 3 (OM MZ out)]::Lo (OJ out) 6::iD i r=Wl s w b out i t r))
 ·kernel_rfl
 delta mS mR Wn iD Wl Wm;refine h88.use ⟨_,rfl,hrec.use ⟨_,rfl,λh=>?_,λh=>?_⟩⟩
 ·have hb0:b=false:=by simpa using h
  subst hb0;have hc:=Um out;unfold xW at hc;refine⟨⟨by simp,rfl,⟨by rw[J2,hc];rfl,by simp;omega⟩⟩,rfl,?_⟩
  ·have e1:OM MZ out++[NY [.int .i64 i,.sl (t.map intD),.int .i64 0,.int .i64 0,.int .i64 0,.sl []]]=OM MZ (if false=true then out else out++[⟨i,t⟩]):=by simp[MZ]
   have e2:(OM MZ out).length+1=(if false=true then out else out++[⟨i,t⟩]:ON In).length:=by simp
   rw[←e1,←e2];rfl
 ·have hb0:b=true:=by simpa using h
  subst hb0;exact⟨rfl,rfl⟩
def ZA (a:Sc) (b:ON Pl) (c:Nat->ON In) (d:Nat) (e:Int) (f:Ru) (g:ON Int):ON Box:=[mS a,mR b,.cells 109 [.vec 3 (OM MZ (c d))],.vec (OJ (c d)) 6,.cells 3 [.d (.int .i64 e)],.cells 89 [.d (.str (Kx f)),.d (.bool (LM f)),.d (.int .i64 (LD f)),.d (.sl (OM N3 (MF f))),.d (.int .i64 (NU (M9 f))),.d (.str (NG (M9 f))),.d (.int .i64 (NA (M9 f))),.d (.sl (OM Nc (NH (M9 f)))),.d (.sl (OM N3 (NJ (M9 f)))),.d (.sl (OM NX (Nt (M9 f))))],.loop [OI,.any,.any,.ptr 0 0,.ptr 1 0,.any,.any,.any,.any,.any,.any,.ptr 2 0,.ptr 4 0,.ptr 5 0,.any,.any,.any,.any,.any,.any,.any,.any,.any,.any,.any,.any,.any,.any,.any,.any,.any,.any,.any,.any,.any,.any,.any,.any,.any,.any,.any,.any,.any, .any,.any,.any,.any,.any,.any,.any,.any,.any,.any,.any,.any,.any,.any,.any,.any,.any,.any,.any,.any] (ze c47) (zo c47) (zc c47) none Mg,.arr 1 (OM intD g)]
def Y0 (a:Sc) (b:ON Pl) (c:Nat->ON In) (d:Nat) (e:Int) (f:Ru) (g:ON Int):Prop:=ZA a b c d e f g=ZA a b c d e f g
theorem PE (s:Sc) (w:ON Pl) (O:Nat->ON In) (i:Int) (r:Ru) (k:Nat) (t:ON Int) (ht:t.length<1099511627776):Nn Tryz.prog G 35 [.msl 7] (hBr s w (O k) i r++[.arr 1 (t.map intD)]) (λrs H'=>rs=[vl t]/\H'=hBr s w (O k) i r++[.arr 1 (t.map intD)]):=by
 refine zF Tryz.func35 rfl ⟨_,_,rfl,rfl⟩ ?_;apply @z7 _ ((false=true->[OE []]=[OE (OM intD t)]/\Y0 s w O k i r t)/\(false=false->FA [] (OM intD t) (nat_lit 1) (nat_lit 8)/\[OE (Mx ([]:ON D)++OM intD t)]=[OE (OM intD t)]/\Y0 s w O k i r t))
 ·kernel_rfl
 delta Y0 ZA mS mR Wn iD Wl Wm;refine⟨λh=>No h (by decide),λ_=>⟨⟨?_,by simp;omega⟩,rfl,rfl⟩⟩;simpa using su t
def qw (a:Sc) (b:ON Pl) (c:Nat->ON In) (d:ON Bd) (e:Int) (f:Ru):ON Box:=mS a::mR b::Ns 109 [.vec 3 (OM MZ (c (OJ (zb a d))))]::Lo (OJ (c (OJ (zb a d)))) 6::iD e f
def vQ (a:ON Bd):Int:=(↑(OJ (OM N3 a)):Int)
def qv (a:Sc) (b:ON Bd):Prop:=Ma [.sl (OM intD (zP a b))]=Ma [.sl (OM intD (zP a b))]
def nV (a:ON Bd):Prop:=Ma [.sl (OM N3 a)]=Ma [.sl (OM N3 a)]
def nU (a:Sc) (b:ON Bd):Prop:=NE 6=NE 6/\qv a b/\nV b/\MP 7=MP 7/\OG
def tO (a:Sc):Prop:=OM Nx (Ni a)=OM Nx (Ni a)/\OM N6 (Nh a)=OM N6 (Nh a)/\OM N9 (Nd a)=OM N9 (Nd a)/\OM Ny (Nb a)=OM Ny (Nb a)/\OM N8 (Nj a)=OM N8 (Nj a)/\OG
def tN (a:ON Pl):Prop:=OM Nr a=OM Nr a/\OG
def tM (a:Ru):ON D:=OM Nc (NH (M9 a))
def qO (a:Ru):ON D:=OM N3 (NJ (M9 a))
def qN (a:Ru):ON D:=OM NX (Nt (M9 a))
def qu (a:Ru):Prop:=Kx a=Kx a/\LM a=LM a/\LD a=LD a/\OM N3 (MF a)=OM N3 (MF a)/\NU (M9 a)=NU (M9 a)/\NG (M9 a)=NG (M9 a)/\NA (M9 a)=NA (M9 a)/\tM a=tM a/\qO a=qO a/\qN a=qN a/\OG
def h135Bq27:ON AV:=[OI,.any,.any,.ptr 0 0,.ptr 1 0,.any,.any,.any,.any,.any,.any,.ptr 2 0,.ptr 4 0,.ptr 5 0,.any,.any,.any,.any,.any,.any,.any,.any,.any,.any,.any,.any,.any,.any,.any,.any,.any,.any,.any,.any,.any,.any,.any,.any,.any,.any,.any,.any,.any,.any,.any,.any,.any,.any,.any,.any,.any,.any,.any,.any,.any,.any,.any,.any,.any,.any,.any,.any,.any]
def h135Bq19:Box:=M7 h135Bq27 (ze c47) (zo c47) (zc c47) none Mg
def h135Bq26:Prop:=h135Bq19=h135Bq19
def vP (a:Int):Box:=Ns 3 [.d (.int .i64 a)]
def wQ (a:ON D):ON AV:=[OF (.sl a)]
def nT (a:ON D) (b:ON D) (c:ON D):ON AV:=OF (.sl a)::OF (.sl b)::wQ c
def h135Bq11 (a:ON D) (b:ON D) (c:ON D) (d:ON D) (e:ON D):Box:=Ns 28 (OF (.sl a)::OF (.sl b)::nT c d e)
def sW (a:ON D):Box:=Ns 109 [.vec 3 a]
def kX (a:ON UInt8) (b:Bool) (c:Int) (d:ON D) (e:Int) (f:ON UInt8) (g:Int) (h:ON D) (i:ON D) (j:ON D):Box:=Ns 89 (OF (.str a)::OF (.bool b)::OF (.int .i64 c)::OF (.sl d)::OF (.int .i64 e)::OF (.str f)::OF (.int .i64 g)::nT h i j)
def qt (a:OK Np) (b:NQ):Box:=M7 h135Bq27 (ze c47) (zo c47) (zc c47) a b
def qM (a:ON UInt8) (b:Bool) (c:Int) (d:ON D) (e:Int) (f:ON UInt8) (g:Int) (h:ON D) (i:ON D) (j:ON D) (k:OK Np) (m:NQ):ON Box:=[kX a b c d e f g h i j,qt k m]
def ym (a:Nat×Nat):Int:=(↑(N7 a):Int) - 1
def sV (a:Nat->ON In) (b:Nat):ON D:=OM MZ (a (b+1))
def uW (a:Nat->ON In) (b:Nat):Nat:=OJ (a (b+1))
def xK (a:Sc) (b:ON Bd) (c:Nat×Nat):ON D:=OM intD (xT a b (N7 c) (NV c))
def qr (a:Nat×Nat):Prop:=decide (ym a>=0)=true
def nS (a:Nat×Nat) (b:Sc) (c:ON Bd):Prop:=N1 (ym a)<OJ (xK b c a)
def qL (a:Nat×Nat) (b:Sc) (c:ON Bd):Prop:=0<=ym a/\nS a b c
def nR (a:Sc) (b:ON Bd) (c:Nat×Nat):Prop:=z1 (xK a b c) (N1 (ym c)) 0=some (OH .i64 (NO (Nz (z1 (xK a b c) (N1 (ym c)) 0) default)))/\OG
def nQ (a:Sc) (b:ON Bd) (c:Nat×Nat):Int:=NO (Nz (z1 (OM intD (zP a b)) (N1 (ym c)) 0) default)
def nP (a:Nat×Nat) (b:Sc) (c:ON Bd):Bool:=bif decide (ym a>=0)then Nl .i64 (NO (Nz (z1 (xK b c a) (N1 (ym a)) 0) default)+1)==nQ b c a else false
theorem Qs (s:Sc) (w:ON Pl) (O:Nat->ON In) (i:Int) (r:Ru) (bs:ON Bd) (hb:bs.length<=1000000000) (hsz:∀b∈bs,cN s b<1099511627776) (hY:∀(k:Nat) (t:ON Int),(zb s bs)[k]? = some t->Mo Tryz.prog G 6 [.d (vl t)] (hBr s w (O k) i r) (λrs H'=>rs=[.bool true]/\H'=hBr s w (O (k+1)) i r)): Nn Tryz.prog G 135 [.yld 6,.iptr [vl (zP s bs)],.iptr [.sl (bs.map N3)]] (hBr s w (O 0) i r) (λ_ H'=>H'=hBr s w (O (zb s bs).length) i r):=by
 have hcl:=λk t h=>PE (G:=G) s w O i r k t h;unfold vl at *;refine zg (LL [(2,ui (α:=Nat) Tryz.prog G (λk=>LL [(4,zT (α:=Nat×Nat) Tryz.prog G L0 7 (zz (zz (z6 Tryz.f135) 0) 0) [0,1,2,4] (λx=>MH s bs k x.1 x.2) (λx=>x.1) (λx=>[(5,.d (.int .i64 ((x.1:Int) - 1)))]) (λ_ x=>hBr s w (O (k+1)) i r++[.arr 1 ((xT s bs x.1 x.2).map intD)]))]) 7 (zz (z6 Tryz.f135) 0) [0,1,2,4] (λk=>k<(zb s bs).length) (λk=>(zb s bs).length - k) (λ_=>[]) (λ_ k=>hBr s w (O k) i r++[.arr 1 ((yM s bs k).map intD)]))]) Tryz.func135 rfl ⟨[],_,rfl⟩ (zm (yI mixed (λ_=>zm zy))) ?_;apply @z7 _ (OB Tryz.prog G 76 [OE (OM intD (zP s bs)),.int .i64 0] λ(rs:ON D)=>∃(b:Bool),rs=[OD b]/\(b=true->mS s::mR w::Ns 109 [.vec 3 (OM MZ (O 0))]::Lo (OJ (O 0)) 6::iD i r=qw s w O bs i r)/\(b=false->(vQ bs=vQ bs/\0<=vQ bs/\vQ bs<=1000000000/\(↑8:Int)*vQ bs<=281474976710656)/\∃(x0:Nat),x0<OJ (zb s bs)/\(nU s bs/\tO s/\tN w/\(OM MZ (O 0)=OM MZ (O x0)/\OG)/\OJ (O 0)=OJ (O x0)/\(i=i/\OG)/\qu r/\h135Bq26/\M4 (N1 (vQ bs)) (OH .i64 0)=OM intD (yM s bs x0)/\OG)/\∀(x:Nat),x<OJ (zb s bs)->Nn Tryz.prog G 35 [MP 7] [mS s,mR w,.cells 109 [.vec 3 (OM MZ (O x))],.vec (OJ (O x)) 6,vP i,.cells 89 [.d (.str (Kx r)),.d (.bool (LM r)),.d (.int .i64 (LD r)),.d (.sl (OM N3 (MF r))),.d (.int .i64 (NU (M9 r))),.d (.str (NG (M9 r))),.d (.int .i64 (NA (M9 r))),.d (.sl (tM r)),.d (.sl (qO r)),.d (.sl (qN r))],h135Bq19,.arr 1 (OM intD (yM s bs x))] λ(rs:ON D) (H':ON Box)=>∃(l:ON D),rs=[OE l]/\∃(l_1:ON D)(l_2:ON D)(l_3:ON D)(l_4:ON D)(l_5:ON D)(l_6:ON D)(l_7:ON D)(n:Nat)(n_1:Int)(s_1:ON UInt8)(b:Bool)(n_2:Int)(l_8:ON D)(n_3:Int)(s_2:ON UInt8)(n_4:Int)(l_9:ON D)(l_10:ON D)(l_11:ON D)(pend:OK Np)(st:NQ)(ds:ON D),H'=[h135Bq11 l_1 l_2 l_3 l_4 l_5,.cells 35 (wQ l_6),sW l_7, .vec n 6,vP n_1,kX s_1 b n_2 l_8 n_3 s_2 n_4 l_9 l_10 l_11,qt pend st,.arr 1 ds]/\Mo Tryz.prog G 6 (wQ l) (h135Bq11 l_1 l_2 l_3 l_4 l_5::Ns 35 (wQ l_6)::sW l_7::Lo n 6::vP n_1::qM s_1 b n_2 l_8 n_3 s_2 n_4 l_9 l_10 l_11 pend st) λ(rs:ON D) (H':ON Box)=>∃(b:Bool),rs=[OD b]/\∃(l:ON D)(l_12:ON D)(l_13:ON D)(l_14:ON D)(l_15:ON D)(l_16:ON D)(l_17:ON D)(n:Nat)(n_5:Int)(s_3:ON UInt8)(b_1:Bool)(n_6:Int)(l_18:ON D)(n_7:Int)(s_4:ON UInt8)(n_8:Int)(l_19:ON D)(l_20:ON D)(l_21:ON D)(pend:OK Np)(st:NQ),H'=h135Bq11 l l_12 l_13 l_14 l_15::Ns 35 (wQ l_16)::sW l_17::Lo n 6::vP n_5::qM s_3 b_1 n_6 l_18 n_7 s_4 n_8 l_19 l_20 l_21 pend st/\((!b)=true->h135Bq11 l l_12 l_13 l_14 l_15::Ns 35 (wQ l_16)::sW l_17::Lo n 6::vP n_5::qM s_3 b_1 n_6 l_18 n_7 s_4 n_8 l_19 l_20 l_21 pend st=qw s w O bs i r)/\((!b)=false->∃(x0:Nat×Nat),MH s bs x (N7 x0) (NV x0)/\((NE 6=NE 6/\qv s bs/\nV bs/\MP 7=MP 7/\Nl .i64 ((↑(OJ ds):Int) - 1)=ym x0/\OG)/\(l=OM Nx (Ni s)/\l_12=OM N6 (Nh s)/\l_13=OM N9 (Nd s)/\l_14=OM Ny (Nb s)/\l_15=OM N8 (Nj s)/\OG)/\(l_16=OM Nr w/\OG)/\(l_17=sV O x/\OG)/\n=uW O x/\(n_5=i/\OG)/\(s_3=Kx r/\b_1=LM r/\n_6=LD r/\l_18=OM N3 (MF r)/\n_7=NU (M9 r)/\s_4=NG (M9 r)/\n_8=NA (M9 r)/\l_19=tM r/\l_20=qO r/\l_21=qN r/\OG)/\qt pend st=h135Bq19/\ds=xK s bs x0/\OG)/\∀(x_1:Nat×Nat),MH s bs x (N7 x_1) (NV x_1)->(qr x_1->qL x_1 s bs)/\(qr x_1->nR s bs x_1)/\(qr x_1->0<=ym x_1/\(OM intD (zP s bs))[N1 (ym x_1)]? = some (OH .i64 (nQ s bs x_1)))/\(nP x_1 s bs=true->qL x_1 s bs/\nS x_1 s bs/\∃(y:Nat×Nat),MH s bs x (N7 y) (NV y)/\N7 y<N7 x_1/\(NE 6=NE 6/\qv s bs/\nV bs/\MP 7=MP 7/\Nl .i64 (ym x_1 - 1)=ym y/\OG)/\tO s/\tN w/\(sV O x=sV O x/\OG)/\uW O x=uW O x/\(i=i/\OG)/\qu r/\h135Bq26/\w8 (xK s bs x_1) (N1 (ym x_1)) 0 (Mx [OH .i64 0])=xK s bs y/\OG)/\(nP x_1 s bs=false->(decide (ym x_1<0)=true->mS s::mR w::Ns 109 [.vec 3 (sV O x)]::Lo (uW O x) 6::iD i r=qw s w O bs i r)/\(decide (ym x_1<0)=false->qL x_1 s bs/\nR s bs x_1/\qL x_1 s bs/\nS x_1 s bs/\∃(y:Nat),y<OJ (zb s bs)/\OJ (zb s bs) - y<OJ (zb s bs) - x/\nU s bs/\tO s/\tN w/\(sV O x=OM MZ (O y)/\OG)/\uW O x=OJ (O y)/\(i=i/\OG)/\qu r/\h135Bq26/\w8 (xK s bs x_1) (N1 (ym x_1)) 0 (Mx [N7 (OH .i64 (Nl .i64 (NO (Nz (z1 (xK s bs x_1) (N1 (ym x_1)) 0) default)+1)),OG)])=OM intD (yM s bs y)/\OG)))))
 ·kernel_rfl
 delta mS mR Wn iD Wl Wm qw vQ nU qv nV tO tN qu tM qO qN h135Bq26 h135Bq19 h135Bq27 vP h135Bq11 nT wQ sW kX qt qM ym sV uW xK qr qL nS nR nQ nP;refine(Tj (G:=G) (zP s bs) 0 (by rw[uv];omega)).use ⟨_,rfl,λhb0=>?_,λhb0=>?_⟩
 ·obtain⟨b,hm,hc⟩:=uu.1 hb0;rw[ir hm hc];rfl
 have hpos:∀b∈bs,0<cN s b:=λb hm=>by
  rcases I8 (cN s b)with h|h
  ·rw[uu.2 ⟨b,hm,h⟩]at hb0;cases hb0
  ·exact h
 refine⟨⟨rfl,by omega,by simp;omega,by simp;omega⟩,0,ko hpos,?_,λk hk=>?_⟩
 ·and_intros<;>first|rfl|trivial|(simp only[Nv,M1];rw[qW hpos,eD])
 obtain⟨hkl,hkg⟩:=nq hk;refine(hcl k _ (by rw[hkl];omega)).mono ?_;rintro rs H' ⟨rfl,rfl⟩;refine⟨_,rfl,_,_,_,_,_,_,_,_,_,_,_,_,_,_,_,_,_,_,_,_,_,_,rfl,(hY k _ hkg).mono ?_⟩;rintro rs H' ⟨rfl,rfl⟩;refine⟨true,rfl,_,_,_,_,_,_,_,_,_,_,_,_,_,_,_,_,_,_,_,_,_,rfl,λh=>No h (by decide),λ_=>⟨(bs.length,k+1),F1 hk,?_,λy hy=>?_⟩⟩
 ·have e1:Nl .i64 (((OM intD (yM s bs k)).length:Nat) - 1:Int)=((bs.length:Nat):Int) - 1:=by rw[Nv,hkl];exact zu (by omega) (by omega)
  have e2:OM intD (yM s bs k)=OM intD (xT s bs bs.length (k+1)):=by rw[qX]
  and_intros<;>first|exact e1|exact e2|rfl|trivial
 obtain⟨x1,q⟩:=y;cases x1 with
 |zero =>
  have hl:=F9 hy;refine⟨λh=>by simp at h,λh=>by simp at h,λh=>by simp at h,λh=>by simp at h,λ_=>⟨λ_=>?_,λh=>by simp at h⟩⟩;rw[←hl]
 |succ x =>
  obtain⟨d,c,h1,h2,hg,hs,hx,hcar,hst⟩:=eE hpos hsz hy;have ex:((x+1:Nat):Int) - 1=(x:Int):=by omega
  have hol:=kq hy;have hll:(OM intD (xT s bs (x+1) q)).length=bs.length:=by rw[Nv,hol]
  have ei (n:Int):NO (Nz (some (OH .i64 n)) default)=n:=rfl;have hw:Nl .i64 ((d:Int)+1)=((d+1:Nat):Int):=by rw[zu (by omega) (by omega)];rfl
  have hdm:decide ((x:Int)>=0)=true:=by simp
  rw[ex,M1,xe hg,xe hs,ei,ei,hw,hll,hdm];refine⟨λ_=>⟨by omega,hx⟩,λ_=>⟨rfl,trivial⟩,λ_=>⟨by omega,uG hs⟩,λhq=>?_,λhq=>⟨λh=>No (M3 h) (by omega),λ_=>?_⟩⟩
  ·have e:d+1=c:=by have:(((d+1:Nat):Int)==(c:Int))=true:=hq;have:=eq_of_beq this;omega
   obtain⟨o1,o2⟩:=hcar e;refine⟨⟨by omega,hx⟩,hx,(x,q / c),o1,by omega,?_⟩;have e1:Nl .i64 ((x:Int) - 1)=(x:Int) - 1:=zu (by omega) (by omega);have e2:=(tS (xT s bs (x+1) q) x 0).trans (Mz _ o2);and_intros<;>first|exact e1|exact e2|rfl|trivial
  ·have e:d+1≠c:=λe=>by have:(((d+1:Nat):Int)==(c:Int))=false:=hq;rw[e]at this;simp at this
   obtain⟨o1,o2⟩:=hst e;refine⟨⟨by omega,hx⟩,⟨rfl,trivial⟩,⟨by omega,hx⟩,hx,k+1,o1,by omega,?_⟩;have e2:=(tS (xT s bs (x+1) q) x ((d+1:Nat):Int)).trans (Mz _ o2);and_intros<;>first|exact e2|rfl|trivial
def Xx (a:Sc):D:=NY [.sl (OM Nx (Ni a)),.sl (OM N6 (Nh a)),.sl (OM N9 (Nd a)),.sl (OM Ny (Nb a)),.sl (OM N8 (Nj a))]
def Xw (a:Sc) (b:ON Pl) (c:ON Ru):ON D:=[OE (OM MZ (zQ a b c)),.int .i64 (yQ a b c)]
def UB (a:Int) (b:Sc) (c:ON Pl) (d:ON Ru):Prop:=[OE [],.int .i64 a]=Xw b c d
def ap (a:ON Ru):Prop:=OM Na a=OM Na a
def ao (a:Sc) (b:ON Pl) (c:Nat) (d:ON Ru):ON D:=OM MZ (x6 a b (NW c d) 0)
def UA (a:ON Ru) (b:Nat):D:=OE (MT (Nz (z1 (OM Na a) (N1 (b:Int)) (0+1+1+1)) default))
def T0 (a:Sc) (b:ON Ru) (c:Nat):ON AV:=[Ma [.sl (OM intD (zP a (vu b c)))],.iptr [.sl (OM N3 (vu b c))]]
def T3 (a:ON Ru) (b:Nat) (c:ON D) (d:Sc) (e:ON D) (f:ON D) (g:ON D) (h:ON D) (i:ON D) (j:ON Pl) (k:ON D) (m:Nat):Prop:= ∃(y:Nat),y<=OJ a/\OJ a - y<OJ a - b/\(ap a/\N5 0 0=N5 0 0/\N5 1 0=N5 1 0/\N5 2 0=N5 2 0/\ap a/\(↑(OJ (OM Na a)):Int)=(↑(OJ (OM Na a)):Int)/\Nl .i64 ((b:Int)+1)=(y:Int)/\OG)/\(c=OM Nx (Ni d)/\e=OM N6 (Nh d)/\f=OM N9 (Nd d)/\g=OM Ny (Nb d)/\h=OM N8 (Nj d)/\OG)/\(i=OM Nr j/\OG)/\(k=ao d j y a/\OG)/\m=OJ (x6 d j (NW y a) 0)/\OG
theorem h47 (hM:M.Ok) (hF:M.Fn) (m:Int) (s:Sc) (w:ON Pl) (l:ON Ru) (hs:s.Fits) (hwl:w.length<1099511627776) (hl:l.length<1099511627776) (hw:rwts l<1099511627776):OB Tryz.prog (GA M m) 47 [s.d,wh w,.sl (l.map Na)] (· = [.sl ((zQ s w l).map MZ),.int .i64 (yQ s w l)]):=by
 have h83:=h83 (iE M m) s w hs hwl;have h84:=(g18 hM l hl hw).more (fp M m);have h85:=h85 (G:=GA M m) s l hs hl hw;have h86:=λbs hb=>h86 (G:=GA M m) s bs hs hb;rw[zf,yq]at *;unfold vl at *;refine zr (LL [(11,ui (α:=Nat) Tryz.prog (GA M m) (λx=>LL [(1000013,vI Tryz.prog (GA M m) [3,4,11,12,13] (λ_=>.clo 135 [] [.iptr [vl (zP s (vu l x))],.iptr [.sl ((vu l x).map N3)]]) c47)]) 0 (zz (z6 Tryz.f47) 0) [2,3,4,11,32,33] (λx=>x<=l.length) (λx=>l.length - x) (λx=>[(34,.d (.int .i64 x))]) (λH x=>[H.getD 0 .dead,H.getD 1 .dead,.cells 109 [.vec 3 ((x6 s w (l.take x) 0).map MZ)],.vec (x6 s w (l.take x) 0).length 6]))]) Tryz.func47 ⟨_,rfl⟩ (zm (yI mixed (λ_=>zm (yL (by kernel_rfl))))) ?_;apply @z7 _ (OB Tryz.prog (GA M m) 83 [Xx s,.agg [.sl (OM Nr w)]] λ(rs:ON D)=>∃(n:Int),rs=[OH .i64 n]/\((n != 0)=true->UB n s w l)/\((n != 0)=false->OB Tryz.prog (GA M m) 84 [OE (OM Na l)] λ(rs:ON D)=>∃(n:Int)(n_1:Int),rs=[OH .i64 n,.int .i64 n_1]/\((n_1 != 0)=true->UB n_1 s w l)/\((n_1 != 0)=false->OB Tryz.prog (GA M m) 85 [Xx s,.sl (OM Na l)] λ(rs:ON D)=>∃(b:Bool),rs=[OD b]/\(b=true->[OE [],.int .i64 2]=Xw s w l)/\(b=false->∃(x0:Nat),x0<=OJ l/\((ap l/\N5 0 0=N5 0 0/\N5 1 0=N5 1 0/\N5 2 0=N5 2 0/\ap l/\(↑(OJ (OM Na l)):Int)=(↑(OJ (OM Na l)):Int)/\(0:Int)=(x0:Int)/\OG)/\tO s/\tN w/\(([]=ao s w x0 l/\OJ ([]:ON D)<=OJ (x6 s w (NW x0 l) 0))/\OG)/\OG)/\∀(x:Nat),x<=OJ l->(decide ((x:Int)<(↑(OJ (OM Na l)):Int))=true->((0:Int)<=(x:Int)/\(OM Na l)[N1 (x:Int)]? = some (zk [NC,Jy,NP .i64,NB,NP .i64,NC,NP .i64,NB,NB,NB] (OM Na l) (N1 (x:Int))))/\(Lz Tryz.prog (GA M m) 86 [Xx s,UA l x] λ(av:AV)=>av=Ml 135 [] (T0 s l x))/\Nn Tryz.prog (GA M m) 135 (NE 6::T0 s l x) [mS s,mR w,.cells 109 [.vec 3 (ao s w x l)],.vec (OJ (x6 s w (NW x l) 0)) 6,.cells 3 [.d (.int .i64 (x:Int))],.cells 89 [.d (.str (MJ (Nz (z1 (OM Na l) (N1 (x:Int)) 0) default))),.d (.bool (Kz (Nz (z1 (OM Na l) (N1 (x:Int)) (0+1)) default))),.d (.int .i64 (NO (Nz (z1 (OM Na l) (N1 (x:Int)) (0+1+1)) default))),.d (UA l x),.d (.int .i64 (NO (Nz (z1 (OM Na l) (N1 (x:Int)) (0+1+1+1+1)) default))),.d (.str (MJ (Nz (z1 (OM Na l) (N1 (x:Int)) (0+1+1+1+1+1)) default))),.d (.int .i64 (NO (Nz (z1 (OM Na l) (N1 (x:Int)) (0+1+1+1+1+1+1)) default))),.d (.sl (MT (Nz (z1 (OM Na l) (N1 (x:Int)) (0+1+1+1+1+1+1+1)) default))),.d (.sl (MT (Nz (z1 (OM Na l) (N1 (x:Int)) (0+1+1+1+1+1+1+1+1)) default))),.d (.sl (MT (Nz (z1 (OM Na l) (N1 (x:Int)) (0+1+1+1+1+1+1+1+1+1)) default)))],h135Bq19] λ(x_1:ON D) (H':ON Box)=>∃(l_1:ON D)(l_2:ON D)(l_3:ON D)(l_4:ON D)(l_5:ON D)(l_6:ON D)(l_7:ON D)(n:Nat)(n_2:Int)(s_1:ON UInt8)(b:Bool)(n_3:Int)(l_8:ON D)(n_4:Int)(s_2:ON UInt8)(n_5:Int)(l_9:ON D)(l_10:ON D)(l_11:ON D)(pend:OK Np)(st:NQ),H'=h135Bq11 l_1 l_2 l_3 l_4 l_5::Ns 35 (wQ l_6)::sW l_7::Lo n 6::vP n_2::qM s_1 b n_3 l_8 n_4 s_2 n_5 l_9 l_10 l_11 pend st/\st≠J3/\(pend=none/\T3 l x l_1 s l_2 l_3 l_4 l_5 l_6 w l_7 n∨pend=some Lg/\False∨pend=some (Jk (aa c47))/\T3 l x l_1 s l_2 l_3 l_4 l_5 l_6 w l_7 n))/\(decide ((x:Int)<(↑(OJ (OM Na l)):Int))=false->[OE (ao s w x l),.int .i64 0]=Xw s w l)))))
 ·kernel_rfl
 delta Xx UB Xw ap tO mS mR Wn iD Wl Wm qw vQ nU qv nV tN qu tM qO qN h135Bq26 h135Bq19 h135Bq27 vP h135Bq11 nT wQ sW kX qt qM ym sV uW xK qr qL nS nR nQ nP ao UA T0 T3;have nil0:yQ s w l≠0->OM MZ (zQ s w l)=[]:=λh=>by unfold zQ;rw[N2 h];rfl
 refine h83.use ⟨_,rfl,λh=>?_,λh1=>h84.use ⟨_,_,rfl,λh=>?_,λh2=>h85.use ⟨_,rfl,λh=>?_,λh3=>?_⟩⟩⟩
 ·have h':ye s w≠0:=by simpa using h
  have he:yQ s w l=ye s w:=by unfold yQ;rw[Nf h']
  rw[nil0 (by rw[he];exact h'),he]
 ·have h1':ye s w=0:=by simpa using h1
  have h':(wp l).2≠0:=by simpa using h
  have he:yQ s w l=(wp l).2:=by unfold yQ;rw[N2 (by simp[h1']),Nf h']
  rw[nil0 (by rw[he];exact h'),he]
 ·have h1':ye s w=0:=by simpa using h1
  have h2':(wp l).2=0:=by simpa using h2
  rw[bB hs h2']at h;have he:yQ s w l=2:=by unfold yQ;rw[N2 (by simp[h1']),N2 (by simp[h2']),Nf h]
  rw[nil0 (by rw[he];decide),he]
 have h1':ye s w=0:=by simpa using h1
 have h2':(wp l).2=0:=by simpa using h2
 rw[bB hs h2']at h3;have he:yQ s w l=0:=by unfold yQ;rw[N2 (by simp[h1']),N2 (by simp[h2']),h3];rfl
 have hwk:w.length=s.lessons.length:=by
  unfold ye at h1';split at h1'
  ·rename_i h;exact No h1' h
  ·split at h1'
   ·cases h1'
   ·rename_i h;rcases EX (w.length=s.lessons.length)with h4|h4
    ·exact h4
    ·exact No (Or.inl h4) h
 obtain⟨g1,-,g3⟩:=jE hs l 0 0 h3 (by decide) (by decide);have hrules:=rules_ok l [] 0 h2';have hall:∀x,(x6 s w (l.take x) 0).length<=4096:=λx=>by have:=pA hs w (l.take x) 0 λr hr=>(g3 r (Je hr)).1;have:=gD hs l x;omega
 refine⟨0,L6 _,by and_intros<;>first|rfl|trivial|exact L6 _,λx hx=>⟨λhlt=>?_,λhge=>?_⟩⟩
 ·simp only[Nv,NR]at hlt;obtain⟨r,hr,hm⟩:=zt (l:=l) (x:=x) (by omega);have hty:=Sn (hrules r hm);have hg:=g3 r hm;have hT:=bP hs (bs:=r.each) (by omega);have hta:vu l x=r.each:=by unfold vu;rw[hr]
  have hrw:=rwts_mem hm;have hew:r.each.length<=ml r.each:=by unfold ml;omega
  have hrw2:r.wt=r.name.length+ml r.each+r.body.wt:=rfl;have ei (n:Int):NO (Nz (some (OH .i64 n)) default)=n:=rfl;have eb (n:Bool):Kz (Nz (some (OD n)) default)=n:=rfl;have es (n:Nm):MJ (Nz (some (NZ n)) default)=n:=rfl;have el (l:ON D):MT (Nz (some (OE l)) default)=l:=rfl;have hkl:∀k,(eW s w l x k).length<=8192:=λk=>by have h5:=bO s w r x ((zb s r.each).take k);have h6:=hall x;rw[nt hr,ON.length_append];rw[Kr]at h5;omega
  have hv:0<=(x:Int)/\(OM Na l)[x]? = some r.d:=⟨by omega,by rw[M6,hr];rfl⟩;rw[M1,mj hr,oE hr,ja hr,jZ hr,rZ hr,rY hr,rX hr,rW hr,rV hr,rU hr,rT hr,ei,ei,ei,es,es,eb,el,el,el,el,hta];have hB:=Qs (G:=GA M m) s w (λk=>eW s w l x k) x r r.each (by omega) (λb _=>by have:=(tV hs b.sort).2;unfold zY at this;unfold cN;omega) (λk t ht=>?_)
  ·rw[W8 hr,W9 hr (k:=(zb s r.each).length) (MS _)]at hB;refine⟨hv,h86 r.each (by omega),hB.mono ?_⟩;rintro rs H' rfl;refine⟨_,_,_,_,_,_,_,_,_,_,_,_,_,_,_,_,_,_,_,_,_,rfl,by decide,.inl ⟨rfl,x+1,by omega,by omega,?_⟩⟩;have e1:Nl .i64 ((x:Int)+1)=((x+1:Nat):Int):=by rw[zu (by omega) (by omega)];rfl
   and_intros<;>first|exact e1|rfl|trivial
  ·have htm:=MX ht;have htl:=so htm;have hpos:1<=zV 2097152 s r.each:=by
    rw[←hT];have:k<(zb s r.each).length:=by
     rcases M0 k (zb s r.each).length with h|h
     ·exact h
     ·rw[My h]at ht;cases ht
    omega
   have hbr:=xM hs (c:=2097152) (by decide) r.body;have hpre:Pre s w (yR r.each t) r.body:=by refine⟨hty.1,by rw[env_b htl];exact hty.2.1,?_,Up htm,hwk,by rw[YB htl];omega⟩;have:=Int.mul_le_mul_of_nonneg_right hpos hbr.1;omega
   have hh:=(h87 hF s w r.body hs _ hpre).more (fp M m);have hk1:=hkl k;refine(PF (G:=GA M m) s w (eW s w l x k) x r t _ (by omega) (by omega) (by omega) hh).mono ?_;rintro rs H' ⟨rfl,rfl⟩;refine⟨rfl,?_⟩;rw[Wz hr ht];cases Ll s w r.body (yR r.each t)<;>simp
 ·simp only[Nv,M2]at hge;unfold zQ;rw[MY (by omega),Nf he,he]
end
def an (p:Pn):ON AV:=[.d (.sl (p.sc.slots.map Nx)),.d (.sl (p.sc.rooms.map N6)),.d (.sl (p.sc.people.map N9)),.d (.sl (p.sc.groups.map Ny)),.d (.sl (p.sc.lessons.map N8)),.d (.sl (p.rules.map Na)),.d (.sl (p.frozen.map intD))]
def Rn (p:Pn) (old w:ON Pl):ON Box:=[.cells 32 (an p),.cells 35 [.d (.sl (old.map Nr))],.cells 35 [.d (.sl (w.map Nr))]]
section
variable {G:Nat->OK (ON D)}{M:Mk}
def am (a:Nat) (b:Sc) (c:ON Pl) (d:ON Ru):Prop:=a<=OJ (zQ b c d)
def la (a:Nat) (b:Sc) (c:ON Pl) (d:ON Ru):ON In:=NW a (zQ b c d)
def ia (a:ON Ru) (b:Nat) (c:Sc) (d:ON Pl):Int:=vS a (la b c d a)
def Xv (a:Sc) (b:ON Pl):Prop:=(OM Nx (Ni a)=OM Nx (Ni a)/\OM N6 (Nh a)=OM N6 (Nh a)/\OM N9 (Nd a)=OM N9 (Nd a)/\OM Ny (Nb a)=OM Ny (Nb a)/\OM N8 (Nj a)=OM N8 (Nj a)/\OG)/\(OM Nr b=OM Nr b/\OG)/\OG
def fk (a:ON D) (b:Nat):Int:=NO (Nz (z1 a (N1 (b:Int)) 0) default)
def T4 (a:ON Ru) (b:ON D) (c:Nat):Bool:=Kz (Nz (z1 (OM Na a) (N1 (fk b c)) (0+1)) default)
def T6 (a:Int) (b:ON D) (c:Nat) (d:Nat):Prop:=a=a/\b=b/\(↑(OJ b):Int)=(↑(OJ b):Int)/\Nl .i64 ((c:Int)+1)=(d:Int)/\OG
theorem h18 (hM:M.Ok) (hF:M.Fn) (m:Int) (s:Sc) (w:ON Pl) (l:ON Ru) (hs:s.Fits) (hwl:w.length<1099511627776) (hl:l.length<1099511627776) (hw:rwts l<1099511627776):OB Tryz.prog (GA M m) 18 [s.d,wh w,.sl (l.map Na)] (· = [.int .i64 (vS l (zQ s w l)),.int .i64 (xL l (zQ s w l)),.int .i64 (yQ s w l)]):=by
 have h47:=h47 hM hF m s w l hs hwl hl hw;rw[zf,yq]at *;refine zr (LL [(3,zT (α:=Nat) Tryz.prog (GA M m) L0 0 (zz (z6 Tryz.f18) 0) [2,8,20,21] (λx=>x<=(zQ s w l).length) (λx=>(zQ s w l).length - x) (λx=>[(6,.d (.int .i64 (vS l ((zQ s w l).take x)))),(7,.d (.int .i64 (xL l ((zQ s w l).take x)))),(22,.d (.int .i64 x))]) (λH _=>H))]) Tryz.func18 ⟨_,rfl⟩ (zm zy) ?_;apply @z7 _ (OB Tryz.prog (GA M m) 47 [NY [.sl (OM Nx (Ni s)),.sl (OM N6 (Nh s)),.sl (OM N9 (Nd s)),.sl (OM Ny (Nb s)),.sl (OM N8 (Nj s))],.agg [.sl (OM Nr w)],.sl (OM Na l)] λ(rs:ON D)=>∃(l_1:ON D)(n:Int),rs=[OE l_1,.int .i64 n]/\∃(x0:Nat),am x0 s w l/\((OM Na l=OM Na l/\0=ia l x0 s w/\0=xL l (la x0 s w l)/\n=n/\l_1=l_1/\(↑(OJ l_1):Int)=(↑(OJ l_1):Int)/\(0:Int)=(x0:Int)/\OG)/\Xv s w)/\∀(x:Nat),am x s w l->(decide ((x:Int)<(↑(OJ l_1):Int))=true->((0:Int)<=(x:Int)/\l_1[N1 (x:Int)]? = some (zk [NP .i64,NB,NP .i64,NP .i64,NP .i64,NB] l_1 (N1 (x:Int))))/\(0<=fk l_1 x/\(OM Na l)[N1 (fk l_1 x)]? = some (zk [NC,Jy,NP .i64,NB,NP .i64,NC,NP .i64,NB,NB,NB] (OM Na l) (N1 (fk l_1 x))))/\(T4 l l_1 x=true->∃(y:Nat),am y s w l/\OJ (zQ s w l) - y<OJ (zQ s w l) - x/\(OM Na l=OM Na l/\Nl .i64 (ia l x s w+1)=ia l y s w/\xL l (la x s w l)=xL l (la y s w l)/\T6 n l_1 x y)/\Xv s w)/\(T4 l l_1 x=false->∃(y:Nat),am y s w l/\OJ (zQ s w l) - y<OJ (zQ s w l) - x/\(OM Na l=OM Na l/\ia l x s w=ia l y s w/\Nl .i64 (xL l (la x s w l)+NO (Nz (z1 (OM Na l) (N1 (fk l_1 x)) (0+1+1)) default))=xL l (la y s w l)/\T6 n l_1 x y)/\Xv s w))/\(decide ((x:Int) < (↑(OJ l_1):Int))=false->[OH .i64 (ia l x s w),.int .i64 (xL l (la x s w l)),.int .i64 n]=[OH .i64 (vS l (zQ s w l)),.int .i64 (xL l (zQ s w l)),.int .i64 (yQ s w l)]))
 ·kernel_rfl
 delta am ia la Xv fk T4 T6;have hcl0:xL l []=0:=by simp[xL]
 have hhl0:vS l []=0:=by simp[vS]
 refine h47.use ⟨_,_,rfl,0,L6 _,by and_intros<;>first|rfl|trivial|exact hhl0.symm|exact hcl0.symm,λx hx=>⟨λhlt=>?_,λhge=>?_⟩⟩
 ·simp only[Nv,NR]at hlt;obtain⟨b,hb,hbm⟩:=zt (l:=zQ s w l) (x:=x) (by omega);have hE:yQ s w l=0:=by
   by_cases h:yQ s w l=0
   ·exact h
   ·have:zQ s w l=[]:=by unfold zQ;rw[N2 h]
    rw[this]at hb;cases hb
  obtain⟨hlen,hty⟩:=Wy hs hE;obtain⟨k,hk,hkl⟩:=lg hbm;obtain⟨r,hr,hm⟩:=zt (l:=l) (x:=k) hkl;have hat:o0 l b.rule=r:=by unfold o0;rw[hk,M1,hr];rfl
  have ei (n:Int):NO (Nz (some (OH .i64 n)) default)=n:=rfl;have eb (n:Bool):Kz (Nz (some (OD n)) default)=n:=rfl;have hw1:=Sm (hty r hm);have hcb:=YA l ((zQ s w l).take x) λy hy=>by
   obtain⟨k2,hk2,hkl2⟩:=lg (Je hy);obtain⟨r2,hr2,hm2⟩:=zt (l:=l) (x:=k2) hkl2;have:o0 l y.rule=r2:=by unfold o0;rw[hk2,M1,hr2];rfl
   rw[this];exact Sm (hty r2 hm2)
  rw[Kr]at hcb;have hhb:0<=vS l ((zQ s w l).take x)/\vS l ((zQ s w l).take x)<=4096:=by have h1:=IY (p:=λx:In=>(o0 l x.rule).hard) (l:=(zQ s w l).take x);rw[Kr]at h1;unfold vS;omega
  have hv1:0<=(x:Int)/\(OM MZ (zQ s w l))[x]? = some b.d:=⟨by omega,SQ hb⟩;have hv2:0<=(k:Int)/\(OM Na l)[k]? = some r.d:=⟨by omega,by rw[M6,hr];rfl⟩;have e1:Nl .i64 ((x:Int)+1)=((x+1:Nat):Int):=by rw[zu (by omega) (by omega)];rfl
  rw[M1,SR hb,bM hb,ei,hk,M1,mj hr,ja hr,jZ hr,ei,eb];refine⟨hv1,hv2,λhh=>⟨x+1,by omega,by omega,?_⟩,λhh=>⟨x+1,by omega,by omega,?_⟩⟩
  ·have e2:Nl .i64 (vS l ((zQ s w l).take x)+1)=vS l ((zQ s w l).take (x+1)):=by rw[zu (by omega) (by omega),yp hb,gB,hat,Nf hh]
   have e3:xL l ((zQ s w l).take x)=xL l ((zQ s w l).take (x+1)):=by rw[yp hb,gC,hat,Nf hh,CF]
   and_intros<;>first|exact e1|exact e2|exact e3|rfl|trivial
  ·have e2:vS l ((zQ s w l).take x)=vS l ((zQ s w l).take (x+1)):=by rw[yp hb,gB,hat,N2 (by simp[hh]),CF]
   have e3:Nl .i64 (xL l ((zQ s w l).take x)+r.weight)=xL l ((zQ s w l).take (x+1)):=by rw[zu (by omega) (by omega),yp hb,gC,hat,N2 (by simp[hh])]
   and_intros<;>first|exact e1|exact e2|exact e3|rfl|trivial
 ·simp only[Nv,M2]at hge;rw[MY (by omega)]
def SK (a:Pn) (b:ON Pl):ON D:=[OD (N7 (zH a b)),.int .i64 (NV (zH a b))]
theorem h7 (hM:M.Ok) (hF:M.Fn) (m:Int) (p:Pn) (w:ON Pl) (hp:p.Fits) (hw:w.length<1099511627776):OB Tryz.prog (GA M m) 7 [p.d,wh w] (· = [.bool (zH p w).1,.int .i64 (zH p w).2]):=by
 have h18:=h18 hM hF m p.sc w p.rules hp.sc hw hp.rules hp.wts;rw[zf,yq]at *;rw[yc];refine zn Tryz.func7 ⟨_,rfl⟩ ?_;apply @z7 _ (OB Tryz.prog (GA M m) 18 [NY [.sl (OM Nx (Ni (NT p))),.sl (OM N6 (Nh (NT p))),.sl (OM N9 (Nd (NT p))),.sl (OM Ny (Nb (NT p))),.sl (OM N8 (Nj (NT p)))],.agg [.sl (OM Nr w)],.sl (OM Na (Lu p))] λ(rs:ON D)=>∃(n:Int)(n_1:Int)(n_2:Int),rs=[OH .i64 n,.int .i64 n_1,.int .i64 n_2]/\((n_2 != 0)=true->[OD false,.int .i64 0]=SK p w)/\((n_2 != 0)=false->[OD (n==0),.int .i64 n_1]=SK p w))
 ·kernel_rfl
 delta SK;refine h18.use ⟨_,_,_,rfl,λh=>?_,λh=>?_⟩
 ·have:zH p w=(false,0):=by unfold zH;rw[Nf (by simpa using h)]
  rw[this]
 ·unfold zH;rw[N2 (by simpa using h)]
def lZ (a:ON Pl):Int:=(↑(OJ (OM Nr a)):Int)
def fj (a:Int) (b:ON Pl) (c:ON Pl):Bool:=bif decide (a>=0)then decide (a<if lZ b<lZ c then lZ b else lZ c)else false
def fh (a:Int) (b:ON Pl) (c:ON Pl):Prop:=fj a b c=true
def fg (a:Int) (b:ON Pl):Prop:=0<=a/\(OM Nr b)[N1 a]? = some (zk [NP .i64,NP .i64] (OM Nr b) (N1 a))
def tK (a:Pn) (b:ON Pl) (c:ON Pl):ON Box:=[Ns 32 [.d (.sl (OM Nx (Ni (NT a)))),.d (.sl (OM N6 (Nh (NT a)))),.d (.sl (OM N9 (Nd (NT a)))),.d (.sl (OM Ny (Nb (NT a)))),.d (.sl (OM N8 (Nj (NT a)))),.d (.sl (OM Na (Lu a))),.d (.sl (OM intD (ML a)))],.cells 35 [.d (.sl (OM Nr b))],.cells 35 [.d (.sl (OM Nr c))]]
theorem OY (p:Pn) (old w:ON Pl) (k:Int):Nn Tryz.prog G 50 [.d (.int .i64 k),.ptr 1 0,.ptr 2 0] (Rn p old w) (λrs H'=>rs=[.bool (xY old w k)]/\H'=Rn p old w):=by
 refine zF Tryz.func50 rfl ⟨_,_,rfl,rfl⟩ ?_;apply @z7 _ ((fh k w old->fg k old)/\(fh k w old->fg k w)/\[OD (bif fj k w old then !(λ(r:Bool)=>NO (Nz (z1 (OM Nr old) (N1 k) 0) default)==NO (Nz (z1 (OM Nr w) (N1 k) 0) default)&&r) ((λ(r:Bool)=>NO (Nz (z1 (OM Nr old) (N1 k) (0+1)) default)==NO (Nz (z1 (OM Nr w) (N1 k) (0+1)) default)&&r) true)else false)]=[OD (xY old w k)]/\tK p old w=tK p old w)
 ·kernel_rfl
 delta fh fj lZ fg tK;have ei (n:Int):NO (Nz (some (OH .i64 n)) default)=n:=rfl;rw[Nv,Nv];by_cases hin:0<=k/\k<old.length/\k<w.length
 ·obtain⟨hz0,hzo,hzw⟩:=hin;obtain⟨a,ha,_⟩:=gf hz0 hzo;obtain⟨b,hb,_⟩:=gf hz0 hzw;rw[pG ha,pG hb,vW ha,vV ha,vW hb,vV hb,ei,ei,ei,ei];have e1:xY old w k = !SP a b:=by unfold xY xE;rw[ha,hb];simp[hz0,hzo,hzw]
  have e2:(bif decide (k>=0)then decide (k<if(w.length:Int)<old.length then(w.length:Int)else old.length)else false)=true:=by have h1:decide (k>=0)=true:=decide_eq_true hz0;have h2:decide (k<if(w.length:Int)<old.length then(w.length:Int)else old.length)=true:=decide_eq_true (by split<;>omega);rw[h1,h2];rfl
  rw[e2,e1];refine⟨λ_=>⟨hz0,pF ha⟩,λ_=>⟨hz0,pF hb⟩,?_,rfl⟩;unfold SP;simp
 ·have e2:(bif decide (k>=0)then decide (k<if(w.length:Int)<old.length then(w.length:Int)else old.length)else false)=false:=by rw[zM,DC];intro h;rw[NK,NR,NR]at h;refine hin ⟨h.1,?_⟩;have:=h.2;split at this<;>omega
  have h6:xY old w k=false:=by unfold xY;rw[DC];intro h;simp at h;exact hin ⟨h.1,h.2.1,h.2.2.1⟩
  rw[e2,h6];exact⟨(λh=>No h (by decide)),(λh=>No h (by decide)),rfl,rfl⟩
def mQ (a:Nat) (b:ON Int) (c:ON Pl) (d:ON Pl):Prop:=a<=OJ b/\yu (λ(z:Int)=>xY c d z) (Lx a b) a=yu (λ(z:Int)=>xY c d z) b 0
def h71Mq4:AV:=Ml 50 [] [N5 1 0,.ptr 2 0]
def h71Mq2:Prop:=h71Mq4=h71Mq4
def iZ (a:ON Int) (b:Nat):D:=OH .i64 (NO (Nz (z1 (OM intD a) (N1 (b:Int)) 0) default))
def qq (a:ON D) (b:ON D) (c:ON D) (d:ON D) (e:ON D) (f:ON D) (g:ON D) (h:ON D) (i:ON D):ON Box:=[Ns 32 [.d (.sl a),.d (.sl b),.d (.sl c),.d (.sl d),.d (.sl e),.d (.sl f),.d (.sl g)],.cells 35 [.d (.sl h)],.cells 35 [.d (.sl i)]]
theorem PD (p:Pn) (old w:ON Pl) (l:ON Int) (hl:l.length<4611686018427387904):Nn Tryz.prog G 71 [.d (.sl (l.map intD)),.clo 50 [] [.ptr 1 0,.ptr 2 0]] (Rn p old w) (λrs H'=>rs=[.int .i64 (yu (λz=>xY old w z) l 0)]/\H'=Rn p old w):=by
 refine zg (LL [(2,zT (α:=Nat) Tryz.prog G L0 3 (zz (z6 Tryz.f71) 0) [0,1,7] (λi=>i<=l.length/\yu (λz=>xY old w z) (l.drop i) i=yu (λz=>xY old w z) l 0) (λi=>l.length - i) (λi=>[(8,.d (.int .i64 i))]) (λH _=>H))]) Tryz.func71 rfl ⟨_,_,rfl,rfl⟩ (zm zy) ?_;apply @z7 _ (∃(x0:Nat),mQ x0 l old w/\((OM intD l=OM intD l/\h71Mq2/\(↑(OJ (OM intD l)):Int)=(↑(OJ (OM intD l)):Int)/\(0:Int)=(x0:Int)/\OG)/\(OM Nx (Ni (NT p))=OM Nx (Ni (NT p))/\OM N6 (Nh (NT p))=OM N6 (Nh (NT p))/\OM N9 (Nd (NT p))=OM N9 (Nd (NT p))/\OM Ny (Nb (NT p))=OM Ny (Nb (NT p))/\OM N8 (Nj (NT p))=OM N8 (Nj (NT p))/\OM Na (Lu p)=OM Na (Lu p)/\OM intD (ML p)=OM intD (ML p)/\OG)/\(OM Nr old=OM Nr old/\OG)/\(OM Nr w=OM Nr w/\OG)/\OG)/\∀(x:Nat),mQ x l old w->(decide ((x:Int)<(↑(OJ (OM intD l)): Int))=true->((0:Int)<=(x:Int)/\(OM intD l)[N1 (x:Int)]? = some (iZ l x))/\Nn Tryz.prog G 50 [OF (iZ l x),.ptr 1 0,.ptr 2 0] (tK p old w) λ(rs:ON D) (H':ON Box)=>∃(b:Bool),rs=[OD b]/\∃(l_1:ON D)(l_2:ON D)(l_3:ON D)(l_4:ON D)(l_5:ON D)(l_6:ON D)(l_7:ON D)(l_8:ON D)(l_9:ON D),H'=qq l_1 l_2 l_3 l_4 l_5 l_6 l_7 l_8 l_9/\(b=true->[OH .i64 (x:Int)]=[OH .i64 (yu (λ(z:Int)=>xY old w z) l 0)]/\qq l_1 l_2 l_3 l_4 l_5 l_6 l_7 l_8 l_9=tK p old w)/\(b=false->∃(y:Nat),mQ y l old w/\OJ l - y<OJ l - x/\(OM intD l=OM intD l/\h71Mq2/\(↑(OJ (OM intD l)):Int)=(↑(OJ (OM intD l)):Int)/\Nl .i64 ((x:Int)+1)=(y:Int)/\OG)/\(l_1=OM Nx (Ni (NT p))/\l_2=OM N6 (Nh (NT p))/\l_3=OM N9 (Nd (NT p))/\l_4=OM Ny (Nb (NT p))/\l_5=OM N8 (Nj (NT p))/\l_6=OM Na (Lu p)/\l_7=OM intD (ML p)/\OG)/\(l_8=OM Nr old/\OG)/\(l_9=OM Nr w/\OG)/\OG))/\(decide ((x:Int)<(↑(OJ (OM intD l)):Int))=false->[OH .i64 (-1)]=[OH .i64 (yu (λ(z:Int)=>xY old w z) l 0)]/\tK p old w=tK p old w))
 ·kernel_rfl
 delta mQ h71Mq2 h71Mq4 iZ tK fh fj lZ fg qq;refine⟨0,⟨L6 _,rfl⟩,by and_intros<;>first|rfl|trivial,λx hx=>⟨λhlt=>?_,λhge=>?_⟩⟩
 ·simp only[Nv,NR]at hlt;obtain⟨z,hz,hm⟩:=zt (l:=l) (x:=x) (by omega);have hx2:=hx.2;rw[yZ hz,yu]at hx2;have ei (n:Int):NO (Nz (some (OH .i64 n)) default)=n:=rfl;rw[M1,xe hz,ei];refine⟨⟨by omega,uG hz⟩,(OY p old w z).mono ?_⟩;rintro rs H' ⟨rfl,rfl⟩;have e1:Nl .i64 ((x:Int)+1)=((x+1:Nat):Int):=by rw[zu (by omega) (by omega)];rfl
  refine⟨_,rfl,_,_,_,_,_,_,_,_,_,rfl,λhb=>⟨?_,rfl⟩,λhb=>⟨x+1,⟨by omega,?_⟩,by omega,by and_intros<;>first|rfl|trivial|exact e1⟩⟩
  ·rw[Nf hb]at hx2;rw[hx2]
  ·rw[N2 (by rw[hb];decide)]at hx2;exact hx2
 ·simp only[Nv,M2]at hge;have hx2:=hx.2;rw[Ls (by omega),yu]at hx2;exact⟨by rw[hx2],rfl⟩
theorem PC (p:Pn) (old w:ON Pl) (l:ON Int) (hl:l.length<4611686018427387904):Nn Tryz.prog G 32 [.d (.sl (l.map intD)),.clo 50 [] [.ptr 1 0,.ptr 2 0]] (Rn p old w) (λrs H'=>rs=[.bool (l.any λz=>xY old w z)]/\H'=Rn p old w):=by
 refine zF Tryz.func32 rfl ⟨_,_,rfl,rfl⟩ ?_;apply @z7 _ (Nn Tryz.prog G 71 [OF (.sl (OM intD l)),h71Mq4] (tK p old w) λ(rs:ON D) (H':ON Box)=>∃(n:Int),rs=[OH .i64 n]/\∃(l_1:ON D)(l_2:ON D)(l_3:ON D)(l_4:ON D)(l_5:ON D)(l_6:ON D)(l_7:ON D)(l_8:ON D)(l_9:ON D),H'=qq l_1 l_2 l_3 l_4 l_5 l_6 l_7 l_8 l_9/\[OD (decide (n>=0))]=[OD (Lv l λ(z:Int)=>xY old w z)]/\qq l_1 l_2 l_3 l_4 l_5 l_6 l_7 l_8 l_9=tK p old w)
 ·kernel_rfl
 delta h71Mq4 mQ h71Mq2 iZ tK fh fj lZ fg qq;refine(PD (G:=G) p old w l hl).mono ?_;rintro rs H' ⟨rfl,rfl⟩;refine⟨_,rfl,_,_,_,_,_,_,_,_,_,rfl,?_,rfl⟩;rw[uZ]
theorem h20 (hM:M.Ok) (m:Int) (p:Pn) (old w:ON Pl) (hp:p.Fits) (ho:old.length<1099511627776) (hw:w.length<1099511627776):OB Tryz.prog (GA M m) 20 [p.d,wh old,wh w] (· = [.bool (wU p old w)]):=by
 have h49:=h49 (G:=GA M m) (iE M m) p old hp ho;rw[yc]at *;rw[yq,yq]at *;refine zn Tryz.func20 ⟨_,rfl⟩ ?_;apply @z7 _ (OB Tryz.prog (GA M m) 49 [NY [.sl (OM Nx (Ni (NT p))),.sl (OM N6 (Nh (NT p))),.sl (OM N9 (Nd (NT p))),.sl (OM Ny (Nb (NT p))),.sl (OM N8 (Nj (NT p))),.sl (OM Na (Lu p)),.sl (OM intD (ML p))],.agg [.sl (OM Nr old)]] λ(rs:ON D)=>∃(b:Bool),rs=[OD b]/\((!b)=true->[OD true]=[OD (wU p old w)])/\((!b)=false->Nn Tryz.prog (GA M m) 32 [OF (.sl (OM intD (ML p))),h71Mq4] (tK p old w) λ(rs:ON D) (H':ON Box)=>∃(b:Bool),rs=[OD b]/\∃(l:ON D)(l_1:ON D)(l_2:ON D)(l_3:ON D)(l_4:ON D)(l_5:ON D)(l_6:ON D)(l_7:ON D)(l_8:ON D),H'=qq l l_1 l_2 l_3 l_4 l_5 l_6 l_7 l_8/\[OD !b]=[OD (wU p old w)]))
 ·kernel_rfl
 delta h71Mq4 mQ h71Mq2 iZ tK fh fj lZ fg qq;refine h49.use ⟨_,rfl,λh=>?_,λh=>?_⟩
 ·have h0:(ye p.sc old==0)=false:=by simpa using h
  unfold wU;rw[show(ye p.sc old != 0) = !(ye p.sc old==0)from rfl,h0];rfl
 ·have h0:(ye p.sc old==0)=true:=by simpa using h
  have hfz:=hp.frozen;refine(PC p old w p.frozen (by omega)).mono ?_;rintro rs H' ⟨rfl,rfl⟩;refine⟨_,rfl,_,_,_,_,_,_,_,_,_,rfl,?_⟩;unfold wU;rw[show(ye p.sc old != 0) = !(ye p.sc old==0)from rfl,h0];have:∀l:ON Int,(!l.any λz=>xY old w z)=l.all λk=>!xY old w k:=λl=>by
   induction l with
   |nil=>rfl
   |cons a l ih=>rw[K7,J7,←ih,GW]
  rw[this];rfl
end
def c13a:Np:=unScope (zz (z6 Tryz.f13) 1)
def tm13a:ON AV:=[.any,.any,.ptr 0 0,.any,.ptr 1 0,.any,.any,.any,.any,.any,.any,.any,.any,.any,.any,.any,.any,.any,.any,.any,.any,.any,.any,.any,.any,.any,.any,.any,.any,.any,.any,.any,.any,.any,.any,.any,.any,.any,.any,.any,.any,.any,.any,.any]
def hA (s:Sc) (out:ON (ON Pl)):ON Box:=[.cells 28 (pc s),.cells 42 [.vec 2 (out.map wh)],.vec out.length 1,.loop tm13a (ze c13a) (zo c13a) (zc c13a) none .ready]
def Oo (s:Sc) (out:ON (ON Pl)):ON Box:=[.cells 28 (pc s),.cells 42 [.vec 2 (out.map wh)],.vec out.length 1,.loop tm13a (ze c13a) (zo c13a) (zc c13a) none .busy]
section
variable {G:Nat->OK (ON D)}{M:Mk}
def T7 (a:Sc):AV:=Ml 68 [] [Ma [.sl (OM Nx (Ni a)),.sl (OM N6 (Nh a)),.sl (OM N9 (Nd a)),.sl (OM Ny (Nb a)),.sl (OM N8 (Nj a))]]
theorem h27 (s:Sc):Lz Tryz.prog G 27 [s.d] (· = .clo 68 [] [.iptr [.sl (s.slots.map Nx),.sl (s.rooms.map N6),.sl (s.people.map N9),.sl (s.groups.map Ny),.sl (s.lessons.map N8)]]):=by
 rw[zf];refine IH (fn:=Tryz.f27) (code:=z6 Tryz.f27) mixed L0 Tryz.func27 (by kernel_rfl) u3 ?_;apply @z7 _ (T7 s=T7 s)
 ·kernel_rfl
 delta T7;rfl
def og (a:Sc) (b:ON (ON Pl)) (c:ON Pl):ON Box:=[Ns 28 [.d (.sl (OM Nx (Ni a))),.d (.sl (OM N6 (Nh a))),.d (.sl (OM N9 (Nd a))),.d (.sl (OM Ny (Nb a))),.d (.sl (OM N8 (Nj a)))],.cells 42 [.vec 2 (OM wh b)],.vec (OJ b) 1,.loop [OI,.any,.ptr 0 0,.any,.ptr 1 0,.any,.any,.any,.any,.any,.any,.any,.any,.any,.any,.any,.any,.any,.any,.any,.any,.any,.any,.any,.any,.any,.any,.any,.any,.any,.any,.any,.any,.any,.any,.any,.any,.any,.any,.any,.any,.any,.any,.any] (ze c13a) (zo c13a) (zc c13a) none J3,.arr 2 (OM Nr c)]
def iY (a:Sc) (b:ON (ON Pl)) (c:ON Pl):Prop:=og a b c=og a b c
theorem PB (s:Sc) (out:ON (ON Pl)) (w:ON Pl) (hw:w.length<1099511627776):Nn Tryz.prog G 28 [.msl 4] (Oo s out++[.arr 2 (w.map Nr)]) (λrs H'=>rs=[.sl (w.map Nr)]/\H'=Oo s out++[.arr 2 (w.map Nr)]):=by
 refine zF Tryz.func28 rfl ⟨_,_,rfl,rfl⟩ ?_;apply @z7 _ ((false=true->[OE []]=[OE (OM Nr w)]/\iY s out w)/\(false=false->FA [] (OM Nr w) (nat_lit 2) (nat_lit 16)/\[OE (Mx ([]:ON D)++OM Nr w)]=[OE (OM Nr w)]/\iY s out w))
 ·kernel_rfl
 delta iY og;have hc:=U4 w;unfold xW at hc;exact⟨λh=>No h (by decide),λ_=>⟨⟨by simpa using hc,by simp;omega⟩,rfl,rfl⟩⟩
def Y1 (a:Sc):Box:=Ns 28 [.d (.sl (OM Nx (Ni a))),.d (.sl (OM N6 (Nh a))),.d (.sl (OM N9 (Nd a))),.d (.sl (OM Ny (Nb a))),.d (.sl (OM N8 (Nj a)))]
def S3 (a:ON D):ON D:=Mx [NY (Mx [aZ false [OE a]])]
def S4 (a:ON Pl):ON Box:=[M7 [OI,.any,.ptr 0 0,.any,.ptr 1 0,.any,.any,.any,.any,.any,.any,.any,.any,.any,.any,.any,.any,.any,.any,.any,.any,.any,.any,.any,.any,.any,.any,.any,.any,.any,.any,.any,.any,.any,.any,.any,.any,.any,.any,.any,.any,.any,.any,.any] (ze c13a) (zo c13a) (zc c13a) none Mg,.arr 2 (OM Nr a)]
theorem PA (s:Sc) (out:ON (ON Pl)) (w:ON Pl) (hw:w.length<1099511627776) (ho:out.length<1099511627776):Mo Tryz.prog G 3 [.msl 4] (hA s out++[.arr 2 (w.map Nr)]) (λrs H'=>rs=[.bool true]/\H'=hA s (out++[w])++[.arr 2 (w.map Nr)]):=by
 refine Jl (tm:=tm13a) (ps:=ze c13a) (asn:=zo c13a) (bd:=zc c13a) mixed L0 rfl (by kernel_rfl) rfl rfl ⟨_,_,rfl,rfl⟩ (λ_=>nC (by kernel_rfl)) (λ_=>nC (by kernel_rfl)) ?_;apply @z7 _ (Nn Tryz.prog G 28 [MP 4] (og s out w) λ(rs:ON D) (H':ON Box)=>H'=og s out w/\∃(l:ON D),rs=[OE l]/\(OJ out=OJ (OM wh out)/\1=1/\FA (OM wh out) [NY [.sl l]] (nat_lit 1) (nat_lit 24))/\[OD true]=[OD true]/\Y1 s::Ns 42 [.vec 2 (OM wh out++S3 l)]::Lo (OJ (OM wh out)+OJ (S3 l)) 1::S4 w=Y1 s::Ns 42 [.vec 2 (OM wh (out++[w]))]::Lo (OJ (out++[w])) 1::S4 w)
 ·kernel_rfl
 delta og iY Y1 S3 S4;refine(PB s out w hw).mono ?_;rintro rs H' ⟨rfl,rfl⟩;have hc:=Ux out;unfold xW at hc;refine⟨rfl,_,rfl,⟨by simp,rfl,⟨by rw[J2,hc];rfl,by simp;omega⟩⟩,rfl,?_⟩;have e1:OM wh out++[NY [.sl (w.map Nr)]]=OM wh (out++[w]):=by rw[Lq];rfl
 have e2:(OM wh out).length+1=(out++[w]).length:=by simp
 rw[←e1,←e2];rfl
def Sc.wk (s:Sc) (k:Nat):ON Pl:=(yM (nA (s.slots.length*s.rooms.length)) (oz s.lessons.length) k).map (tR s.rooms.length)
def Sc.od (s:Sc) (x q:Nat):ON Pl:=(xT (nA (s.slots.length*s.rooms.length)) (oz s.lessons.length) x q).map (tR s.rooms.length)
def Sc.Odo (s:Sc) (k x q:Nat):Prop:=MH (nA (s.slots.length*s.rooms.length)) (oz s.lessons.length) k x q
def ff (a:Sc):ON D:=OM N8 (Nj a)
def iX (a:Sc):Int:=(↑(OJ (ff a)):Int)
def wP (a:Sc):ON (ON Pl):=xj (Sc.pls a) (OJ (Nj a))
def al (a:Sc):Nat:=OJ (wP a)
def mP (a:Nat) (b:Sc):Prop:=a<al b
def oe (a:Sc):ON D:=OM Nx (Ni a)
def oc (a:Sc):ON D:=OM N6 (Nh a)
def T8 (a:Sc):AV:=Ma [.sl (oe a),.sl (oc a),.sl (OM N9 (Nd a)),.sl (OM Ny (Nb a)),.sl (ff a)]
def da (a:Sc):Prop:=T8 a=T8 a
def iW (a:Sc):Prop:=NE 3=NE 3/\da a/\MP 4=MP 4/\OG
def mO (a:Sc):Prop:=oe a=oe a/\oc a=oc a/\OM N9 (Nd a)=OM N9 (Nd a)/\OM Ny (Nb a)=OM Ny (Nb a)/\ff a=ff a/\OG
def h68q2:ON AV:=[OI,.any,.ptr 0 0,.any,.ptr 1 0,.any,.any,.any,.any,.any,.any,.any,.any,.any,.any,.any,.any,.any,.any,.any,.any,.any,.any,.any,.any,.any,.any,.any,.any,.any,.any,.any,.any,.any,.any,.any,.any,.any,.any,.any,.any,.any,.any,.any]
def h68q6:Box:=M7 h68q2 (ze c13a) (zo c13a) (zc c13a) none Mg
def h68q10:Prop:=h68q6=h68q6
def mN (a:Sc) (b:Nat):ON D:=OM Nr (Sc.wk a b)
def Y2 (a:ON D) (b:ON D) (c:ON D) (d:ON D) (e:ON D):Box:=Ns 28 [.d (.sl a),.d (.sl b),.d (.sl c),.d (.sl d),.d (.sl e)]
def dZ (a:OK Np) (b:NQ):Box:=M7 h68q2 (ze c13a) (zo c13a) (zc c13a) a b
def Y3 (a:Sc):ON Box:=[Y1 a,.cells 42 [.vec 2 (OM wh (wP a))],.vec (al a) 1,h68q6]
def yz (a:Nat×Nat):Int:=(↑(N7 a):Int) - 1
def sU (a:Nat) (b:Sc):ON (ON Pl):=NW (a+1) (wP b)
def lY (a:Nat) (b:Sc):ON D:=OM wh (sU a b)
def uV (a:Sc) (b:Nat×Nat):ON D:=OM Nr (Sc.od a (N7 b) (NV b))
def lX (a:Sc) (b:Nat×Nat):ON D:=w8 (uV a b) (N1 (yz b)) 1 (Mx [N7 (OH .i64 (Nl .i64 (NO (Nz (z1 (uV a b) (N1 (yz b)) 1) default)+1)),OG)])
def Y4 (a:Nat×Nat) (b:Sc):Prop:=N1 (yz a)<OJ (lX b a)
def Y5 (a:Nat×Nat) (b:Sc):Prop:=0<=yz a/\Y4 a b
def iV (a:Nat×Nat):Bool:=decide (yz a<0)
def Xu (a:Nat×Nat):Prop:=iV a=true
def dY (a:Sc) (b:Nat):Prop:=[Y1 a,.cells 42 [.vec 2 (lY b a)],.vec (OJ (sU b a)) 1,h68q6]=Y3 a
def dX (a:Sc) (b:Nat) (c:Nat):Prop:=al a - b<al a - c
def mM (a:Sc) (b:Nat×Nat):ON D:=w8 (lX a b) (N1 (yz b)) 1 (Mx [OH .i64 0])
def Y6 (a:Nat×Nat) (b:Sc):Prop:=N1 (yz a)<OJ (mM b a)
def Y7 (a:Nat×Nat) (b:Sc):Prop:=0<=yz a/\Y6 a b
def qp (a:Sc) (b:Nat×Nat):ON D:=w8 (mM a b) (N1 (yz b)) 0 (Mx [N7 (OH .i64 (Nl .i64 (NO (Nz (z1 (mM a b) (N1 (yz b)) 0) default)+1)),OG)])
def Y8 (a:Nat×Nat) (b:Sc):Prop:=N1 (yz a)<OJ (qp b a)
def Y9 (a:Nat×Nat) (b:Sc):Prop:=0<=yz a/\Y8 a b
theorem h68 (s:Sc) (hs:xg s=0) (hb:(xj s.pls s.lessons.length).length<=1048576): Nn Tryz.prog G 68 [.yld 3,.iptr [.sl (s.slots.map Nx),.sl (s.rooms.map N6),.sl (s.people.map N9),.sl (s.groups.map Ny),.sl (s.lessons.map N8)]] (hA s []) (λ_ H'=>H'=hA s (xj s.pls s.lessons.length)):=by
 refine zg (LL [(1,ui (α:=Nat) Tryz.prog G (λk=>LL [(3,zT (α:=Nat×Nat) Tryz.prog G L0 4 (zz (zz (z6 Tryz.f68) 0) 0) [0,1,3] (λx=>s.Odo k x.1 x.2) (λx=>x.1) (λx=>[(4,.d (.int .i64 ((x.1:Int) - 1)))]) (λ_ x=>hA s ((xj s.pls s.lessons.length).take (k+1))++[.arr 2 ((s.od x.1 x.2).map Nr)]))]) 4 (zz (z6 Tryz.f68) 0) [0,1,3] (λk=>k<(xj s.pls s.lessons.length).length) (λk=>(xj s.pls s.lessons.length).length - k) (λ_=>[]) (λ_ k=>hA s ((xj s.pls s.lessons.length).take k)++[.arr 2 ((s.wk k).map Nr)]))]) Tryz.func68 rfl ⟨[],_,rfl⟩ (zm (yI mixed (λ_=>zm zy))) ?_;apply @z7 _ ((iX s=iX s/\0<=iX s/\iX s<=1000000000/\(↑16:Int)*iX s<=281474976710656)/\∃(x0:Nat),mP x0 s/\(iW s/\mO s/\([]=OM wh (NW x0 (wP s))/\OG)/\0=OJ (NW x0 (wP s))/\h68q10/\M4 (N1 (iX s)) (NY (Mx [OH .i64 0,.int .i64 0]))=mN s x0/\OG)/\∀(x:Nat),mP x s->Mo Tryz.prog G 3 [MP 4] [Y1 s,.cells 42 [.vec 2 (OM wh (NW x (wP s)))],.vec (OJ (NW x (wP s))) 1,h68q6,.arr 2 (mN s x)] λ(rs:ON D) (H':ON Box)=>∃(b:Bool),rs=[OD b]/\∃(l:ON D)(l_1:ON D)(l_2:ON D)(l_3:ON D)(l_4:ON D)(l_5:ON D)(n:Nat)(pend:OK Np)(st:NQ)(ds:ON D),H'=[Y2 l l_1 l_2 l_3 l_4,.cells 42 [.vec 2 l_5],.vec n 1,dZ pend st,.arr 2 ds]/\((!b)=true->[Y2 l l_1 l_2 l_3 l_4,.cells 42 [.vec 2 l_5],.vec n 1,dZ pend st]=Y3 s)/\((!b)=false->∃(x0:Nat×Nat),Sc.Odo s x (N7 x0) (NV x0)/\((NE 3=NE 3/\da s/\MP 4=MP 4/\Nl .i64 ((↑(OJ ds):Int) - 1)=yz x0/\OG)/\(l=oe s/\l_1=oc s/\l_2=OM N9 (Nd s)/\l_3=OM Ny (Nb s)/\l_4=ff s/\OG)/\(l_5=lY x s/\OG)/\n=OJ (sU x s)/\dZ pend st=h68q6/\ds=uV s x0/\OG)/\∀(x_1:Nat×Nat),Sc.Odo s x (N7 x_1) (NV x_1)->(decide (yz x_1>=0)=true->(0<=yz x_1/\N1 (yz x_1)<OJ (uV s x_1))/\(z1 (uV s x_1) (N1 (yz x_1)) 1=some (OH .i64 (NO (Nz (z1 (uV s x_1) (N1 (yz x_1)) 1) default)))/\OG)/\(0<=yz x_1/\N1 (yz x_1)<OJ (uV s x_1))/\N1 (yz x_1)<OJ (uV s x_1)/\Y5 x_1 s/\(z1 (lX s x_1) (N1 (yz x_1)) 1=some (OH .i64 (NO (Nz (z1 (lX s x_1) (N1 (yz x_1)) 1) default)))/\OG)/\(decide (NO (Nz (z1 (lX s x_1) (N1 (yz x_1)) 1) default)<(↑(OJ (oc s)):Int))=true->(Xu x_1->dY s x)/\(iV x_1=false->∃(y:Nat),mP y s/\dX s y x/\iW s/\mO s/\(lY x s=OM wh (NW y (wP s))/\OG)/\OJ (sU x s)=OJ (NW y (wP s))/\h68q10/\lX s x_1=mN s y/\OG))/\(decide (NO (Nz (z1 (lX s x_1) (N1 (yz x_1)) 1) default)<(↑(OJ (oc s)):Int))=false->Y5 x_1 s/\Y4 x_1 s/\Y7 x_1 s/\(z1 (mM s x_1) (N1 (yz x_1)) 0=some (OH .i64 (NO (Nz (z1 (mM s x_1) (N1 (yz x_1)) 0) default)))/\OG)/\Y7 x_1 s/\Y6 x_1 s/\Y9 x_1 s/\(z1 (qp s x_1) (N1 (yz x_1)) 0=some (OH .i64 (NO (Nz (z1 (qp s x_1) (N1 (yz x_1)) 0) default)))/\OG)/\(decide (NO (Nz (z1 (qp s x_1) (N1 (yz x_1)) 0) default)<(↑(OJ (oe s)):Int))=true->(Xu x_1->dY s x)/\(iV x_1=false->∃(y:Nat),mP y s/\dX s y x/\iW s/\mO s/\(lY x s=OM wh (NW y (wP s))/\OG)/\OJ (sU x s)=OJ (NW y (wP s))/\h68q10/\qp s x_1=mN s y/\OG))/\(decide (NO (Nz (z1 (qp s x_1) (N1 (yz x_1)) 0) default)<(↑(OJ (oe s)):Int))=false->Y9 x_1 s/\Y8 x_1 s/\∃(y:Nat×Nat),Sc.Odo s x (N7 y) (NV y)/\N7 y<N7 x_1/\(NE 3=NE 3/\da s/\MP 4=MP 4/\Nl .i64 (yz x_1 - 1)=yz y/\OG)/\mO s/\(lY x s=lY x s/\OG)/\OJ (sU x s)=OJ (sU x s)/\h68q10/\w8 (qp s x_1) (N1 (yz x_1)) 0 (Mx [OH .i64 0])=uV s y/\OG)))/\(decide (yz x_1>=0)=false->(Xu x_1->dY s x)/\(iV x_1=false->∃(y:Nat),mP y s/\dX s y x/\iW s/\mO s/\(lY x s=OM wh (NW y (wP s))/\OG)/\OJ (sU x s)=OJ (NW y (wP s))/\h68q10/\uV s x_1=mN s y/\OG))))
 ·kernel_rfl
 delta iX ff mP al wP iW da T8 oe oc mO h68q10 h68q6 h68q2 mN Y1 og iY S3 S4 Y2 dZ Y3 yz lY sU uV Y5 Y4 lX Xu iV dY dX Y7 Y6 mM Y9 Y8 qp;obtain⟨_,hS1,hS2,hR1,hR2,_,_,hL⟩:=jH hs;have hS:0<s.slots.length:=by omega
 have hR:0<s.rooms.length:=by omega
 have hSR:s.slots.length*s.rooms.length<1099511627776:=by have:=Em hS2 hR2;omega
 have hwk:∀k,k<(xj s.pls s.lessons.length).length->(xj s.pls s.lessons.length)[k]? = some (s.wk k)/\(s.wk k).length=s.lessons.length:=λk hk=>SL hk;refine⟨⟨by omega,by rw[Nv];omega,by rw[Nv];omega⟩,0,TA hS hR,?_,λk hk=>?_⟩
 ·have e1:M4 ((OM N8 s.lessons).length:Int).toNat (NY [.int .i64 0,.int .i64 0])=OM Nr (s.wk 0):=by unfold Sc.wk;rw[UW hS hR,I9,Nv,M1];rfl
  and_intros<;>first|exact e1|rfl|trivial
 obtain⟨hkg,hkl⟩:=hwk k hk;have htl:((xj s.pls s.lessons.length).take k).length=k:=by rw[Kr];omega
 refine(PA (G:=G) s ((xj s.pls s.lessons.length).take k) (s.wk k) (by omega) (by omega)).mono ?_;rintro rs H' ⟨rfl,rfl⟩;rw[←yp hkg];refine⟨true,rfl,_,_,_,_,_,_,_,_,_,_,rfl,λh=>No h (by decide),λ_=>⟨(s.lessons.length,k+1),?_,?_,λy hy=>?_⟩⟩
 ·have h:=F1 (s:=nA (s.slots.length*s.rooms.length)) (bs:=oz s.lessons.length) (k:=k) (by
   have:(xj s.pls s.lessons.length).length=(zb (nA (s.slots.length*s.rooms.length)) (oz s.lessons.length)).length:=by show(xj (uF _ _) _).length=_;rw[ud,Nv]
   omega)
  rw[sm]at h;exact h
 ·have e1:Nl .i64 (((OM Nr (s.wk k)).length:Nat) - 1:Int)=((s.lessons.length:Nat):Int) - 1:=by rw[Nv,hkl];exact zu (by omega) (by omega)
  have e2:OM Nr (s.wk k)=OM Nr (s.od s.lessons.length (k+1)):=by have h:=qX (s:=nA (s.slots.length*s.rooms.length)) (bs:=oz s.lessons.length) k;rw[sm]at h;unfold Sc.wk Sc.od;rw[h]
  and_intros<;>first|exact e1|exact e2|rfl|trivial
 obtain⟨x1,q⟩:=y;cases x1 with
 |zero =>
  have hl:=F9 hy;have hlen:(xj s.pls s.lessons.length).length=(zb (nA (s.slots.length*s.rooms.length)) (oz s.lessons.length)).length:=by show(xj (uF _ _) _).length=_;rw[ud,Nv]
  have htk:(xj s.pls s.lessons.length).take (k+1)=xj s.pls s.lessons.length:=MY (by omega);refine⟨λh=>by simp at h,λ_=>⟨λ_=>?_,λh=>by simp at h⟩⟩;rw[htk]
 |succ x =>
  obtain⟨a,b,ha,hb2,hxL,hz,hst1,hst2,hcar⟩:=SM hS hR hSR hy;have hlenO:(s.od (x+1) q).length=s.lessons.length:=by unfold Sc.od;rw[Nv,kq hy,sm]
  change (s.od (x+1) q)[x]? = _ at hz;have ex:((x+1:Nat):Int) - 1=(x:Int):=by omega
  have ei (n:Int):NO (Nz (some (OH .i64 n)) default)=n:=rfl;have hdm:decide ((x:Int)>=0)=true:=by simp
  have hdn:decide ((x:Int)<0)=false:=by simp
  have hwb:Nl .i64 ((b:Int)+1)=((b+1:Nat):Int):=by rw[zu (by omega) (by omega)];rfl
  have hwa:Nl .i64 ((a:Int)+1)=((a+1:Nat):Int):=by rw[zu (by omega) (by omega)];rfl
  have hset:∀p:Pl,((s.od (x+1) q).set x p)[x]? = some p:=λp=>by rw[LQ];simp[hlenO,hxL]
  have hss:∀p r:Pl,((s.od (x+1) q).set x p).set x r=(s.od (x+1) q).set x r:=λp r=>ON.set_set ..;have hsl:∀p:Pl,(OM Nr ((s.od (x+1) q).set x p)).length=s.lessons.length:=λp=>by rw[Nv,ON.length_set,hlenO]
  have hl0:(OM Nr (s.od (x+1) q)).length=s.lessons.length:=by rw[Nv,hlenO]
  have c1:z1 (OM Nr (s.od (x+1) q)) x 1=some (.int .i64 b):=vV hz;have c2:z1 (OM Nr ((s.od (x+1) q).set x ⟨(a:Int),((b+1:Nat):Int)⟩)) x 1=some (.int .i64 ((b+1:Nat):Int)):=vV (hset _);have c3:z1 (OM Nr ((s.od (x+1) q).set x ⟨(a:Int),0⟩)) x 0=some (.int .i64 a):=vW (hset _);have c4:z1 (OM Nr ((s.od (x+1) q).set x ⟨((a+1:Nat):Int),0⟩)) x 0=some (.int .i64 ((a+1:Nat):Int)):=vW (hset _);have p1:w8 (OM Nr (s.od (x+1) q)) x 1 [((OH .i64 ((b+1:Nat):Int),OG):D×Prop).1].reverse=OM Nr ((s.od (x+1) q).set x ⟨(a:Int),((b+1:Nat):Int)⟩):=fw (s.od (x+1) q) x _ ((b+1:Nat):Int) hz;have p2:w8 (OM Nr ((s.od (x+1) q).set x ⟨(a:Int),((b+1:Nat):Int)⟩)) x 1 [OH .i64 0].reverse=OM Nr ((s.od (x+1) q).set x ⟨(a:Int),0⟩):=(fw _ x _ 0 (hset ⟨(a:Int),((b+1:Nat):Int)⟩)).trans (by rw[hss]);have p3:w8 (OM Nr ((s.od (x+1) q).set x ⟨(a:Int),0⟩)) x 0 [((OH .i64 ((a+1:Nat):Int),OG):D×Prop).1].reverse=OM Nr ((s.od (x+1) q).set x ⟨((a+1:Nat):Int),0⟩):=(fu _ x _ ((a+1:Nat):Int) (hset ⟨(a:Int),0⟩)).trans (by rw[hss]);have p4:w8 (OM Nr ((s.od (x+1) q).set x ⟨((a+1:Nat):Int),0⟩)) x 0 [OH .i64 0].reverse=OM Nr ((s.od (x+1) q).set x ⟨0,0⟩):=(fu _ x _ 0 (hset ⟨((a+1:Nat):Int),0⟩)).trans (by rw[hss]);rw[ex,M1,hdm,hdn,c1,ei,hwb,p1,c2,ei,p2,c3,ei,hwa,p3,c4,ei,p4,hl0,hsl,hsl,hsl,Nv,Nv];refine⟨λ_=>⟨⟨by omega,hxL⟩,⟨rfl,trivial⟩,⟨by omega,hxL⟩,hxL,⟨by omega,hxL⟩,⟨rfl,trivial⟩,λh1=>⟨λh=>No h (by decide),λ_=>?_⟩,λh1=>?_⟩,λh=>No h (by decide)⟩
  ·obtain⟨o1,o2⟩:=hst1 (by have:=M3 h1;omega);refine⟨k+1,o1,by have:k+1<(xj s.pls s.lessons.length).length:=o1;omega,?_⟩;have e2:=Mz (OM Nr) o2;and_intros<;>first|exact e2|rfl|trivial
  ·have hbR:b+1=s.rooms.length:=by have:=of_decide_eq_false h1;omega
   refine⟨⟨by omega,hxL⟩,hxL,⟨by omega,hxL⟩,⟨rfl,trivial⟩,⟨by omega,hxL⟩,hxL,⟨by omega,hxL⟩,⟨rfl,trivial⟩,λh2=>⟨λh=>No h (by decide),λ_=>?_⟩,λh2=>?_⟩
   ·obtain⟨o1,o2⟩:=hst2 hbR (by have:=M3 h2;omega);refine⟨k+1,o1,by have:k+1<(xj s.pls s.lessons.length).length:=o1;omega,?_⟩;have e2:=Mz (OM Nr) o2;and_intros<;>first|exact e2|rfl|trivial
   ·obtain⟨q',o1,o2⟩:=hcar hbR (by have:=of_decide_eq_false h2;omega);refine⟨⟨by omega,hxL⟩,hxL,(x,q'),o1,by omega,?_⟩;have e1:Nl .i64 ((x:Int) - 1)=(x:Int) - 1:=zu (by omega) (by omega);have e2:=Mz (OM Nr) o2;and_intros<;>first|exact e1|exact e2|rfl|trivial
end
theorem aj (s:Sc) (n:Nat):(xj s.pls n).length=(s.slots.length*s.rooms.length) ^ n:=by rw[bV];unfold Sc.pls;rw[TF]
theorem S5 {s:Sc}(hS:0<s.slots.length) (hR:0<s.rooms.length) (m:Nat):tl s (m:Int)=decide (m<(s.slots.length*s.rooms.length) ^ s.lessons.length):=by
 have hc:0<s.slots.length*s.rooms.length:=GV hS hR;unfold tl;have hp:=aj s;generalize s.slots.length*s.rooms.length=c at *;have ht:(m:Int).tdiv (c:Int)=((m / c:Nat):Int):=by rw[HF (by omega),C7]
 rw[ht,MG,L4,NR,NR,Jb,hp];constructor
 ·rintro (⟨y,hy,h⟩|h)
  ·rw[NR,hp]at h;have h1:m / c<c ^ y:=by omega
   rw[Nat.div_lt_iff_lt_mul hc]at h1;have h3:c ^ (y+1)=c ^ y*c:=EZ c y;rw[←h3]at h1;have h2:c ^ (y+1)<=c ^ s.lessons.length:=Nat.pow_le_pow_right hc (by have:=ON.mem_range.1 hy;omega);omega
  ·omega
 ·intro h;right;omega
section
variable {G:Nat->OK (ON D)}{M:Mk}
def wn (a:Sc):ON D:=OM N8 (Nj a)
def dW (a:Sc):ON D:=[OE (OM Nx (Ni a)),.sl (OM N6 (Nh a)),.sl (OM N9 (Nd a)),.sl (OM Ny (Nb a)),.sl (wn a)]
def Yz (a:Sc):ON D:=[NY (dW a)]
def oa (a:Sc) (b:Int):ON D:=[OE (OM wh (N7 (zB a b))),.int .i64 (NV (zB a b))]
def mL (a:Int) (b:Sc) (c:Nat):Int:=(↑(N1 a / (OJ (Ni b)*OJ (Nh b)) ^ c):Int)
def Yy (a:Sc):Prop:=OM Nx (Ni a)=OM Nx (Ni a)/\OM N6 (Nh a)=OM N6 (Nh a)/\OM N9 (Nd a)=OM N9 (Nd a)/\OM Ny (Nb a)=OM Ny (Nb a)/\wn a=wn a/\OG
def Yx (a:Sc):Prop:=Yy a/\(([]:ON D)=[]/\OG)/\OG
def Yw (a:Sc):Int:=Nl .i64 ((↑(OJ (OM Nx (Ni a))):Int)*(↑(OJ (OM N6 (Nh a))):Int))
def h13aq1:ON AV:=[OI,.any,.ptr 0 0,.any,.ptr 1 0,.any,.any,.any,.any,.any,.any,.any,.any,.any,.any,.any,.any,.any,.any,.any,.any,.any,.any,.any,.any,.any,.any,.any,.any,.any,.any,.any,.any,.any,.any,.any,.any,.any,.any,.any,.any,.any,.any,.any]
theorem S6 (hG:∃m,G 4=some [.int .i64 m]) (s:Sc) (most:Int) (hs:s.Fits) (hm:most<=1048576):OB Tryz.prog G 13 [s.d,.int .i64 most] (· = [.sl ((zB s most).1.map wh),.int .i64 (zB s most).2]):=by
 have h26:=h26 (G:=G) hG s hs;have h27:=h27 (G:=G) s;rw[zf]at *;refine zr (LL [(8,zT (α:=Nat) Tryz.prog G L0 0 (zz (z6 Tryz.f13) 0) [1,2,4,5,17,18] (λx=>x<=s.lessons.length) (λx=>s.lessons.length - x) (λx=>[(6,.d (.int .i64 ((most.toNat / (s.slots.length*s.rooms.length) ^ x:Nat):Int))),(19,.d (.int .i64 x))]) (λH _=>H)),(1000013,Re 0 [2,4,5] [] (λH=>[H.getD 0 .dead,.cells 42 [.vec 2 []],.vec 0 1]) (vI Tryz.prog G [2,4] (λds=>.clo 68 [] [.iptr (ds.getD 0 default).cells]) c13a))]) Tryz.func13 ⟨_,rfl⟩ (lE zy (Z0 (yL (by kernel_rfl)))) ?_;apply @z7 _ (OB Tryz.prog G 26 (Yz s) λ(rs:ON D)=>∃(n:Int),rs=[OH .i64 n]/\((n != 0)=true->[OE [],.int .i64 n]=oa s most)/\((n != 0)=false->(decide (most<0)=true->[OE [],.int .i64 1]=oa s most)/\(decide (most<0)=false->∃(x0:Nat),x0<=OJ (Nj s)/\((most=most/\N5 0 0=N5 0 0/\N5 1 0=N5 1 0/\n=n/\most=mL most s x0/\wn s=wn s/\(↑(OJ (wn s)):Int)=(↑(OJ (wn s)):Int)/\(0:Int)=(x0:Int)/\OG)/\Yx s)/\∀(x:Nat),x<=OJ (Nj s)->(decide ((x:Int)<(↑(OJ (wn s)):Int))=true->(Yw s=0->False)/\∃(y:Nat),y<=OJ (Nj s)/\OJ (Nj s) - y<OJ (Nj s) - x/\(most=most/\N5 0 0=N5 0 0/\N5 1 0=N5 1 0/\n=n/\Nl .i64 (Int.tdiv (mL most s x) (Yw s))=mL most s y/\wn s=wn s/\(↑(OJ (wn s)):Int)=(↑(OJ (wn s)):Int)/\Nl .i64 ((x:Int)+1)=(y:Int)/\OG)/\Yx s)/\(decide ((x:Int)<(↑(OJ (wn s)):Int))=false->((mL most s x==0)=true->[OE [],.int .i64 2]=oa s most)/\((mL most s x==0)=false->((N5 0 0=N5 0 0/\N5 1 0=N5 1 0/\n=n/\OG)/\Yy s/\((([]:ON D)=[]/\OJ ([]:ON D)<=0)/\OG)/\OG)/\(Lz Tryz.prog G 27 (Yz s) λ(av:AV)=>av=Ml 68 [] [Ma (dW s)])/\Nn Tryz.prog G 68 [NE 3,.iptr (dW s)] [Ns 28 [.d (.sl (OM Nx (Ni s))),.d (.sl (OM N6 (Nh s))),.d (.sl (OM N9 (Nd s))),.d (.sl (OM Ny (Nb s))),.d (.sl (wn s))], .cells 42 [.vec 2 []],.vec 0 1,.loop h13aq1 (ze c13a) (zo c13a) (zc c13a) none Mg] λ(x:ON D) (H':ON Box)=>∃(l:ON D)(l_1:ON D)(l_2:ON D)(l_3:ON D)(l_4:ON D)(l_5:ON D)(n_1:Nat)(pend:OK Np)(st:NQ),H'=[Ns 28 [.d (.sl l),.d (.sl l_1),.d (.sl l_2),.d (.sl l_3),.d (.sl l_4)],.cells 42 [.vec 2 l_5],.vec n_1 1,.loop h13aq1 (ze c13a) (zo c13a) (zc c13a) pend st]/\st≠J3/\(pend=none/\[OE l_5,.int .i64 n]=oa s most∨pend=some Lg/\[OE l_5,.int .i64 n]=oa s most∨pend=some (Jk (aa c13a))/\[OE l_5,.int .i64 n]=oa s most))))))
 ·kernel_rfl
 delta Yz dW wn oa mL Yx Yy Yw h13aq1;refine h26.use ⟨_,rfl,λh=>?_,λh=>⟨λh2=>?_,λh2=>?_⟩⟩
 ·rw[zB,Nf (by simpa using h)];rfl
 ·have h0:xg s=0:=by simpa using h
  rw[zB,N2 (by simp[h0]),Nf (M3 h2)];rfl
 have h0:xg s=0:=by simpa using h
 have hm0:0<=most:=by have:=of_decide_eq_false h2;omega
 obtain⟨_,c1,c2,c3,c4,_,_,c5⟩:=jH h0;have hN1:1<=s.slots.length*s.rooms.length:=Em c1 c3;have hN2:s.slots.length*s.rooms.length<=1600:=Em c2 c4;have hw:Nq.wrap (((OM Nx s.slots).length:Int)*((OM N6 s.rooms).length:Int))=((s.slots.length*s.rooms.length:Nat):Int):=by rw[Nv,Nv,←Int.natCast_mul,zu (by omega) (by omega)]
 have hall:zB s most=if tl s most then([],2)else(xj s.pls s.lessons.length,0):=by rw[zB,N2 (by simp[h0]),N2 (by omega)]
 have hmn:most=((most.toNat:Nat):Int):=by omega
 have hbad:tl s most=decide (most.toNat<(s.slots.length*s.rooms.length) ^ s.lessons.length):=by rw[←S5 (by omega) (by omega),←hmn]
 have hle:most.toNat<=1048576:=by omega
 have h68:=h68 (G:=G) s h0;rw[aj]at h68;rw[hw,h0,hall,hbad];generalize hN:s.slots.length*s.rooms.length=N at *;generalize hmm:most.toNat=m at *;refine⟨0,by omega,?_,λx hx=>⟨λhlt=>⟨λh3=>by omega,x+1,?_,?_,?_⟩,λhge=>?_⟩⟩
 ·have e0:most=((m / N ^ 0:Nat):Int):=by rw[Nat.pow_zero,Nat.div_one];exact hmn
  and_intros<;>first|exact e0|rfl|trivial
 ·have:=M3 hlt;rw[Nv]at this;omega
 ·have:=M3 hlt;rw[Nv]at this;omega
 ·have hdl:m / N ^ x<=m:=Cv _ _;have hd2:m / N ^ x / N<=m / N ^ x:=Cv _ _;have hL:=hs.lessons;have e1:Nl .i64 (((m / N ^ x:Nat):Int).tdiv (N:Int))=((m / N ^ (x+1):Nat):Int):=by rw[EZ,←Nat.div_div_eq_div_mul];generalize m / N ^ x=z at hdl hd2 ⊢;rw[HF (Int.natCast_nonneg z),←C7];generalize z / N=v at hd2 ⊢;exact zu (by omega) (by omega)
  have e2:Nl .i64 ((x:Int)+1)=((x+1:Nat):Int):=by rw[zu (by omega) (by omega)];rfl
  and_intros<;>first|exact e1|exact e2|rfl|trivial
 ·have hge:=of_decide_eq_false hge;rw[Nv]at hge;have hxe:x=s.lessons.length:=by omega
  subst hxe;have hpw:0<N ^ s.lessons.length:=Nat.pow_pos (by omega);refine⟨λh3=>?_,λh3=>⟨by and_intros<;>first|rfl|trivial|exact MS _,h27,?_⟩⟩
  ·have h4:((m / N ^ s.lessons.length:Nat):Int)=0:=eq_of_beq h3;have h5:m<N ^ s.lessons.length:=by
    rcases M0 m (N ^ s.lessons.length)with h|h
    ·exact h
    ·have:=Nat.div_pos h hpw;omega
   rw[Nf (decide_eq_true h5)];rfl
  ·have h4:¬ m<N ^ s.lessons.length:=λh5=>by rw[Hn h5]at h3;cases h3
   refine(h68 (by omega)).mono ?_;rintro rs H' rfl;rw[N2 (by rw[NR];exact h4)];exact⟨_,_,_,_,_,_,_,_,_,rfl,by decide,.inl ⟨rfl,rfl⟩⟩
end
def c11a:Np:=unScope (zz (z6 Tryz.f11) 0)
def tm11a:ON AV:=[.any,.any,.ptr 0 0,.ptr 1 0,.ptr 2 0,.any,.any,.any,.any,.any]
def hN (p:Pn) (old:ON Pl):ON Box:=[.cells 32 (an p),.cells 35 [.d (.sl (old.map Nr))],.cells 4 [.d (.bool false)],.loop tm11a (ze c11a) (zo c11a) (zc c11a) none .ready]
def O0 (p:Pn) (old:ON Pl):ON Box:=[.cells 32 (an p),.cells 35 [.d (.sl (old.map Nr))],.cells 4 [.d (.bool false)],.loop tm11a (ze c11a) (zo c11a) (zc c11a) (some .ret) .done]
def c9a:Np:=unScope (zz (z6 Tryz.f9) 0)
def tm9a:ON AV:=[.any,.any,.any,.ptr 0 0,.ptr 1 0,.ptr 2 0,.ptr 3 0,.any,.ptr 4 0,.ptr 5 0,.any,.any,.any,.any,.any,.any,.any,.any,.any,.any,.any,.any,.any,.any,.any,.any,.any,.any,.any,.any,.any,.any,.any,.any,.any,.any,.any,.any,.any,.any,.any,.any,.any,.any,.any,.any,.any,.any,.any,.any,.any,.any]
def Rl (p:Pn) (old w:ON Pl):ON Box:=[.cells 32 (an p),.cells 35 [.d (.sl (old.map Nr))],.cells 35 [.d (.sl (w.map Nr))],.cells 4 [.d (.bool false)],.cells 3 [.d (.int .i64 (zH p w).2)],.cells 3 [.d (.int .i64 (xX p old w))],.loop tm9a (ze c9a) (zo c9a) (zc c9a) none .ready]
def SJ (p:Pn) (old w:ON Pl):ON Box:=[.cells 32 (an p),.cells 35 [.d (.sl (old.map Nr))],.cells 35 [.d (.sl (w.map Nr))],.cells 4 [.d (.bool false)],.cells 3 [.d (.int .i64 (zH p w).2)],.cells 3 [.d (.int .i64 (xX p old w))],.loop tm9a (ze c9a) (zo c9a) (zc c9a) (some .ret) .done]
def wI (_:ON Pl):Bool:=true
theorem Qr (b:Bool) (X Y:ON Box):∃rs H',(b=true->rs=[OD false]/\H'=X)/\(b=false->rs=[OD true]/\H'=Y):=by
 cases b
 ·refine⟨[.bool true],Y,⟨λh=>?_,λ_=>⟨rfl,rfl⟩⟩⟩;cases h
 ·refine⟨[.bool false],X,⟨λ_=>⟨rfl,rfl⟩,λh=>?_⟩⟩;cases h
theorem Sj (b:Bool) (X Y:ON Box):∃(rs:ON D) (H':ON Box),rs=[]/\(b=true->H'=X)/\(b=false->H'=Y):=by
 cases b
 ·refine⟨[],Y,rfl,λh=>?_,λ_=>rfl⟩;cases h
 ·refine⟨[],X,rfl,λ_=>rfl,λh=>?_⟩;cases h
section
variable {G:Nat->OK (ON D)}{M:Mk}
def iU (a:Pn) (b:ON Pl):AV:=Ml 52 [] [Ma [.sl (OM Nx (Ni (NT a))),.sl (OM N6 (Nh (NT a))),.sl (OM N9 (Nd (NT a))),.sl (OM Ny (Nb (NT a))),.sl (OM N8 (Nj (NT a))),.sl (OM Na (Lu a)),.sl (OM intD (ML a))],.iptr [.sl (OM Nr b)]]
theorem h22 (p:Pn) (old:ON Pl):Lz Tryz.prog G 22 [p.d,wh old] (· = .clo 52 [] [.iptr [.sl (p.sc.slots.map Nx),.sl (p.sc.rooms.map N6),.sl (p.sc.people.map N9),.sl (p.sc.groups.map Ny),.sl (p.sc.lessons.map N8),.sl (p.rules.map Na),.sl (p.frozen.map intD)],.iptr [.sl (old.map Nr)]]):=by
 rw[yc,yq];refine IH (fn:=Tryz.f22) (code:=z6 Tryz.f22) mixed L0 Tryz.func22 (by kernel_rfl) u3 ?_;apply @z7 _ (iU p old=iU p old)
 ·kernel_rfl
 delta iU;rfl
def dV (a:Pn) (b:ON Pl):ON Box:=[Ns 32 [.d (.sl (OM Nx (Ni (NT a)))),.d (.sl (OM N6 (Nh (NT a)))),.d (.sl (OM N9 (Nd (NT a)))),.d (.sl (OM Ny (Nb (NT a)))),.d (.sl (OM N8 (Nj (NT a)))),.d (.sl (OM Na (Lu a))),.d (.sl (OM intD (ML a)))],.cells 35 [.d (.sl (OM Nr b))],.cells 4 [.d (.bool false)],.loop [OI,.any,.ptr 0 0,.ptr 1 0,.ptr 2 0,.any,.any,.any,.any,.any] (ze c11a) (zo c11a) (zc c11a) (some Lg) J4]
theorem O1 (p:Pn) (old v:ON Pl) (n:Int):Mo Tryz.prog G 3 [.d (wh v),.d (.int .i64 n)] (hN p old) (λrs H'=>rs=[.bool false]/\H'=O0 p old):=by
 refine Jl (tm:=tm11a) (ps:=ze c11a) (asn:=zo c11a) (bd:=zc c11a) mixed L0 rfl (by kernel_rfl) rfl rfl ⟨_,_,rfl,rfl⟩ (λ_=>nC (by kernel_rfl)) (λ_=>nC (by kernel_rfl)) ?_;apply @z7 _ ([OD false]=[OD false]/\dV p old=dV p old)
 ·kernel_rfl
 delta dV;exact⟨rfl,rfl⟩
def iT (a:Pn) (b:ON Pl) (c:ON Pl) (d:Int) (e:ON Pl):Bool:=bif decide (NV (zH a b)<NV (zH a c))then true else bif NV (zH a b)==NV (zH a c)then decide (d<xX a e c)else false
def yBeq4:ON D:=[OD false]
def nO (a:Pn):Box:=Ns 32 [.d (.sl (OM Nx (Ni (NT a)))),.d (.sl (OM N6 (Nh (NT a)))),.d (.sl (OM N9 (Nd (NT a)))),.d (.sl (OM Ny (Nb (NT a)))),.d (.sl (OM N8 (Nj (NT a)))),.d (.sl (OM Na (Lu a))),.d (.sl (OM intD (ML a)))]
def sI (a:ON Pl):Box:=Ns 35 [.d (.sl (OM Nr a))]
def iS (a:Pn) (b:ON Pl):Box:=Ns 3 [.d (.int .i64 (NV (zH a b)))]
def yBeq8:ON AV:=[OI,.any,.any,.ptr 0 0,.ptr 1 0,.ptr 2 0,.ptr 3 0,.any,.ptr 4 0,.ptr 5 0,.any,.any,.any,.any,.any,.any,.any,.any,.any,.any,.any,.any,.any,.any,.any,.any,.any,.any,.any,.any,.any,.any,.any,.any,.any,.any,.any,.any,.any,.any,.any,.any,.any,.any,.any,.any,.any,.any,.any,.any,.any,.any]
def qo (a:Pn) (b:ON Pl) (c:ON Pl):ON Box:=[nO a,sI b,sI c,.cells 4 [.d (.bool false)],iS a c,.cells 3 [.d (.int .i64 (xX a b c))],.loop yBeq8 (ze c9a) (zo c9a) (zc c9a) (some Lg) J4]
def yBeq2:ON D:=[OD true]
def uE (a:Pn) (b:ON Pl) (c:ON Pl):ON Box:=[nO a,sI b,sI c,.cells 4 [.d (.bool false)],iS a c,.cells 3 [.d (.int .i64 (xX a b c))],.loop yBeq8 (ze c9a) (zo c9a) (zc c9a) none Mg]
theorem Qq (hG:∃m,G 4=some [.int .i64 m]) (p:Pn) (old w v:ON Pl) (hp:p.Fits) (ho:old.length<1099511627776) (hv:v.length<1099511627776):Mo Tryz.prog G 6 [.d (wh v),.d (.int .i64 (zH p v).2)] (Rl p old w) (λrs H'=>(yN p old w v=true->rs=[.bool false]/\H'=SJ p old w)/\(yN p old w v=false->rs=[.bool true]/\H'=Rl p old w)):=by
 have h21:=h21 (G:=G) hG p old v hp ho hv;rw[yc]at *;rw[yq,yq]at *;refine Jl (tm:=tm9a) (ps:=ze c9a) (asn:=zo c9a) (bd:=zc c9a) mixed L0 rfl (by kernel_rfl) rfl rfl (Qr _ _ _) (λ_=>nC (by kernel_rfl)) (λ_=>nC (by kernel_rfl)) ?_;apply @z7 _ (OB Tryz.prog G 21 [NY [.sl (OM Nx (Ni (NT p))),.sl (OM N6 (Nh (NT p))),.sl (OM N9 (Nd (NT p))),.sl (OM Ny (Nb (NT p))),.sl (OM N8 (Nj (NT p))),.sl (OM Na (Lu p)),.sl (OM intD (ML p))],.agg [.sl (OM Nr old)],.agg [.sl (OM Nr v)]] λ(rs:ON D)=>∃(n:Int),rs=[OH .i64 n]/\(iT p v w n old=true->(yN p old w v=true->yBeq4=yBeq4/\qo p old w=qo p old w)/\(yN p old w v=false->yBeq4=yBeq2/\qo p old w=uE p old w))/\(iT p v w n old=false->(yN p old w v=true->yBeq2=yBeq4/\uE p old w=qo p old w)/\(yN p old w v=false->yBeq2=yBeq2/\uE p old w=uE p old w)))
 ·kernel_rfl
 delta iT yBeq4 qo nO sI iS yBeq8 yBeq2 uE;refine h21.use ⟨_,rfl,?_⟩;have e:(bif decide ((zH p v).2<(zH p w).2)then true else bif (zH p v).2==(zH p w).2 then decide (xX p old v<xX p old w)else false)=yN p old w v:=by unfold yN;simp only[yi,zM]
 rw[e];refine⟨λh=>⟨λ_=>⟨rfl,rfl⟩,λh2=>?_⟩,λh=>⟨λh2=>?_,λ_=>⟨rfl,rfl⟩⟩⟩
 ·rw[h]at h2;cases h2
 ·rw[h]at h2;cases h2
def xD (a:Pn):ON D:=OM Nx (Ni (NT a))
def xC (a:Pn):ON D:=OM N6 (Nh (NT a))
def vq (a:Pn):ON D:=OM N9 (Nd (NT a))
def vo (a:Pn):ON D:=OM Ny (Nb (NT a))
def vn (a:Pn):ON D:=OM N8 (Nj (NT a))
def uD (a:Nat) (b:Pn) (c:ON Pl):Prop:=a<=OJ (N7 (zB (NT b) 4096))/\(Lv (NW a (N7 (zB (NT b) 4096))) λ(v:ON Pl)=>vG b c v&&wI v)=false
def vm (a:Pn):ON D:=[OE (xD a),.sl (xC a),.sl (vq a),.sl (vo a),.sl (vn a),.sl (OM Na (Lu a)),.sl (OM intD (ML a))]
def uC (a:Pn):AV:=Ma (vm a)
def qn (a:Pn):Prop:=uC a=uC a
def h52Nq3:ON AV:=[OI,.any,.ptr 0 0,.ptr 1 0,.ptr 2 0,.any,.any,.any,.any,.any]
def h52Nq12:Box:=M7 h52Nq3 (ze c11a) (zo c11a) (zc c11a) none Mg
def qK (a:Pn) (b:ON Pl):Prop:=(xD a=xD a/\xC a=xC a/\vq a=vq a/\vo a=vo a/\vn a=vn a/\OM Na (Lu a)=OM Na (Lu a)/\OM intD (ML a)=OM intD (ML a)/\OG)/\(OM Nr b=OM Nr b/\OG)/\(false=false/\OG)/\h52Nq12=h52Nq12/\OG
def ww (a:ON D) (b:Nat):D:=zk [NB] a (N1 (b:Int))
def vi (a:Pn) (b:ON Pl):ON Box:=[nO a,sI b,.cells 4 [.d (.bool false)],h52Nq12]
def qm (a:ON D) (b:ON D) (c:ON D) (d:ON D) (e:ON D) (f:ON D) (g:ON D) (h:ON D) (i:Bool) (j:OK Np) (k:NQ):ON Box:=[Ns 32 [.d (.sl a),.d (.sl b),.d (.sl c),.d (.sl d),.d (.sl e),.d (.sl f),.d (.sl g)],.cells 35 [.d (.sl h)],.cells 4 [.d (.bool i)],.loop h52Nq3 (ze c11a) (zo c11a) (zc c11a) j k]
def mK (a:Pn) (b:ON Pl) (c:ON D) (d:Nat) (e:Nat):Prop:=NE 3=NE 3/\qn a/\Ma [.sl (OM Nr b)]=Ma [.sl (OM Nr b)]/\c=c/\(↑(OJ c):Int)=(↑(OJ c):Int)/\Nl .i64 ((d:Int)+1)=(e:Int)/\OG
def mJ (a:Pn) (b:ON Pl):Prop:=([]:ON D)=[]/\((Lv (N7 (zB (NT a) 4096)) λ(v:ON Pl)=>vG a b v&&wI v)=true->vi a b=dV a b)/\((Lv (N7 (zB (NT a) 4096)) λ(v:ON Pl)=>vG a b v&&wI v)=false->vi a b=vi a b)
theorem O2 (hM:M.Ok) (hF:M.Fn) (m:Int) (p:Pn) (old:ON Pl) (hp:p.Fits) (ho:old.length<1099511627776) (hY:∀v:ON Pl,v.length<1099511627776->Mo Tryz.prog (GA M m) 3 [.d (wh v),.d (.int .i64 (zH p v).2)] (hN p old) (λrs H'=>(wI v=true->rs=[.bool false]/\H'=O0 p old)/\(wI v=false->rs=[.bool true]/\H'=hN p old))): Nn Tryz.prog (GA M m) 52 [.yld 3,.iptr [.sl (p.sc.slots.map Nx),.sl (p.sc.rooms.map N6),.sl (p.sc.people.map N9),.sl (p.sc.groups.map Ny),.sl (p.sc.lessons.map N8),.sl (p.rules.map Na),.sl (p.frozen.map intD)],.iptr [.sl (old.map Nr)]] (hN p old) (λrs H'=>rs=[]/\(((zB p.sc 4096).1.any λv=>vG p old v&&wI v)=true->H'=O0 p old)/\(((zB p.sc 4096).1.any λv=>vG p old v&&wI v)=false->H'=hN p old)):=by
 have h13:=S6 (G:=GA M m) (iE M m) p.sc 4096 hp.sc (by decide);have h7:=λv hv=>h7 hM hF m p v hp hv;have h20:=λv hv=>h20 hM m p old v hp ho hv;rw[yc]at *;rw[zf,yq]at *;refine zg (LL [(2,zT (α:=Nat) Tryz.prog (GA M m) L0 4 (zz (z6 Tryz.f52) 0) [0,1,2,16,17] (λi=>i<=(zB p.sc 4096).1.length/\(((zB p.sc 4096).1.take i).any λv=>vG p old v&&wI v)=false) (λi=>(zB p.sc 4096).1.length - i) (λi=>[(18,.d (.int .i64 i))]) (λH _=>H))]) Tryz.func52 rfl (Sj _ _ _) (zm zy) ?_;apply @z7 _ (OB Tryz.prog (GA M m) 13 [NY [.sl (xD p),.sl (xC p),.sl (vq p),.sl (vo p),.sl (vn p)],.int .i64 4096] λ(rs:ON D)=>∃(l:ON D)(n:Int),rs=[OE l,.int .i64 n]/\∃(x0:Nat),uD x0 p old/\((NE 3=NE 3/\qn p/\Ma [.sl (OM Nr old)]=Ma [.sl (OM Nr old)]/\l=l/\(↑(OJ l):Int)=(↑(OJ l):Int)/\(0:Int)=(x0:Int)/\OG)/\qK p old)/\∀(x:Nat),uD x p old->(decide ((x:Int)<(↑(OJ l):Int))=true->((0:Int)<=(x:Int)/\l[N1 (x:Int)]? = some (ww l x))/\OB Tryz.prog (GA M m) 7 [NY (vm p),ww l x] λ(rs:ON D)=>∃(b:Bool)(n:Int),rs=[OD b,.int .i64 n]/\OB Tryz.prog (GA M m) 20 [NY (vm p),.agg [.sl (OM Nr old)],ww l x] λ(rs:ON D)=>∃(b_1:Bool),rs = [OD b_1]/\((bif b then b_1 else false)=true->Mo Tryz.prog (GA M m) 3 [OF (ww l x),.d (.int .i64 n)] (vi p old) λ(rs:ON D) (H':ON Box)=>∃(b_2:Bool),rs=[OD b_2]/\∃(l_1:ON D)(l_2:ON D)(l_3:ON D)(l_4:ON D)(l_5:ON D)(l_6:ON D)(l_7:ON D)(l_8:ON D)(b_3:Bool)(pend:OK Np)(st:NQ),H'=qm l_1 l_2 l_3 l_4 l_5 l_6 l_7 l_8 b_3 pend st/\((bif bif b then b_1 else false then !b_2 else false)=true->([]:ON D)=[]/\((Lv (N7 (zB (NT p) 4096)) λ(v:ON Pl)=>vG p old v&&wI v)=true->qm l_1 l_2 l_3 l_4 l_5 l_6 l_7 l_8 b_3 pend st=dV p old)/\((Lv (N7 (zB (NT p) 4096)) λ(v:ON Pl)=>vG p old v&&wI v)=false->qm l_1 l_2 l_3 l_4 l_5 l_6 l_7 l_8 b_3 pend st=vi p old))/\((bif bif b then b_1 else false then !b_2 else false)=false->∃(y:Nat),uD y p old/\OJ (N7 (zB (NT p) 4096)) - y<OJ (N7 (zB (NT p) 4096)) - x/\mK p old l x y/\(l_1=xD p/\l_2=xC p/\l_3=vq p/\l_4=vo p/\l_5=vn p/\l_6=OM Na (Lu p)/\l_7=OM intD (ML p)/\OG)/\(l_8=OM Nr old/\OG)/\(b_3=false/\OG)/\M7 h52Nq3 (ze c11a) (zo c11a) (zc c11a) pend st=h52Nq12/\OG))/\((bif b then b_1 else false)=true∨((bif bif b then b_1 else false then !true else false)=true->mJ p old)/\((bif bif b then b_1 else false then !true else false)=false->∃(y:Nat),uD y p old/\OJ (N7 (zB (NT p) 4096)) - y<OJ (N7 (zB (NT p) 4096)) - x/\mK p old l x y/\qK p old)))/\(decide ((x:Int) < (↑(OJ l):Int))=false->mJ p old))
 ·kernel_rfl
 delta xD xC vq vo vn uD qn uC vm qK h52Nq12 h52Nq3 ww vi nO iT yBeq4 qo sI iS yBeq8 yBeq2 uE qm dV mK mJ;refine h13.use ⟨_,_,rfl,0,⟨by omega,rfl⟩,by and_intros<;>first|rfl|trivial,λx hx=>⟨λhlt=>?_,λhge=>?_⟩⟩
 ·simp only[Nv,NR]at hlt;obtain⟨v,hz,hm⟩:=zt (l:=(zB p.sc 4096).1) (x:=x) (by omega);have hsl:=hp.sc.lessons;have hv:v.length<1099511627776:=by rw[jD hm];exact hsl
  have hal:=jC (s:=p.sc) (m:=4096) (by decide);have e1:Nl .i64 ((x:Int)+1)=((x+1:Nat):Int):=by rw[zu (by omega) (by omega)];rfl
  have hnext:(vG p old v&&wI v)=false->(((zB p.sc 4096).1.take (x+1)).any λv=>vG p old v&&wI v)=false:=λh=>by rw[yp hz,Hl,hx.2,K7,Hf,h];rfl
  rw[M1,Zv hz];refine⟨⟨by omega,ee hz⟩,(h7 v hv).use ⟨_,_,rfl,(h20 v hv).use ⟨_,rfl,?_⟩⟩⟩;have hok:vG p old v=(bif (zH p v).1 then wU p old v else false):=by unfold vG;rw[zM]
  rw[←hok];cases hc:vG p old v with
  |false =>
   refine⟨λh=>No h (by decide),.inr ⟨λh=>No h (by decide),λ_=>⟨x+1,⟨by omega,hnext (by rw[hc];rfl)⟩,by omega,by and_intros<;>first|exact e1|rfl|trivial⟩⟩⟩
  |true =>
   refine⟨λ_=>(hY v hv).mono ?_,.inl rfl⟩;intro rs H' hq;cases hst:wI v with
   |true =>
    obtain⟨rfl,rfl⟩:=hq.1 hst;have hany:((zB p.sc 4096).1.any λv=>vG p old v&&wI v)=true:=Jb.2 ⟨v,hm,by rw[hc,hst];rfl⟩;refine⟨false,rfl,_,_,_,_,_,_,_,_,_,_,_,rfl,λ_=>⟨rfl,λ_=>rfl,λhA=>?_⟩,λh=>No h (by decide)⟩;rw[hany]at hA;cases hA
   |false =>
    obtain⟨rfl,rfl⟩:=hq.2 hst;exact⟨true,rfl,_,_,_,_,_,_,_,_,_,_,_,rfl,λh=>No h (by decide),λ_=>⟨x+1,⟨by omega,hnext (by rw[hc,hst];rfl)⟩,by omega,by and_intros<;>first|exact e1|rfl|trivial⟩⟩
 ·simp only[Nv,M2]at hge;have hx2:=hx.2;rw[MY (by omega)]at hx2;rw[hx2];exact⟨rfl,λh=>No h (by decide),λ_=>rfl⟩
def mI (a:Nat) (b:Pn) (c:ON Pl) (d:ON Pl):Prop:=a<=OJ (N7 (zB (NT b) 4096))/\(Lv (NW a (N7 (zB (NT b) 4096))) λ(v:ON Pl)=>vG b c v&&yN b c d v)=false
def h52Bq4:Box:=M7 yBeq8 (ze c9a) (zo c9a) (zc c9a) none Mg
def dU (a:Pn) (b:ON Pl) (c:ON Pl):Prop:=(xD a=xD a/\xC a=xC a/\vq a=vq a/\vo a=vo a/\vn a=vn a/\OM Na (Lu a)=OM Na (Lu a)/\OM intD (ML a)=OM intD (ML a)/\OG)/\(OM Nr b=OM Nr b/\OG)/\(OM Nr c=OM Nr c/\OG)/\(false=false/\OG)/\(NV (zH a c)=NV (zH a c)/\OG)/\(xX a b c=xX a b c/\OG)/\h52Bq4=h52Bq4/\OG
def oZ (a:Int):ON AV:=[OF (.int .i64 a)]
def mH (a:ON D) (b:ON D) (c:ON D) (d:ON D) (e:ON D) (f:ON D) (g:ON D):Box:=Ns 32 [.d (.sl a),.d (.sl b),.d (.sl c),.d (.sl d),.d (.sl e),.d (.sl f),.d (.sl g)]
def mG (a:ON D) (b:ON D) (c:Bool) (d:Int) (e:Int) (f:OK Np) (g:NQ):ON Box:=[Ns 35 [.d (.sl a)],.cells 35 [.d (.sl b)],.cells 4 [.d (.bool c)],.cells 3 (oZ d),.cells 3 (oZ e),.loop yBeq8 (ze c9a) (zo c9a) (zc c9a) f g]
def dT (a:Pn) (b:ON Pl) (c:ON D) (d:Nat) (e:Nat):Prop:=NE 6=NE 6/\qn a/\Ma [.sl (OM Nr b)]=Ma [.sl (OM Nr b)]/\c=c/\(↑(OJ c):Int)=(↑(OJ c):Int)/\Nl .i64 ((d:Int)+1)=(e:Int)/\OG
def dS (a:Pn) (b:ON Pl) (c:ON Pl):Prop:=([]:ON D)=[]/\((Lv (N7 (zB (NT a) 4096)) λ(v:ON Pl)=>vG a b v&&yN a b c v)=true->uE a b c=qo a b c)/\((Lv (N7 (zB (NT a) 4096)) λ(v:ON Pl)=>vG a b v&&yN a b c v)=false->uE a b c=uE a b c)
theorem O3 (hM:M.Ok) (hF:M.Fn) (m:Int) (p:Pn) (old w:ON Pl) (hp:p.Fits) (ho:old.length<1099511627776) (hY:∀v:ON Pl,v.length<1099511627776->Mo Tryz.prog (GA M m) 6 [.d (wh v),.d (.int .i64 (zH p v).2)] (Rl p old w) (λrs H'=>(yN p old w v=true->rs=[.bool false]/\H'=SJ p old w)/\(yN p old w v=false->rs=[.bool true]/\H'=Rl p old w))): Nn Tryz.prog (GA M m) 52 [.yld 6,.iptr [.sl (p.sc.slots.map Nx),.sl (p.sc.rooms.map N6),.sl (p.sc.people.map N9),.sl (p.sc.groups.map Ny),.sl (p.sc.lessons.map N8),.sl (p.rules.map Na),.sl (p.frozen.map intD)],.iptr [.sl (old.map Nr)]] (Rl p old w) (λrs H'=>rs=[]/\(((zB p.sc 4096).1.any λv=>vG p old v&&yN p old w v)=true->H'=SJ p old w)/\(((zB p.sc 4096).1.any λv=>vG p old v&&yN p old w v)=false->H'=Rl p old w)):=by
 have h13:=S6 (G:=GA M m) (iE M m) p.sc 4096 hp.sc (by decide);have h7:=λv hv=>h7 hM hF m p v hp hv;have h20:=λv hv=>h20 hM m p old v hp ho hv;rw[yc]at *;rw[zf,yq]at *;refine zg (LL [(2,zT (α:=Nat) Tryz.prog (GA M m) L0 7 (zz (z6 Tryz.f52) 0) [0,1,2,16,17] (λi=>i<=(zB p.sc 4096).1.length/\(((zB p.sc 4096).1.take i).any λv=>vG p old v&&yN p old w v)=false) (λi=>(zB p.sc 4096).1.length - i) (λi=>[(18,.d (.int .i64 i))]) (λH _=>H))]) Tryz.func52 rfl (Sj _ _ _) (zm zy) ?_;apply @z7 _ (OB Tryz.prog (GA M m) 13 [NY [.sl (xD p),.sl (xC p),.sl (vq p),.sl (vo p),.sl (vn p)],.int .i64 4096] λ(rs:ON D)=>∃(l:ON D)(n:Int),rs=[OE l,.int .i64 n]/\∃(x0:Nat),mI x0 p old w/\((NE 6=NE 6/\qn p/\Ma [.sl (OM Nr old)]=Ma [.sl (OM Nr old)]/\l=l/\(↑(OJ l):Int)=(↑(OJ l):Int)/\(0:Int)=(x0:Int)/\OG)/\dU p old w)/\∀(x:Nat),mI x p old w->(decide ((x:Int)<(↑(OJ l):Int))=true->((0:Int)<=(x:Int)/\l[N1 (x:Int)]? = some (ww l x))/\OB Tryz.prog (GA M m) 7 [NY (vm p),ww l x] λ(rs:ON D)=>∃(b:Bool)(n:Int),rs=[OD b,.int .i64 n]/\OB Tryz.prog (GA M m) 20 [NY (vm p),.agg [.sl (OM Nr old)],ww l x] λ(rs:ON D)=>∃(b_1:Bool),rs = [OD b_1]/\((bif b then b_1 else false)=true->Mo Tryz.prog (GA M m) 6 (OF (ww l x)::oZ n) (uE p old w) λ(rs:ON D) (H':ON Box)=>∃(b_2:Bool),rs=[OD b_2]/\∃(l_1:ON D)(l_2:ON D)(l_3:ON D)(l_4:ON D)(l_5:ON D)(l_6:ON D)(l_7:ON D)(l_8:ON D)(l_9:ON D)(b_3:Bool)(n:Int)(n_1:Int)(pend:OK Np)(st:NQ),H'=mH l_1 l_2 l_3 l_4 l_5 l_6 l_7::mG l_8 l_9 b_3 n n_1 pend st/\((bif bif b then b_1 else false then !b_2 else false)=true->([]:ON D)=[]/\((Lv (N7 (zB (NT p) 4096)) λ(v:ON Pl)=>vG p old v&&yN p old w v)=true->mH l_1 l_2 l_3 l_4 l_5 l_6 l_7::mG l_8 l_9 b_3 n n_1 pend st=qo p old w)/\((Lv (N7 (zB (NT p) 4096)) λ(v:ON Pl)=>vG p old v && yN p old w v)=false->mH l_1 l_2 l_3 l_4 l_5 l_6 l_7::mG l_8 l_9 b_3 n n_1 pend st=uE p old w))/\((bif bif b then b_1 else false then !b_2 else false)=false->∃(y:Nat),mI y p old w/\OJ (N7 (zB (NT p) 4096)) - y<OJ (N7 (zB (NT p) 4096)) - x/\dT p old l x y/\(l_1=xD p/\l_2=xC p/\l_3=vq p/\l_4=vo p/\l_5=vn p/\l_6=OM Na (Lu p)/\l_7=OM intD (ML p)/\OG)/\(l_8=OM Nr old/\OG)/\(l_9=OM Nr w/\OG)/\(b_3=false/\OG)/\(n=NV (zH p w)/\OG)/\(n_1=xX p old w/\OG)/\M7 yBeq8 (ze c9a) (zo c9a) (zc c9a) pend st=h52Bq4/\OG))/\((bif b then b_1 else false)=true∨((bif bif b then b_1 else false then !true else false)=true->dS p old w)/\((bif bif b then b_1 else false then !true else false)=false->∃(y:Nat),mI y p old w/\OJ (N7 (zB (NT p) 4096)) - y<OJ (N7 (zB (NT p) 4096)) - x/\dT p old l x y/\dU p old w)))/\(decide ((x:Int)<(↑(OJ l):Int))=false->dS p old w))
 ·kernel_rfl
 delta xD xC vq vo vn uD qn uC vm qK h52Nq12 h52Nq3 ww vi nO iT yBeq4 qo sI iS yBeq8 yBeq2 uE qm dV mK mJ mI dU h52Bq4 oZ mH mG dT dS;refine h13.use ⟨_,_,rfl,0,⟨by omega,rfl⟩,by and_intros<;>first|rfl|trivial,λx hx=>⟨λhlt=>?_,λhge=>?_⟩⟩
 ·simp only[Nv,NR]at hlt;obtain⟨v,hz,hm⟩:=zt (l:=(zB p.sc 4096).1) (x:=x) (by omega);have hsl:=hp.sc.lessons;have hv:v.length<1099511627776:=by rw[jD hm];exact hsl
  have hal:=jC (s:=p.sc) (m:=4096) (by decide);have e1:Nl .i64 ((x:Int)+1)=((x+1:Nat):Int):=by rw[zu (by omega) (by omega)];rfl
  have hnext:(vG p old v&&yN p old w v)=false->(((zB p.sc 4096).1.take (x+1)).any λv=>vG p old v&&yN p old w v)=false:=λh=>by rw[yp hz,Hl,hx.2,K7,Hf,h];rfl
  rw[M1,Zv hz];refine⟨⟨by omega,ee hz⟩,(h7 v hv).use ⟨_,_,rfl,(h20 v hv).use ⟨_,rfl,?_⟩⟩⟩;have hok:vG p old v=(bif (zH p v).1 then wU p old v else false):=by unfold vG;rw[zM]
  rw[←hok];cases hc:vG p old v with
  |false =>
   refine⟨λh=>No h (by decide),.inr ⟨λh=>No h (by decide),λ_=>⟨x+1,⟨by omega,hnext (by rw[hc];rfl)⟩,by omega,by and_intros<;>first|exact e1|rfl|trivial⟩⟩⟩
  |true =>
   refine⟨λ_=>(hY v hv).mono ?_,.inl rfl⟩;intro rs H' hq;cases hst:yN p old w v with
   |true =>
    obtain⟨rfl,rfl⟩:=hq.1 hst;have hany:((zB p.sc 4096).1.any λv=>vG p old v&&yN p old w v)=true:=Jb.2 ⟨v,hm,by rw[hc,hst];rfl⟩;refine⟨false,rfl,_,_,_,_,_,_,_,_,_,_,_,_,_,_,rfl,λ_=>⟨rfl,λ_=>rfl,λhA=>?_⟩,λh=>No h (by decide)⟩;rw[hany]at hA;cases hA
   |false =>
    obtain⟨rfl,rfl⟩:=hq.2 hst;exact⟨true,rfl,_,_,_,_,_,_,_,_,_,_,_,_,_,_,rfl,λh=>No h (by decide),λ_=>⟨x+1,⟨by omega,hnext (by rw[hc,hst];rfl)⟩,by omega,by and_intros<;>first|exact e1|rfl|trivial⟩⟩
 ·simp only[Nv,M2]at hge;have hx2:=hx.2;rw[MY (by omega)]at hx2;rw[hx2];exact⟨rfl,λh=>No h (by decide),λ_=>rfl⟩
theorem h11 (hM:M.Ok) (hF:M.Fn) (m:Int) (p:Pn) (old:ON Pl) (hp:p.Fits) (ho:old.length<1099511627776):OB Tryz.prog (GA M m) 11 [p.d,wh old] (· = [.bool (sK p old)]):=by
 have h22:=h22 (G:=GA M m) p old;rw[yc,yq]at *;refine zr (LL [(1000001,vI Tryz.prog (GA M m) [2,3,4] (λds=>.clo 52 [] [.iptr (ds.getD 0 default).cells,.iptr (ds.getD 1 default).cells]) c11a)]) Tryz.func11 ⟨_,rfl⟩ (zm (yL (by kernel_rfl))) ?_;apply @z7 _ ((Lz Tryz.prog (GA M m) 22 [NY (vm p),.agg [.sl (OM Nr old)]] λ(av:AV)=>av=iU p old)/\Nn Tryz.prog (GA M m) 52 [NE 3,uC p,.iptr [.sl (OM Nr old)]] (vi p old) λ(x:ON D) (H':ON Box)=>∃(l:ON D)(l_1:ON D)(l_2:ON D)(l_3:ON D)(l_4:ON D)(l_5:ON D)(l_6:ON D)(l_7:ON D)(b:Bool)(pend:OK Np)(st:NQ),H'=qm l l_1 l_2 l_3 l_4 l_5 l_6 l_7 b pend st/\st≠J3/\(pend=none/\yBeq2=[OD (sK p old)]∨pend=some Lg/\[OD b]=[OD (sK p old)]∨pend=some (Jk (aa c11a))/\yBeq2=[OD (sK p old)]))
 ·kernel_rfl
 delta vm xD xC vq vo vn uD qn uC qK h52Nq12 h52Nq3 ww vi nO iT yBeq4 qo sI iS yBeq8 yBeq2 uE qm dV mK mJ iU;refine⟨h22,(O2 hM hF m p old hp ho (λv _=>(O1 p old v _).mono λrs H' h=>⟨λ_=>h,λh2=>by cases h2⟩)).mono ?_⟩;intro rs H' hh;obtain⟨rfl,hA,hB⟩:=hh;have hn:sK p old = !((zB p.sc 4096).1.any λv=>vG p old v&&wI v):=by
  unfold sK;have:∀l:ON (ON Pl),(l.all λv=>!vG p old v) = !l.any λv=>vG p old v&&wI v:=λl=>by
   induction l with
   |nil=>rfl
   |cons a l ih=>rw[J7,K7,ih,GW];simp[wI]
  exact this _
 cases hb:((zB p.sc 4096).1.any λv=>vG p old v&&wI v)with
 |true =>
  obtain rfl:=hA hb;exact⟨_,_,_,_,_,_,_,_,_,_,_,rfl,by decide,.inr (.inl ⟨rfl,by rw[hn,hb];rfl⟩)⟩
 |false =>
  obtain rfl:=hB hb;exact⟨_,_,_,_,_,_,_,_,_,_,_,rfl,by decide,.inl ⟨rfl,by rw[hn,hb];rfl⟩⟩
def SI (a:Pn) (b:ON Pl):ON D:=[NY (vm a),.agg [.sl (OM Nr b)]]
def T9 (a:Pn) (b:ON Pl) (c:ON Pl):ON D:=[OD (xc a b c)]
theorem h9 (hM:M.Ok) (hF:M.Fn) (m:Int) (p:Pn) (old w:ON Pl) (hp:p.Fits) (ho:old.length<1099511627776) (hw:w.length<1099511627776):OB Tryz.prog (GA M m) 9 [p.d,wh old,wh w] (· = [.bool (xc p old w)]):=by
 have h22:=h22 (G:=GA M m) p old;have h7:=h7 hM hF m p w hp hw;have h20:=h20 hM m p old w hp ho hw;have h21:=h21 (G:=GA M m) (iE M m) p old w hp ho hw;rw[yc]at *;rw[yq]at *;rw[yq]at *;refine zr (LL [(1000005,vI Tryz.prog (GA M m) [3,4,5,6,8,9] (λds=>.clo 52 [] [.iptr (ds.getD 0 default).cells,.iptr (ds.getD 1 default).cells]) c9a)]) Tryz.func9 ⟨_,rfl⟩ (zm (yL (by kernel_rfl))) ?_;apply @z7 _ (OB Tryz.prog (GA M m) 7 (SI p w) λ(rs:ON D)=>∃(b:Bool)(n:Int),rs=[OD b,.int .i64 n]/\OB Tryz.prog (GA M m) 20 [NY (vm p),.agg [.sl (OM Nr old)],.agg [.sl (OM Nr w)]] λ(rs:ON D)=>∃(b_1:Bool),rs=[OD b_1]/\((bif !b then true else !b_1)=true->yBeq4=T9 p old w)/\((bif !b then true else !b_1)=false->OB Tryz.prog (GA M m) 21 [NY (vm p),.agg [.sl (OM Nr old)],.agg [.sl (OM Nr w)]] λ(rs:ON D)=>∃(n_1:Int),rs=[OH .i64 n_1]/\(Lz Tryz.prog (GA M m) 22 (SI p old) λ(av:AV)=>av=iU p old)/\Nn Tryz.prog (GA M m) 52 [NE 6,uC p,.iptr [.sl (OM Nr old)]] [nO p,sI old,sI w,.cells 4 [.d (.bool false)],.cells 3 (oZ n),.cells 3 (oZ n_1),h52Bq4] λ(x:ON D) (H':ON Box)=>∃(l:ON D)(l_1:ON D),∃ (l_2:ON D),∃(l_3:ON D)(l_4:ON D)(l_5:ON D)(l_6:ON D)(l_7:ON D)(l_8:ON D)(b:Bool)(n:Int)(n_2:Int)(pend:OK Np)(st:NQ),H'=mH l l_1 l_2 l_3 l_4 l_5 l_6::mG l_7 l_8 b n n_2 pend st/\st≠J3/\(pend=none/\yBeq2=T9 p old w∨pend=some Lg/\[OD b]=T9 p old w∨pend=some (Jk (aa c9a))/\yBeq2=T9 p old w)))
 ·kernel_rfl
 delta SI vm xD xC vq vo vn uD qn uC qK h52Nq12 h52Nq3 ww vi nO iT yBeq4 qo sI iS yBeq8 yBeq2 uE qm dV mK mJ T9 iU oZ mI dU h52Bq4 mH mG dT dS;refine h7.use ⟨_,_,rfl,h20.use ⟨_,rfl,λh=>?_,λh=>h21.use ⟨_,rfl,h22,(O3 hM hF m p old w hp ho (λv hv=>Qq (iE M m) p old w v hp ho hv)).mono ?_⟩⟩⟩
 ·have:vG p old w=false:=by unfold vG;cases hx:(zH p w).1<;>cases hy:wU p old w<;>rw[hx,hy]at h<;>first|rfl|cases h
  unfold xc;rw[this];rfl
 intro rs H' hh;obtain⟨rfl,hA,hB⟩:=hh;have hok:vG p old w=true:=by unfold vG;cases hx:(zH p w).1<;>cases hy:wU p old w<;>rw[hx,hy]at h<;>first|rfl|cases h
 have hn:xc p old w = !((zB p.sc 4096).1.any λv=>vG p old v&&yN p old w v):=by
  unfold xc;rw[hok,Bool.true_and];have:∀l:ON (ON Pl),(l.all λv=>!(vG p old v&&yN p old w v)) = !l.any λv=>vG p old v&&yN p old w v:=λl=>by
   induction l with
   |nil=>rfl
   |cons a l ih=>rw[J7,K7,ih,GW]
  exact this _
 cases hb:((zB p.sc 4096).1.any λv=>vG p old v&&yN p old w v)with
 |true =>
  obtain rfl:=hA hb;exact⟨_,_,_,_,_,_,_,_,_,_,_,_,_,_,rfl,by decide,.inr (.inl ⟨rfl,by rw[hn,hb];rfl⟩)⟩
 |false =>
  obtain rfl:=hB hb;exact⟨_,_,_,_,_,_,_,_,_,_,_,_,_,_,rfl,by decide,.inl ⟨rfl,by rw[hn,hb];rfl⟩⟩
end
end Go.Fo
namespace Go.Fo
open Go Go.Sx
def exS:Sc:=⟨[⟨[97],0,0⟩,⟨[98],0,1⟩],[⟨[114],0,0,[]⟩],[],[],[⟨[120],[],[]⟩]⟩
def exA:Fm:= .mk 3 [] 0 [⟨2,[108],0⟩,⟨2,[115],0⟩] [] []
def exZ:Fm:= .mk 9 [61] 0 [⟨4,[115],0⟩,⟨1,[],0⟩] [] []
def exR:Ru:=⟨[101,97,114,108,121],false,3,[⟨[108],1⟩,⟨[115],2⟩],.mk 13 [] 0 [] [] [exA,exZ]⟩
def exP:Pn:=⟨exS,[exR],[0]⟩
def w1:ON Pl:=[⟨0,0⟩]
def w2:ON Pl:=[⟨1,0⟩]
theorem ex_all:(zB exS 4096)=([w1,w2],0):=by kernel_rfl
theorem ex_h1:zH exP w1=(true,0):=by kernel_rfl
theorem ex_h2:zH exP w2=(true,3):=by kernel_rfl
theorem ex_h0:zH exP []=(false,0):=by kernel_rfl
theorem ex_b1:xc exP [] w1=true:=by kernel_rfl
theorem ex_b2:xc exP [] w2=false:=by kernel_rfl
theorem ex_b3:xc exP w2 w2=true:=by kernel_rfl
theorem ex_b4:xc exP w2 w1=false:=by kernel_rfl
theorem ex_n1:sK exP w2=false:=by kernel_rfl
theorem ex_n0:sK exP []=false:=by kernel_rfl
theorem ex_o1:wU exP [] w1=true:=by kernel_rfl
theorem ex_o2:wU exP [] w2=true:=by kernel_rfl
theorem ex_e1:yQ exS w1 [exR]=0:=by kernel_rfl
end Go.Fo
namespace Go.Fo
open Go Go.Sx Go.Proofs
def c156:Np:=unScope (zz (z6 Tryz.f156) 0)
def tm156:ON AV:=[.any,.any,.ptr 0 0,.any,.any,.any,.any,.any,.any,.any,.any,.any,.any]
def Th (s:Sc) (bs:ON Bd) (k:Nat):ON Box:=[.cells 55 [.vec 1 (((zb s bs).take k).map vl)],.vec k 1,.loop tm156 (ze c156) (zo c156) (zc c156) none .ready]
theorem Wj (l:ON (ON Int)):((l.map vl).all λd=>d.cells.length==1)=true:=by rw[ND];intro d hd;obtain⟨x,_,rfl⟩:=Mj.1 hd;rfl
section
variable {G:Nat->OK (ON D)}
def pX (a:ON Int):ON D:=[OE (OM intD a)]
def yT6q1:ON Box:=[M7 [OI,.any,.ptr 0 0,.any,.any,.any,.any,.any,.any,.any,.any,.any,.any] (ze c156) (zo c156) (zc c156) none Mg]
theorem Qp (s:Sc) (bs:ON Bd) (k:Nat) (t:ON Int) (ht:(zb s bs)[k]? = some t) (hk:k<1099511627776):Mo Tryz.prog G 2 [.d (vl t)] (Th s bs k) (λrs H'=>rs=[.bool true]/\H'=Th s bs (k+1)):=by
 unfold vl;refine Jl (tm:=tm156) (ps:=ze c156) (asn:=zo c156) (bd:=zc c156) mixed L0 rfl (by kernel_rfl) rfl rfl ⟨_,_,rfl,rfl⟩ (λ_=>nC (by kernel_rfl)) (λ_=>nC (by kernel_rfl)) ?_;apply @z7 _ ((k=OJ (OM vl (NW k (zb s bs)))/\1=1/\FA (OM vl (NW k (zb s bs))) (pX t) (nat_lit 1) (nat_lit 24))/\[OD true]=[OD true]/\Ns 55 [.vec 1 (OM vl (NW k (zb s bs))++Mx (pX t))]::Lo (OJ (OM vl (NW k (zb s bs)))+OJ (Mx (pX t))) 1::yT6q1=Ns 55 [.vec 1 (OM vl (NW (k+1) (zb s bs)))]::Lo (k+1) 1::yT6q1)
 ·kernel_rfl
 delta pX yT6q1;have hc:=Wj ((zb s bs).take k);have hlen:(zb s bs).length>=k+1:=by have:=(Df.1 ht).1;omega
 have htl:((zb s bs).take k).length=k:=by rw[Kr];omega
 refine⟨⟨by rw[Nv,htl],rfl,⟨by rw[J2,hc];rfl,by rw[Nv,htl];simp;omega⟩⟩,rfl,?_⟩;have e1:OM vl (NW k (zb s bs))++[OE (OM intD t)]=OM vl (NW (k+1) (zb s bs)):=by rw[yp ht,Lq];rfl
 have e2:(OM vl (NW k (zb s bs))).length+1=k+1:=by rw[Nv,htl]
 rw[←e1,←e2];rfl
def dR (a:Nat) (b:Sc) (c:ON Bd) (d:ON Int):ON Box:=[Ns 55 [.vec 1 (OM vl (NW a (zb b c)))],.vec a 1,.loop [OI,.any,.ptr 0 0,.any,.any,.any,.any,.any,.any,.any,.any,.any,.any] (ze c156) (zo c156) (zc c156) none Mg,.arr 1 (OM intD d)]
def dQ (a:Nat) (b:Sc) (c:ON Bd) (d:ON Int):Prop:=dR a b c d=dR a b c d
theorem Qo (s:Sc) (bs:ON Bd) (k:Nat) (t:ON Int) (ht:t.length<1099511627776):Nn Tryz.prog G 35 [.msl 3] (Th s bs k++[.arr 1 (t.map intD)]) (λrs H'=>rs=[vl t]/\H'=Th s bs k++[.arr 1 (t.map intD)]):=by
 refine zF Tryz.func35 rfl ⟨_,_,rfl,rfl⟩ ?_;apply @z7 _ ((false=true->[OE []]=pX t/\dQ k s bs t)/\(false=false->FA [] (OM intD t) (nat_lit 1) (nat_lit 8)/\[OE (Mx ([]:ON D)++OM intD t)]=pX t/\dQ k s bs t))
 ·kernel_rfl
 delta pX yT6q1 dQ dR;refine⟨λh=>No h (by decide),λ_=>⟨⟨?_,by simp;omega⟩,rfl,rfl⟩⟩;simpa using su t
def tJ (a:Sc) (b:ON Bd):ON Box:=Ns 55 [.vec 1 (OM vl (NW (OJ (zb a b)) (zb a b)))]::Lo (OJ (zb a b)) 1::yT6q1
def wO (a:ON Bd):Int:=(↑(OJ (OM N3 a)):Int)
def ut (a:Sc) (b:ON Bd):Prop:=Ma [.sl (OM intD (zP a b))]=Ma [.sl (OM intD (zP a b))]
def tI (a:ON Bd):Prop:=Ma [.sl (OM N3 a)]=Ma [.sl (OM N3 a)]
def ql (a:Sc) (b:ON Bd):Prop:=NE 2=NE 2/\ut a b/\tI b/\MP 3=MP 3/\OG
def h135T6q16:ON AV:=[OI,.any,.ptr 0 0,.any,.any,.any,.any,.any,.any,.any,.any,.any,.any]
def h135T6q14:Box:=M7 h135T6q16 (ze c156) (zo c156) (zc c156) none Mg
def h135T6q15:Prop:=h135T6q14=h135T6q14
def ur (a:OK Np) (b:NQ):Box:=M7 h135T6q16 (ze c156) (zo c156) (zc c156) a b
def uU (a:ON D) (b:Nat) (c:OK Np) (d:NQ):ON Box:=[Ns 55 [.vec 1 a],.vec b 1,ur c d]
def y9 (a:Nat×Nat):Int:=(↑(N7 a):Int) - 1
def wg (a:Nat) (b:Sc) (c:ON Bd):ON D:=OM vl (NW (a+1) (zb b c))
def x9 (a:Sc) (b:ON Bd) (c:Nat×Nat):ON D:=OM intD (xT a b (N7 c) (NV c))
def tH (a:Nat×Nat):Prop:=decide (y9 a>=0)=true
def tG (a:Nat×Nat) (b:Sc) (c:ON Bd):Prop:=N1 (y9 a)<OJ (x9 b c a)
def uT (a:Nat×Nat) (b:Sc) (c:ON Bd):Prop:=0<=y9 a/\tG a b c
def tF (a:Sc) (b:ON Bd) (c:Nat×Nat):Prop:=z1 (x9 a b c) (N1 (y9 c)) 0=some (OH .i64 (NO (Nz (z1 (x9 a b c) (N1 (y9 c)) 0) default)))/\OG
def tE (a:Sc) (b:ON Bd) (c:Nat×Nat):Int:=NO (Nz (z1 (OM intD (zP a b)) (N1 (y9 c)) 0) default)
def qk (a:Nat×Nat) (b:Sc) (c:ON Bd):Bool:=bif decide (y9 a>=0)then Nl .i64 (NO (Nz (z1 (x9 b c a) (N1 (y9 a)) 0) default)+1)==tE b c a else false
theorem SH (s:Sc) (bs:ON Bd) (hb:bs.length<=1000000000) (hsz:∀b∈bs,cN s b<1099511627776) (hY:∀(k:Nat) (t:ON Int),(zb s bs)[k]? = some t->Mo Tryz.prog G 2 [.d (vl t)] (Th s bs k) (λrs H'=>rs=[.bool true]/\H'=Th s bs (k+1))): Nn Tryz.prog G 135 [.yld 2,.iptr [vl (zP s bs)],.iptr [.sl (bs.map N3)]] (Th s bs 0) (λ_ H'=>H'=Th s bs (zb s bs).length):=by
 have hcl:=λk t h=>Qo (G:=G) s bs k t h;unfold vl at *;refine zg (LL [(2,ui (α:=Nat) Tryz.prog G (λk=>LL [(4,zT (α:=Nat×Nat) Tryz.prog G L0 3 (zz (zz (z6 Tryz.f135) 0) 0) [0,1,2,4] (λx=>MH s bs k x.1 x.2) (λx=>x.1) (λx=>[(5,.d (.int .i64 ((x.1:Int) - 1)))]) (λ_ x=>Th s bs (k+1)++[.arr 1 ((xT s bs x.1 x.2).map intD)]))]) 3 (zz (z6 Tryz.f135) 0) [0,1,2,4] (λk=>k<(zb s bs).length) (λk=>(zb s bs).length - k) (λ_=>[]) (λ_ k=>Th s bs k++[.arr 1 ((yM s bs k).map intD)]))]) Tryz.func135 rfl ⟨[],_,rfl⟩ (zm (yI mixed (λ_=>zm zy))) ?_;apply @z7 _ (OB Tryz.prog G 76 [OE (OM intD (zP s bs)),.int .i64 0] λ(rs:ON D)=>∃(b:Bool),rs=[OD b]/\(b=true->Ns 55 [.vec 1 []]::Lo 0 1::yT6q1=tJ s bs)/\(b=false->(wO bs=wO bs/\0<=wO bs/\wO bs<=1000000000/\(↑8:Int)*wO bs<=281474976710656)/\∃(x0:Nat),x0<OJ (zb s bs)/\(ql s bs/\([]=OM vl (NW x0 (zb s bs))/\OG)/\0=x0/\h135T6q15/\M4 (N1 (wO bs)) (OH .i64 0)=OM intD (yM s bs x0)/\OG)/\∀(x:Nat),x<OJ (zb s bs)->Nn Tryz.prog G 35 [MP 3] [Ns 55 [.vec 1 (OM vl (NW x (zb s bs)))],.vec x 1,h135T6q14,.arr 1 (OM intD (yM s bs x))] λ(rs:ON D) (H':ON Box)=>∃(l:ON D),rs=[OE l]/\∃(l_1:ON D)(n:Nat)(pend:OK Np)(st:NQ)(ds:ON D),H'=[Ns 55 [.vec 1 l_1],.vec n 1,ur pend st,.arr 1 ds]/\Mo Tryz.prog G 2 [OF (.sl l)] (uU l_1 n pend st) λ(rs:ON D) (H':ON Box)=>∃(b:Bool),rs=[OD b]/\∃(l:ON D)(n:Nat)(pend:OK Np)(st:NQ),H'=uU l n pend st/\((!b)=true->uU l n pend st=tJ s bs)/\((!b)=false->∃(x0:Nat×Nat),MH s bs x (N7 x0) (NV x0)/\((NE 2=NE 2/\ut s bs/\tI bs/\MP 3=MP 3/\Nl .i64 ((↑(OJ ds):Int) - 1)=y9 x0/\OG)/\(l=wg x s bs/\OG)/\n=x+1/\ur pend st=h135T6q14/\ds=x9 s bs x0/\OG)/\∀(x_1:Nat×Nat),MH s bs x (N7 x_1) (NV x_1)->(tH x_1->uT x_1 s bs)/\(tH x_1->tF s bs x_1)/\(tH x_1->0<=y9 x_1/\(OM intD (zP s bs))[N1 (y9 x_1)]? = some (OH .i64 (tE s bs x_1)))/\(qk x_1 s bs=true->uT x_1 s bs/\tG x_1 s bs/\∃(y:Nat×Nat),MH s bs x (N7 y) (NV y)/\N7 y<N7 x_1/\(NE 2=NE 2/\ut s bs/\tI bs/\MP 3=MP 3/\Nl .i64 (y9 x_1 - 1)=y9 y/\OG)/\(wg x s bs=wg x s bs/\OG)/\x+1=x+1/\h135T6q15/\w8 (x9 s bs x_1) (N1 (y9 x_1)) 0 (Mx [OH .i64 0])=x9 s bs y/\OG)/\(qk x_1 s bs=false->(decide (y9 x_1<0)=true->Ns 55 [.vec 1 (wg x s bs)]::Lo (x+1) 1::yT6q1=tJ s bs)/\(decide (y9 x_1<0)=false->uT x_1 s bs/\tF s bs x_1/\uT x_1 s bs/\tG x_1 s bs/\∃(y:Nat),y < OJ (zb s bs)/\OJ (zb s bs) - y<OJ (zb s bs) - x/\ql s bs/\(wg x s bs=OM vl (NW y (zb s bs))/\OG)/\x+1=y/\h135T6q15/\w8 (x9 s bs x_1) (N1 (y9 x_1)) 0 (Mx [N7 (OH .i64 (Nl .i64 (NO (Nz (z1 (x9 s bs x_1) (N1 (y9 x_1)) 0) default)+1)),OG)])=OM intD (yM s bs y)/\OG)))))
 ·kernel_rfl
 delta yT6q1 pX tJ wO ql ut tI h135T6q15 h135T6q14 h135T6q16 ur uU y9 wg x9 tH uT tG tF tE qk;refine(Tj (G:=G) (zP s bs) 0 (by rw[uv];omega)).use ⟨_,rfl,λhb0=>?_,λhb0=>?_⟩
 ·obtain⟨b,hm,hc⟩:=uu.1 hb0;rw[ir hm hc];rfl
 have hpos:∀b∈bs,0<cN s b:=λb hm=>by
  rcases I8 (cN s b)with h|h
  ·rw[uu.2 ⟨b,hm,h⟩]at hb0;cases hb0
  ·exact h
 refine⟨⟨rfl,by omega,by simp;omega,by simp;omega⟩,0,ko hpos,?_,λk hk=>?_⟩
 ·and_intros<;>first|rfl|trivial|(simp only[Nv,M1];rw[qW hpos,eD])
 obtain⟨hkl,hkg⟩:=nq hk;refine(hcl k _ (by rw[hkl];omega)).mono ?_;rintro rs H' ⟨rfl,rfl⟩;refine⟨_,rfl,_,_,_,_,_,rfl,(hY k _ hkg).mono ?_⟩;rintro rs H' ⟨rfl,rfl⟩;refine⟨true,rfl,_,_,_,_,rfl,λh=>No h (by decide),λ_=>⟨(bs.length,k+1),F1 hk,?_,λy hy=>?_⟩⟩
 ·have e1:Nl .i64 (((OM intD (yM s bs k)).length:Nat) - 1:Int)=((bs.length:Nat):Int) - 1:=by rw[Nv,hkl];exact zu (by omega) (by omega)
  have e2:OM intD (yM s bs k)=OM intD (xT s bs bs.length (k+1)):=by rw[qX]
  and_intros<;>first|exact e1|exact e2|rfl|trivial
 obtain⟨x1,q⟩:=y;cases x1 with
 |zero =>
  have hl:=F9 hy;refine⟨λh=>by simp at h,λh=>by simp at h,λh=>by simp at h,λh=>by simp at h,λ_=>⟨λ_=>?_,λh=>by simp at h⟩⟩;rw[←hl]
 |succ x =>
  obtain⟨d,c,h1,h2,hg,hs,hx,hcar,hst⟩:=eE hpos hsz hy;have ex:((x+1:Nat):Int) - 1=(x:Int):=by omega
  have hol:=kq hy;have hll:(OM intD (xT s bs (x+1) q)).length=bs.length:=by rw[Nv,hol]
  have ei (n:Int):NO (Nz (some (OH .i64 n)) default)=n:=rfl;have hw:Nl .i64 ((d:Int)+1)=((d+1:Nat):Int):=by rw[zu (by omega) (by omega)];rfl
  have hdm:decide ((x:Int)>=0)=true:=by simp
  rw[ex,M1,xe hg,xe hs,ei,ei,hw,hll,hdm];refine⟨λ_=>⟨by omega,hx⟩,λ_=>⟨rfl,trivial⟩,λ_=>⟨by omega,uG hs⟩,λhq=>?_,λhq=>⟨λh=>No (M3 h) (by omega),λ_=>?_⟩⟩
  ·have e:d+1=c:=by have:(((d+1:Nat):Int)==(c:Int))=true:=hq;have:=eq_of_beq this;omega
   obtain⟨o1,o2⟩:=hcar e;refine⟨⟨by omega,hx⟩,hx,(x,q / c),o1,by omega,?_⟩;have e1:Nl .i64 ((x:Int) - 1)=(x:Int) - 1:=zu (by omega) (by omega);have e2:=(tS (xT s bs (x+1) q) x 0).trans (Mz _ o2);and_intros<;>first|exact e1|exact e2|rfl|trivial
  ·have e:d+1≠c:=λe=>by have:(((d+1:Nat):Int)==(c:Int))=false:=hq;rw[e]at this;simp at this
   obtain⟨o1,o2⟩:=hst e;refine⟨⟨by omega,hx⟩,⟨rfl,trivial⟩,⟨by omega,hx⟩,hx,k+1,o1,by omega,?_⟩;have e2:=(tS (xT s bs (x+1) q) x ((d+1:Nat):Int)).trans (Mz _ o2);and_intros<;>first|exact e2|rfl|trivial
def dP (a:Sc) (b:ON Bd):ON AV:=[Ma [.sl (OM intD (zP a b))],.iptr [.sl (OM N3 b)]]
def iR (a:Sc) (b:ON Bd):AV:=Ml 135 [] (dP a b)
def iQ (a:ON D) (b:Sc) (c:ON Bd):Prop:=[OE a]=[OE (OM (λ(t:ON Int)=>OE (OM intD t)) (zb b c))]/\([]:ON Box)=[]
theorem h156 (s:Sc) (bs:ON Bd) (hb:bs.length<=1000000000) (hsz:∀b∈bs,cN s b<1099511627776) (hl:(zb s bs).length<1099511627776):Nn Tryz.prog G 156 [.nils,.clo 135 [] [.iptr [vl (zP s bs)],.iptr [.sl (bs.map N3)]]] [] (λrs H'=>rs=[.sl ((zb s bs).map vl)]/\H'=[]):=by
 have h135:=SH (G:=G) s bs hb hsz (λk t ht=>Qp s bs k t ht (by have:=(Df.1 ht).1;omega));unfold vl at *;refine zg (LL [(1000001,Z2 Tryz.prog G 0 [2] (λ_=>[.cells 55 [.vec 1 []],.vec 0 1]) c156)]) Tryz.func156 rfl ⟨_,_,rfl,rfl⟩ (zm (fE mixed (by kernel_rfl))) ?_;apply @z7 _ (((N5 0 0=N5 0 0/\iR s bs=iR s bs/\OG)/\((([]:ON D)=[]/\OJ ([]:ON D)<=0)/\OG)/\OG)/\Nn Tryz.prog G 135 (NE 2::dP s bs) (Ns 55 [.vec 1 []]::Lo 0 1::yT6q1) λ(x:ON D) (H':ON Box)=>∃(l:ON D)(n:Nat)(pend:OK Np)(st:NQ),H'=uU l n pend st/\st≠J3/\(pend=none/\iQ l s bs∨pend=some Lg/\False∨pend=some (Jk (aa c156))/\iQ l s bs))
 ·kernel_rfl
 delta iR dP yT6q1 pX uU tJ wO ql ut tI h135T6q15 h135T6q14 h135T6q16 ur y9 wg x9 tH uT tG tF tE qk iQ;refine⟨by and_intros<;>first|rfl|trivial|simp,h135.mono ?_⟩;rintro rs H' rfl;refine⟨_,_,_,_,rfl,by simp,.inl ⟨rfl,?_,rfl⟩⟩;rw[La];rfl
theorem h117 (s:Sc) (bs:ON Bd) (hb:bs.length<=1000000000) (hsz:∀b∈bs,cN s b<1099511627776) (hl:(zb s bs).length<1099511627776):Nn Tryz.prog G 117 [.clo 135 [] [.iptr [vl (zP s bs)],.iptr [.sl (bs.map N3)]]] [] (λrs H'=>rs=[.sl ((zb s bs).map vl)]/\H'=[]):=by
 have h156:=h156 (G:=G) s bs hb hsz hl;unfold vl at *;refine zF Tryz.func117 rfl ⟨_,_,rfl,rfl⟩ ?_;apply @z7 _ (Nn Tryz.prog G 156 [AV.nils,iR s bs] [] λ(rs:ON D) (H':ON Box)=>∃(l:ON D),rs=[OE l]/\H'=[]/\iQ l s bs)
 ·kernel_rfl
 delta iR dP yT6q1 pX uU tJ wO ql ut tI h135T6q15 h135T6q14 h135T6q16 ur y9 wg x9 tH uT tG tF tE qk iQ;refine h156.mono ?_;rintro rs H' ⟨rfl,rfl⟩;exact⟨_,rfl,rfl,rfl,rfl⟩
def sT (s:Sc) (r:Ru):ON (ON Int)×Int :=if xg s != 0 then([],xg s)else if r.tyI != 0 then([],r.tyI)else if zV 1048577 s r.each>4096 then([],2)else(zb s r.each,0)
end
section
variable {M:Mk}
def Xt (a:Sc):D:=NY [.sl (OM Nx (Ni a)),.sl (OM N6 (Nh a)),.sl (OM N9 (Nd a)),.sl (OM Ny (Nb a)),.sl (OM N8 (Nj a))]
def Xs (a:ON D) (b:Int):Prop:=a=[OH .i64 b]
def Xr (a:Sc) (b:Ru):ON D:=[OE (OM vl (N7 (sT a b))),.int .i64 (NV (sT a b))]
def Tz (a:Int) (b:Sc) (c:Ru):Prop:=[OE [],.int .i64 a]=Xr b c
def Ty (a:Sc) (b:Ru):AV:=Ml 135 [] [Ma [.sl (OM intD (zP a (MF b)))],.iptr [.sl (OM N3 (MF b))]]
theorem h69 (hM:M.Ok) (m:Int) (s:Sc) (r:Ru) (hs:s.Fits) (hr:r.wt<1099511627776) (hb:r.each.length<=1000000000) (hsz:∀b∈r.each,cN s b<1099511627776) (hl:(zb s r.each).length<1099511627776):OB Tryz.prog (GA M m) 69 [s.d,r.d] (· = [.sl ((sT s r).1.map vl),.int .i64 (sT s r).2]):=by
 have h26:=h26 (iE M m) s hs;have g20:=(g20 hM r hr).more (fp M m);have h116:=h116 (G:=GA M m) s r.each hs (by omega);have h86:=h86 (G:=GA M m) s r.each hs (by omega);have h117:=h117 (G:=GA M m) s r.each hb hsz hl;unfold Na at *;rw[zf]at *;refine OB.walkM (fn:=Tryz.f69) (code:=z6 Tryz.f69) mixed L0 (λk _=>if Nat.beq k 86 then some (.clo 135 [] [.iptr [vl (zP s r.each)],.iptr [.sl (r.each.map N3)]])else none) [9] Tryz.func69 (by kernel_rfl) ⟨_,rfl⟩ u3 ?_;apply @z7 _ (OB Tryz.prog (GA M m) 26 [Xt s] λ(rs:ON D)=>∃(n:Int),Xs rs n/\((n != 0)=true->Tz n s r)/\((n != 0)=false->OB Tryz.prog (GA M m) 115 [NY [.str (Kx r),.bool (LM r),.int .i64 (LD r),.sl (OM N3 (MF r)),.int .i64 (NU (M9 r)),.str (NG (M9 r)),.int .i64 (NA (M9 r)),.sl (OM Nc (NH (M9 r))),.sl (OM N3 (NJ (M9 r))),.sl (OM NX (Nt (M9 r)))]] λ(rs:ON D)=>∃(n:Int),Xs rs n/\((n != 0)=true->Tz n s r)/\((n != 0)=false->OB Tryz.prog (GA M m) 116 [Xt s,.sl (OM N3 (MF r))] λ(rs:ON D)=>∃(n:Int),Xs rs n/\(decide (n>4096)=true->[OE [],.int .i64 2]=Xr s r)/\(decide (n>4096)=false->(Lz Tryz.prog (GA M m) 86 [Xt s,.sl (OM N3 (MF r))] λ(x:AV)=>x=Ty s r)/\Nn Tryz.prog (GA M m) 117 [Ty s r] [] λ(rs:ON D) (H':ON Box)=>∃(l:ON D),rs=[OE l]/\H'=[]/\[OE l,.int .i64 0]=Xr s r))))
 ·kernel_rfl
 delta Xt Xs Tz Xr Ty;refine h26.use ⟨_,rfl,λh=>?_,λh=>g20.use ⟨_,rfl,λh2=>?_,λh2=>h116.use ⟨_,rfl,λh3=>?_,λh3=>⟨h86,h117.mono ?_⟩⟩⟩⟩
 ·rw[sT,Nf h];rfl
 ·rw[sT,N2 (by rw[h];decide),Nf h2];rfl
 ·rw[sT,N2 (by rw[h];decide),N2 (by rw[h2];decide),Nf (M3 h3)];rfl
 ·rintro rs H' ⟨rfl,rfl⟩;refine⟨_,rfl,rfl,?_⟩;rw[sT,N2 (by rw[h];decide),N2 (by rw[h2];decide),N2 (of_decide_eq_false h3)]
end
end Go.Fo
