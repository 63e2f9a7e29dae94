/- Joined texts: the walk by computed conditions, the contracts of the functions, the plain laws. -/
import Derived.Calls
import Derived.OrdersIn
import Derived.KernelRfl
import Derived.Laws.Sem
import Derived.Laws.Cells
import Derived.Laws.CopyRow
import Derived.Laws.Strings
import Derived.Laws.StructEq
import Derived.Laws.Cover3
import Derived.Laws.AppendOwn
import Derived.Laws.MakeOwn
set_option linter.unusedVariables false
set_option linter.unusedSimpArgs false
set_option maxRecDepth 100000
set_option maxHeartbeats 0
noncomputable section
open Array renaming ext'->Lm,foldl_toList->FO,getD_eq_getD_getElem?->Lk,getElem?_push_size->De,getElem?_setIfInBounds->Kg,getElem?_toList->KA,length_toList->LI,map->GI,range->EQ,toList_zipIdx->DS
open BitVec renaming ofInt->JI
open Bool renaming and_eq_true->NK,false_eq_true->LH,or_eq_true->L4
open ByteArray renaming data_append->Ap,data_extract->Aq,ext->Ad
open Classical renaming em->KN
open Go renaming Act->NI,Addr->LS,BinOp->KW,Builtin->MD,Calls->Ku,Code->Np,Deferred->I0,Exit->Me,Field->I1,FuncId->L8,IntKind->OA,MapEntry->Kl,Next->LK,Obj->Ln,Oper->Nu,Operand->NF,Program->Ng,Sem->NN,TypeDesc->KF,TypeInfo->JF,World->N4
open Go.Act renaming eval->F6
open Go.Addr renaming add->F4
open Go.Builtin renaming append_->J1,lenOf->Cj,len_->Ip,max_->Cc,zeroCells->FE
open Go.ByteArray renaming toList_mk->An
open Go.Deferred renaming ofValue->E3
open Go.Fence renaming wide->GL
open Go.Instr renaming build->Gg,buildSlice->Hp,checkKey->Jp,extract->JJ,field->EP,fieldAt->El,fill->GP,findAsking->KJ,findKey->KH,findNow->KI,index->ER,indexAt->Ir,loadAt->JU,lookup->Jn,makeSlice->C9,mapUpdate->G9,sameBits->IT,sameNow->Gv,slice->Im,sliceAt->Ke,sliceBound->C4,sliceBounds->Iy,storeAt->J6,sureAddr->JZ
open Go.IntKind renaming i64->Nq
open Go.Next renaming skip->GE,value->GM
open Go.Obj renaming cells->EG
open Go.Op renaming bytesLess->Gs,eqFields->Gh,equal->HV,equalIn->GO,intArith->B1,maxDepth->B3,stringOp->B2,unary->EB
open Go.Oper renaming semAt_eq->KO
open Go.Operand renaming const->Gu
open Go.Region renaming binds->Kp,ready->K8,wanted->L5
open Go.Result renaming andThen_ok->Mt
open Go.Sem renaming run->ID,run_bind->Ms,run_pure->MV
open Go.Value renaming cells->LN
open Go.World renaming cell?->Ko
open Int renaming le_refl->JT
open List renaming all_eq_true->ND,append_assoc->JM,append_nil->JL,drop_eq_nil_of_le->Ls,drop_nil->Ck,drop_take->Cs,eq_nil_of_length_eq_zero->Ju,eq_of_mem_replicate->Hy,ext_getElem?->Jc,find?_cons->KP,flatMap_append->DR,flatMap_cons->IU,flatMap_def->E2,flatten_cons->Hs,foldl_cons->It,getD_eq_getElem?_getD->LB,getElem?_append->DW,getElem?_append_left->LJ,getElem?_append_right->KT,getElem?_cons_succ->FY,getElem?_drop->J0,getElem?_eq_getElem->LR,getElem?_eq_none->My,getElem?_map->M6,getElem?_range->FQ,getElem?_replicate->HC,getElem?_set->LQ,getElem?_take->Ld,getElem?_toArray->IZ,getElem?_zipIdx->DV,getElem_map->C3,getElem_mem->KQ,length->OJ,length_append->Kb,length_cons->MO,length_map->Nv,length_nil->LZ,length_replicate->HA,length_take->Kr,mapM_cons->Jq,map_cons->Mf,map_nil->LO,map_replicate->I9,map_toArray->E1,mem_cons_self->IW,mem_iff_getElem->KS,mem_map->Mj,mem_of_getElem?->MX,mem_of_mem_take->Je,modify_succ_cons->DY,modify_zero_cons->DZ,nil_append->G8,range'->J8,range->Mq,replicate->M4,replicate_succ->G2,size_toArray->Hr,take_append_drop->HB,take_length->La,take_nil->Ek,zipIdx_cons->C2
open List.cons renaming injEq->Ka
open Nat renaming add_assoc->Iq,add_mul->Kn,add_sub_cancel->IX,add_zero->Jm,div_add_mod->Hm,div_lt_iff_lt_mul->FV,le_refl->MS,le_trans->KG,lt_of_lt_of_le->MM,lt_or_ge->M0,mod_lt->IK,mul_comm->JH,mul_le_mul_right->G0,mul_one->IN,sub_zero->Ee,testBit_or->Cq,zero_add->LP,zero_mul->Gq
open Ne renaming symm->KM
open Option renaming bind_some->Iv,getD_some->Li,isSome_none->Jd,isSome_some->Js,map->Hd,map_eq_some_iff->KB,map_none->Kq,map_some->Ly
open Option.some renaming injEq->K0
open Prod.mk renaming injEq->J5
open _root_ renaming Array->OC,ByteArray->NS,False->NL,List->ON,Option->OK,True->OG,absurd->No,congrArg->Mz,decide_eq_true_eq->NR,if_neg->N2,if_pos->Nf
namespace Go.Sx
open Go
inductive D where
 |int (k:OA) (n:Int)
 |bool (b:Bool)
 |str (s:ON UInt8)
 |sl (ds:ON D)
 |agg (cs:ON D)
 |fn (f:Nat)
 |gmap (es:ON (D×D))
instance:Inhabited D:=⟨.bool false⟩
def D.cells:D->ON D
 |.agg cs=>cs
 |d=>[d]
def z1 (ds:ON D) (i j:Nat):OK D:=(ds[i]?).bind λd=>d.cells[j]?
inductive R1 (I:Nat->Nat->Prop) (J:Nat->Prop) (w:N4):Value->D->Prop
 |int (k:OA) (n:Int):R1 I J w (.int k n) (.int k n)
 |bool (b:Bool):R1 I J w (.bool b) (.bool b)
 |str (s:ON UInt8):R1 I J w (.string ⟨s.toArray⟩) (.str s)
 |fn (f:Nat):R1 I J w (.func (.func f) #[] #[]) (.fn f)
 |nil:R1 I J w (.slice none 0 0) (.sl [])
 |emp (a:LS) (cap:Nat):R1 I J w (.slice (some a) 0 cap) (.sl [])
 |sl (b off cap sz:Nat) (ds:ON D) (vals:Nat->Nat->Value)
   (hsz:∀d∈ds,d.cells.length=sz)
   (hc:∀i j d,z1 ds i j=some d->I b (off+i*sz+j)/\w.cell? ⟨b,off+i*sz+j,none⟩=some (vals i j))
   (hr:∀i j d,z1 ds i j=some d->R1 I J w (vals i j) d)
   (hcap:ds.length<=cap):R1 I J w (.slice (some ⟨b,off,none⟩) ds.length cap) (.sl ds)
 |gmap (r:Nat) (ents:OC Kl) (clk:Nat) (es:ON (D×D)) (hJ:J r) (hw:w.heap[r]? = some (.map ents clk))
   (hlen:ents.size=es.length)
   (hk:∀(i:Nat) kv,es[i]? = some kv->R1 I J w (ents.getD i default).key kv.1)
   (hv:∀(i:Nat) kv,es[i]? = some kv->R1 I J w (ents.getD i default).val kv.2):R1 I J w (.map (some r)) (.gmap es)
def z8 {α β:Type}(R:α->β->Prop) (xs:ON α) (ys:ON β):Prop :=xs.length=ys.length/\∀(i:Nat) x y,xs[i]? = some x->ys[i]? = some y->R x y
theorem z8.nil {α β:Type}{R:α->β->Prop}:z8 R [] []:=⟨rfl,by simp⟩
theorem z8.cons {α β:Type}{R:α->β->Prop}{x:α}{y:β}{xs:ON α}{ys:ON β}(h:R x y) (hs:z8 R xs ys):z8 R (x::xs) (y::ys):=by
 refine⟨by simp[hs.1],λi a b ha hb=>?_⟩;cases i with
 |zero=>simp at ha hb;subst ha;subst hb;exact h
 |succ i=>simp at ha hb;exact hs.2 i a b ha hb
theorem z8.nil_right {α β:Type}{R:α->β->Prop}{xs:ON α}(h:z8 R xs []):xs=[]:=by have:=h.1;simpa using this
theorem z8.cons_right {α β:Type}{R:α->β->Prop}{y:β}{xs:ON α}{ys:ON β}(h:z8 R xs (y::ys)):∃x xs',xs=x::xs'/\R x y/\z8 R xs' ys:=by
 cases xs with
 |nil=>have:=h.1;simp at this
 |cons x xs =>
  refine⟨x,xs,rfl,h.2 0 x y rfl rfl,by have:=h.1;simpa using this,λi a b ha hb=>h.2 (i+1) a b (by simpa using ha) (by simpa using hb)⟩
theorem z8.mono {α β:Type}{R R':α->β->Prop}{xs:ON α}{ys:ON β}(h:z8 R xs ys) (hr:∀x y,R x y->R' x y):z8 R' xs ys :=⟨h.1,λi x y hx hy=>hr _ _ (h.2 i x y hx hy)⟩
theorem z8.append {α β:Type}{R:α->β->Prop}{xs xs':ON α}{ys ys':ON β}(h:z8 R xs ys) (h':z8 R xs' ys'):z8 R (xs++xs') (ys++ys'):=by
 refine⟨by simp[h.1,h'.1],λi a b ha hb=>?_⟩;rw[DW]at ha hb;rw[h.1]at ha;split at ha
 ·rename_i hlt;rw[Nf hlt]at hb;exact h.2 i a b ha hb
 ·rename_i hlt;rw[N2 hlt]at hb;exact h'.2 _ a b ha hb
theorem z8.set {α β:Type}{R:α->β->Prop}{xs:ON α}{ys:ON β}(h:z8 R xs ys) (i:Nat) {x:α}{y:β}(hr:R x y):z8 R (xs.set i x) (ys.set i y):=by
 refine⟨by simp[h.1],λj a b ha hb=>?_⟩;rw[LQ]at ha hb;rw[h.1]at ha;split at ha
 ·rename_i e;subst e;simp only[if_true]at hb;split at ha
  ·rename_i hlt;simp only[hlt,if_true]at hb;simp at ha hb;subst ha;subst hb;exact hr
  ·simp at ha
 ·rename_i e;rw[N2 e]at hb;exact h.2 j a b ha hb
theorem z8.get {α β:Type}{R:α->β->Prop}{xs:ON α}{ys:ON β}(h:z8 R xs ys) {i:Nat}{y:β}(hy:ys[i]? = some y):∃x,xs[i]? = some x/\R x y:=by
 have hlt:i<ys.length:=by rcases M0 i ys.length with h|h;exact h;simp[My h]at hy
 have hx:i<xs.length:=by rw[h.1];exact hlt
 exact⟨xs[i],by simp[hx],h.2 i _ y (by simp[hx]) hy⟩
theorem z8.drop {α β:Type}{R:α->β->Prop}{xs:ON α}{ys:ON β}(h:z8 R xs ys) (n:Nat):z8 R (xs.drop n) (ys.drop n) :=⟨by simp[h.1],λi a b ha hb=>h.2 (n+i) a b (by simpa using ha) (by simpa using hb)⟩
theorem z8.take {α β:Type}{R:α->β->Prop}{xs:ON α}{ys:ON β}(h:z8 R xs ys) (n:Nat):z8 R (xs.take n) (ys.take n):=by
 refine⟨by simp[h.1],λi a b ha hb=>?_⟩;rw[Ld]at ha hb;split at ha
 ·rename_i hlt;rw[Nf hlt]at hb;exact h.2 i a b ha hb
 ·simp at ha
def RV (I:Nat->Nat->Prop) (J:Nat->Prop) (w:N4) (v:Value) (x:D):Prop :=match x with
 |.agg cs=>∃vs:ON Value,v = .agg vs.toArray/\z8 (R1 I J w) vs cs
 |x=>R1 I J w v x
theorem RV.cells {I J w v x} (h:RV I J w v x):z8 (R1 I J w) v.cells.toList x.cells:=by
 cases x<;>simp only[RV]at h<;>first
  |(obtain⟨vs,rfl,hv⟩:=h;simpa[LN,D.cells]using hv)
  |exact(by have h':=h;cases h<;>exact z8.cons h' z8.nil)
inductive AV where
 |d (x:D)
 |ptr (l o:Nat)
 |iptr (cs:ON D)
 |clo (f:Nat) (first cap:ON AV)
 |full (ds:ON D)
 |vec (l:Nat) (ds:ON D)
 |map (l:Nat)
 |tup (vs:ON AV)
 |agg (cs:ON AV)
 |any
 |opt (g:Nat) (pol:Bool) (x:AV)
 |yld (l:Nat)
 |nils
 |nilf
 |fsym (o:OK Nat)
 |msl (l:Nat)
 |eptr (l i o:Nat)
instance:Inhabited AV:=⟨.any⟩
inductive Box where
 |cells (T:TypeId) (cs:ON AV)
 |map (es:ON (D×D))
 |vec (n sz:Nat)
 |dead
 |arr (sz:Nat) (ds:ON D)
 |loop (tm:ON AV) (ps:ON Nat) (asn bd:Np) (pend:OK Np) (st:LoopState)
structure Cx where
 ρ:ON (OK (Nat×Nat))
 I:Nat->Nat->Prop
 J:Nat->Prop
inductive RA (c:Cx) (H:ON Box) (w:N4):AV->Value->Prop
 |d {x:D}{v:Value}(h:RV c.I c.J w v x):RA c H w (.d x) v
 |ptr {l o b k:Nat}{T:TypeId}{cs:ON AV}(hH:H[l]? = some (.cells T cs)) (h:c.ρ[l]? = some (some (b,k))):RA c H w (.ptr l o) (.pointer (some ⟨b,o,none⟩))
 |iptr {cs:ON D}{b o:Nat}(h:∀(j:Nat) x,cs[j]? = some x->c.I b (o+j)/\∃v,w.cell? ⟨b,o+j,none⟩=some v/\R1 c.I c.J w v x) :
   RA c H w (.iptr cs) (.pointer (some ⟨b,o,none⟩))
 |clo {f:Nat}{fi ca:ON AV}{fv cv:ON Value}(hf:fi.length=fv.length) (hc:ca.length=cv.length)
   (h1:∀(i:Nat) a v,fi[i]? = some a->fv[i]? = some v->RA c H w a v) (h2:∀(i:Nat) a v,ca[i]? = some a->cv[i]? = some v->RA c H w a v) :
   RA c H w (.clo f fi ca) (.func (.func f) fv.toArray cv.toArray)
 |full {ds:ON D}{a:OK LS}{n:Nat}(h:R1 c.I c.J w (.slice a n n) (.sl ds)):RA c H w (.full ds) (.slice a n n)
 |vec {l n sz:Nat}{ds:ON D}{a:OK LS}{m k:Nat}(h:R1 c.I c.J w (.slice a m k) (.sl ds)) (hH:H[l]? = some (.vec n sz)) (hn:ds.length<=n)
   (he:ds.length=n->k=m∨ ∃b,a=some ⟨b,0,none⟩/\c.ρ[l]? = some (some (b,k))):RA c H w (.vec l ds) (.slice a m k)
 |map {l b k:Nat}{es:ON (D×D)}(hH:H[l]? = some (.map es)) (h:c.ρ[l]? = some (some (b,k))):RA c H w (.map l) (.map (some b))
 |tup {aas:ON AV}{vs:ON Value}(hl:aas.length=vs.length) (h:∀(i:Nat) a v,aas[i]? = some a->vs[i]? = some v->RA c H w a v) :
   RA c H w (.tup aas) (.tuple vs.toArray)
 |agg {aas:ON AV}{vs:ON Value}(hl:aas.length=vs.length) (h:∀(i:Nat) a v,aas[i]? = some a->vs[i]? = some v->RA c H w a v) :
   RA c H w (.agg aas) (.agg vs.toArray)
 |any (v:Value):RA c H w .any v
 |opt (g:Nat) (pol:Bool) (x:AV) (v:Value):RA c H w (.opt g pol x) v
 |yld {l b k:Nat}{tm:ON AV}{ps:ON Nat}{asn bd:Np}{pend:OK Np}{st:LoopState}(hH:H[l]? = some (.loop tm ps asn bd pend st)) (h:c.ρ[l]? = some (some (b,k))):RA c H w (.yld l) (.func (.yield b) #[] #[])
 |nils:RA c H w .nils (.slice none 0 0)
 |nilf:RA c H w .nilf .nilFunc
 |fsym (o:OK Nat):RA c H w (.fsym o) (match o with|some n=>.func (.func n) #[] #[]|none=>.nilFunc)
 |msl {l b k sz:Nat}{ds:ON D}(hH:H[l]? = some (.arr sz ds)) (h:c.ρ[l]? = some (some (b,k))):RA c H w (.msl l) (.slice (some ⟨b,0,none⟩) ds.length ds.length)
 |eptr {l i o b k sz:Nat}{ds:ON D}(hH:H[l]? = some (.arr sz ds)) (h:c.ρ[l]? = some (some (b,k))):RA c H w (.eptr l i o) (.pointer (some ⟨b,i*sz+o,none⟩))
def sG (c:Cx) (H:ON Box) (w:N4) (b k:Nat):Box->Prop
 |.cells T cs=>∃vs:ON Value,w.heap[b]? = some (.cells vs.toArray T (0,0))/\z8 (λv a=>RA c H w a v) vs cs
 |.map es=>∃ents clk,w.heap[b]? = some (.map ents clk)/\z8 (λ(e:Kl) (kv:D×D)=>RV c.I c.J w e.key kv.1/\RV c.I c.J w e.val kv.2) ents.toList es
 |.vec n sz=>∃vs T,w.heap[b]? = some (.cells vs T (0,0))/\vs.size=k*sz/\n<=k
 |.dead=>OG
 |.arr sz ds=>∃(vs:ON Value) (T:TypeId),w.heap[b]? = some (.cells vs.toArray T (0,0))/\(∀d∈ds,d.cells.length=sz)/\z8 (R1 c.I c.J w) vs (ds.flatMap D.cells)
 |.loop tm ps asn bd pend st=>∃r:Loop,w.heap[b]? = some (.loop r)/\r.params.toList=ps/\r.assign=asn/\r.body=bd/\r.pending=pend/\r.state=st/\z8 (λv a=>RA c H w a v) r.tmps.toList tm
structure HR (c:Cx) (H:ON Box) (w:N4):Prop where
 len:c.ρ.length=H.length
 inj:∀l l' b k k':Nat,c.ρ[l]? = some (some (b,k))->c.ρ[l']? = some (some (b,k'))->l=l'
 box:∀(l b k:Nat) x,c.ρ[l]? = some (some (b,k))->H[l]? = some x->sG c H w b k x
 non:∀(l:Nat) x,c.ρ[l]? = some none->H[l]? = some x->(∃n sz,x = .vec n sz)∨x = .dead
 lt:∀l b k:Nat,c.ρ[l]? = some (some (b,k))->b<w.heap.size
 ilt:∀b o,c.I b o->b<w.heap.size
 jlt:∀r,c.J r->r<w.heap.size
 iap:∀b o l k:Nat,c.I b o->c.ρ[l]? = some (some (b,k))->∃n sz,H[l]? = some (.vec n sz)/\o<n*sz
 jap:∀r l k:Nat,c.J r->c.ρ[l]? ≠ some (some (r,k))
structure Ext (c:Cx) (w:N4) (c':Cx) (w':N4):Prop where
 os:w'.os=w.os
 tape:w'.tape=w.tape
 output:w'.output=w.output
 isub:∀b o,c.I b o->c'.I b o
 jsub:∀r,c.J r->c'.J r
 icell:∀b o,c.I b o->w'.cell? ⟨b,o,none⟩=w.cell? ⟨b,o,none⟩
 jobj:∀r,c.J r->w'.heap[r]? = w.heap[r]?
 size:w.heap.size<=w'.heap.size
 frame:∀b,b<w.heap.size->(∀l k:Nat,c.ρ[l]? ≠ some (some (b,k)))->w'.heap[b]? = w.heap[b]?
 inew:∀b o:Nat,c'.I b o->c.I b o∨w.heap.size<=b∨ ∃l k:Nat,c.ρ[l]? = some (some (b,k))
 jnew:∀r:Nat,c'.J r->c.J r∨w.heap.size<=r
 fresh:∀l b k:Nat,c'.ρ[l]? = some (some (b,k))->(∃l' k':Nat,c.ρ[l']? = some (some (b,k')))∨w.heap.size<=b
theorem Ext.refl (c:Cx) (w:N4):Ext c w c w :=⟨rfl,rfl,rfl,λ_ _ h=>h,λ_ h=>h,λ_ _ _=>rfl,λ_ _=>rfl,MS _,λ_ _ _=>rfl,λ_ _ h=>.inl h,λ_ h=>.inl h,λl _ k h=>.inl ⟨l,k,h⟩⟩
theorem Ext.trans {c w c' w' c'' w''} (h:Ext c w c' w') (h':Ext c' w' c'' w''):Ext c w c'' w'' where
 os:=h'.os.trans h.os
 tape:=h'.tape.trans h.tape
 output:=h'.output.trans h.output
 isub b o x:=h'.isub b o (h.isub b o x)
 jsub r x:=h'.jsub r (h.jsub r x)
 icell b o x:=by rw[h'.icell b o (h.isub b o x),h.icell b o x]
 jobj r x:=by rw[h'.jobj r (h.jsub r x),h.jobj r x]
 size:=KG h.size h'.size
 frame b hb hn:=by
  rw[h'.frame b (MM hb h.size) (λl k hl=>?_),h.frame b hb hn];rcases h.fresh l b k hl with⟨l',k',hl'⟩|hge
  ·exact hn l' k' hl'
  ·omega
 inew b o hi:=by
  rcases h'.inew b o hi with h1|h1|⟨l,k,h1⟩
  ·exact h.inew b o h1
  ·exact .inr (.inl (KG h.size h1))
  ·rcases h.fresh l b k h1 with⟨l',k',h2⟩|h2
   ·exact .inr (.inr ⟨l',k',h2⟩)
   ·exact .inr (.inl h2)
 jnew r hr:=by
  rcases h'.jnew r hr with h1|h1
  ·exact h.jnew r h1
  ·exact .inr (KG h.size h1)
 fresh l b k hl:=by
  rcases h'.fresh l b k hl with⟨l',k',hl'⟩|hge
  ·exact h.fresh l' b k' hl'
  ·exact .inr (KG h.size hge)
def zp (c:Cx) (H:ON Box) (c':Cx) (H':ON Box):Prop :=∀(l:Nat) x,H[l]? = some x->match x with
  |.vec n sz=>∃n',H'[l]? = some (.vec n' sz)/\n<=n'/\(n=n'->c'.ρ[l]? = c.ρ[l]?)
  |.dead=>OG
  |.arr sz ds=>(∃ds',H'[l]? = some (.arr sz ds')/\ds'.length=ds.length)/\c'.ρ[l]? = c.ρ[l]?
  |.cells T _=>(∃cs',H'[l]? = some (.cells T cs'))/\c'.ρ[l]? = c.ρ[l]?
  |.map _=>(∃es',H'[l]? = some (.map es'))/\c'.ρ[l]? = c.ρ[l]?
  |.loop tm ps asn bd _ _=>(∃pend' st',H'[l]? = some (.loop tm ps asn bd pend' st'))/\c'.ρ[l]? = c.ρ[l]?
theorem zp.refl (c:Cx) (H:ON Box):zp c H c H:=by intro l x h;cases x<;>simp_all
theorem zp.trans {c H c' H' c'' H''} (h:zp c H c' H') (h':zp c' H' c'' H''):zp c H c'' H'':=by
 intro l x hx;have h1:=h l x hx;cases x with
 |vec n sz =>
  obtain⟨n',a,b,e⟩:=h1;obtain⟨n'',a',b',e'⟩:=h' l _ a;exact⟨n'',a',KG b b',λhe=>by
   have e1:n=n':=by omega
   have e2:n'=n'':=by omega
   rw[e' e2,e e1]⟩
 |dead=>trivial
 |arr sz ds =>
  obtain⟨⟨ds',a,n⟩,e⟩:=h1;obtain⟨⟨ds'',a',n'⟩,e'⟩:=h' l _ a;exact⟨⟨ds'',a',n'.trans n⟩,by rw[e',e]⟩
 |cells T cs =>
  obtain⟨⟨cs',a⟩,e⟩:=h1;obtain⟨⟨cs'',a'⟩,e'⟩:=h' l _ a;exact⟨⟨cs'',a'⟩,by rw[e',e]⟩
 |map es =>
  obtain⟨⟨cs',a⟩,e⟩:=h1;obtain⟨⟨cs'',a'⟩,e'⟩:=h' l _ a;exact⟨⟨cs'',a'⟩,by rw[e',e]⟩
 |loop tm ps asn bd pend st =>
  obtain⟨⟨p1,s1,a⟩,e⟩:=h1;obtain⟨⟨p2,s2,a'⟩,e'⟩:=h' l _ a;exact⟨⟨p2,s2,a'⟩,by rw[e',e]⟩
theorem R1.ext {c w c' w'} (e:Ext c w c' w') {v x} (h:R1 c.I c.J w v x):R1 c'.I c'.J w' v x:=by
 induction h with
 |int k n=>exact .int k n
 |bool b=>exact .bool b
 |str s=>exact .str s
 |fn f=>exact .fn f
 |nil=>exact .nil
 |emp a cap=>exact .emp a cap
 |sl b off cap sz ds vals hsz hc hr hcap ih =>
  exact .sl b off cap sz ds vals hsz (λi j d hd=>⟨e.isub _ _ (hc i j d hd).1,by rw[e.icell _ _ (hc i j d hd).1];exact(hc i j d hd).2⟩) ih hcap
 |gmap r ents clk es hJ hw hlen hk hv ihk ihv=>exact .gmap r ents clk es (e.jsub _ hJ) (by rw[e.jobj _ hJ];exact hw) hlen ihk ihv
theorem RV.ext {c w c' w'} (e:Ext c w c' w') {v x} (h:RV c.I c.J w v x):RV c'.I c'.J w' v x:=by
 cases x<;>simp only[RV]at h ⊢ <;> first
  |exact R1.ext e h
  |(obtain⟨vs,rfl,hv⟩:=h;exact⟨vs,rfl,hv.mono λ_ _=>R1.ext e⟩)
theorem RA.ext {c H w c' H' w'} (e:Ext c w c' w') (k:zp c H c' H') {v a} (h:RA c H w a v):RA c' H' w' a v:=by
 induction h with
 |d h=>exact .d (h.ext e)
 |@ptr l o b q T cs hH h =>
  obtain⟨⟨cs',h1⟩,h2⟩:=k l _ hH;exact .ptr h1 (by rw[h2];exact h)
 |iptr h=>exact .iptr λj x hx=>⟨e.isub _ _ (h j x hx).1,by obtain⟨hi,v,hv,hr⟩:=h j x hx;exact⟨v,by rw[e.icell _ _ hi];exact hv,hr.ext e⟩⟩
 |clo hf hc _ _ ih1 ih2=>exact .clo hf hc ih1 ih2
 |full h=>exact .full (h.ext e)
 |nils=>exact .nils
 |nilf=>exact .nilf
 |fsym o=>exact .fsym o
 |@vec l n sz ds a m q h hH hn he =>
  obtain⟨n',a',b',e'⟩:=k l _ hH;refine .vec (h.ext e) a' (by omega) λhl=>?_;have e1:n=n':=by omega
  rcases he (by omega)with h1|⟨b,h1,h2⟩
  ·exact .inl h1
  ·exact .inr ⟨b,h1,by rw[e' e1];exact h2⟩
 |@map l b q es hH h =>
  obtain⟨⟨cs',h1⟩,h2⟩:=k l _ hH;exact .map h1 (by rw[h2];exact h)
 |tup hl _ ih=>exact .tup hl ih
 |agg hl _ ih=>exact .agg hl ih
 |any v=>exact .any v
 |opt g p x v=>exact .opt g p x v
 |@msl l b q sz ds hH h =>
  obtain⟨⟨ds',h1,hn⟩,h2⟩:=k l _ hH;rw[←hn];exact .msl h1 (by rw[h2];exact h)
 |@eptr l i o b q sz ds hH h =>
  obtain⟨⟨ds',h1,hn⟩,h2⟩:=k l _ hH;exact .eptr h1 (by rw[h2];exact h)
 |@yld l b q tm ps asn bd pend st hH h =>
  obtain⟨⟨p1,s1,h1⟩,h2⟩:=k l _ hH;exact .yld h1 (by rw[h2];exact h)
open Go.Sx renaming Ext->Nw
open Go.Sx.AV renaming d->OF
open Go.Sx.Box renaming vec->Lo
open Go.Sx.D renaming cells->Mw
open Go.Sx.Ext renaming refl->L7
open Go.Sx.R1 renaming bool->Kk,emp->HK,int->KL,sl->I2
open Go.Sx.RA renaming vec->H4
open Go.Sx.z8 renaming cons->M8,nil->Mh
open Go.Sx.zp renaming refl->Md
theorem xz {w w':N4}{b:Nat}(h:w'.heap[b]? = w.heap[b]?) (o:Nat) (s:OK Nat):w'.cell? ⟨b,o,s⟩=w.cell? ⟨b,o,s⟩:=by simp[Ko,h]
theorem zC {w:N4}{o:Ln}{b:Nat}(h:b<w.heap.size):({ w with heap:=w.heap.push o }:N4).heap[b]? = w.heap[b]? :=by simp only;rw[OC.getElem?_push];simp[Nat.ne_of_lt h]
theorem wf (w:N4) (o:Ln):({ w with heap:=w.heap.push o }:N4).heap[w.heap.size]? = some o:=by simp
theorem sG.ext {c H w c' H' w' b k x} (e:Nw c w c' w') (kp:zp c H c' H') (hb:w'.heap[b]? = w.heap[b]?) (h:sG c H w b k x):sG c' H' w' b k x:=by
 cases x with
 |cells T cs=>obtain⟨vs,h1,h2⟩:=h;exact⟨vs,by rw[hb];exact h1,h2.mono λ_ _ h=>h.ext e kp⟩
 |map es=>obtain⟨en,clk,h1,h2⟩:=h;exact⟨en,clk,by rw[hb];exact h1,h2.mono λ_ _ h=>⟨h.1.ext e,h.2.ext e⟩⟩
 |vec n sz=>obtain⟨vs,T,h1,h2⟩:=h;exact⟨vs,T,by rw[hb];exact h1,h2⟩
 |dead=>trivial
 |arr sz ds=>obtain⟨vs,T,h1,h2,h3⟩:=h;exact⟨vs,T,by rw[hb];exact h1,h2,h3.mono λ_ _ h=>h.ext e⟩
 |loop tm ps asn bd pend st=>obtain⟨r,h1,h2,h3,h4,h5,h6,h7⟩:=h;exact⟨r,by rw[hb];exact h1,h2,h3,h4,h5,h6,h7.mono λ_ _ h=>h.ext e kp⟩
theorem Ext.drew (c:Cx) (w:N4) (n:Nat):Nw c w c { w with drawn:=n } :=⟨rfl,rfl,rfl,λ_ _ h=>h,λ_ h=>h,λ_ _ _=>rfl,λ_ _=>rfl,MS _,λ_ _ _=>rfl,λ_ _ h=>.inl h,λ_ h=>.inl h,λl _ k h=>.inl ⟨l,k,h⟩⟩
theorem HR.drew {c H w} (h:HR c H w) (n:Nat):HR c H { w with drawn:=n } where
 len:=h.len
 inj:=h.inj
 box l b k x h1 h2:=(h.box l b k x h1 h2).ext (Ext.drew c w n) (Md _ _) rfl
 non:=h.non
 lt:=h.lt
 ilt:=h.ilt
 jlt:=h.jlt
 iap:=h.iap
 jap:=h.jap
def Cx.imm (c:Cx) (b n:Nat):Cx:= { c with I:=λb' o=>c.I b' o∨(b'=b/\o<n) }
theorem Ext.push_imm (c:Cx) (w:N4) (o:Ln) (n:Nat) (hi:∀b o,c.I b o->b<w.heap.size) (hj:∀r,c.J r->r<w.heap.size): Nw c w (c.imm w.heap.size n) { w with heap:=w.heap.push o } where
 os:=rfl
 tape:=rfl
 output:=rfl
 isub _ _ h:= .inl h
 jsub _ h:=h
 icell b o h:=xz (zC (hi b o h)) _ _
 jobj r h:=zC (hj r h)
 size:=by simp
 frame b hb _:=zC hb
 inew b o h:=by
  rcases h with h|⟨rfl,_⟩
  ·exact .inl h
  ·exact .inr (.inl (MS _))
 jnew _ h:= .inl h
 fresh l b k h:= .inl ⟨l,k,h⟩
theorem HR.push_imm {c H w} (h:HR c H w) (o:Ln) (n:Nat):HR (c.imm w.heap.size n) H { w with heap:=w.heap.push o } where
 len:=h.len
 inj:=h.inj
 box l b k x h1 h2:=(h.box l b k x h1 h2).ext (Ext.push_imm c w o n h.ilt h.jlt) (Md _ _) (zC (h.lt l b k h1))
 non:=h.non
 lt l b k h1:=by have:=h.lt l b k h1;simp;omega
 ilt b o hi:=by
  rcases hi with hi|⟨rfl,_⟩
  ·have:=h.ilt b o hi;simp;omega
  ·simp
 jlt r hr:=by have:=h.jlt r hr;simp;omega
 iap b o l k hi h1:=by
  rcases hi with hi|⟨rfl,_⟩
  ·exact h.iap b o l k hi h1
  ·exact No (h.lt l _ k h1) (Nat.lt_irrefl _)
 jap:=h.jap
theorem zp.imm (c:Cx) (H:ON Box) (b n:Nat):zp c H (c.imm b n) H:=Md c H
def Cx.grow (c:Cx) (b k:Nat):Cx:= { c with ρ:=c.ρ++[some (b,k)] }
theorem sF {α:Type}{xs:ON α}{y:α}{l:Nat}(h:l<xs.length):(xs++[y])[l]? = xs[l]? :=by rw[LJ h]
theorem yG {α:Type}{xs:ON α}{x y:α}{l:Nat}(h:xs[l]? = some x):(xs++[y])[l]? = some x:=by
 have:l<xs.length:=by rcases M0 l xs.length with h' |h';exact h';simp[My h']at h
 rw[sF this,h]
theorem zw {α:Type}{xs:ON α}{x y:α}{l:Nat}(h:(xs++[y])[l]? = some x):xs[l]? = some x∨(l=xs.length/\x=y):=by
 rw[DW]at h;split at h
 ·exact .inl h
 ·rename_i hl;rcases M0 (l - xs.length) 1 with h1|h1
  ·have:l - xs.length=0:=by omega
   rw[this]at h;simp at h;exact .inr ⟨by omega,h.symm⟩
  ·rw[My (by simpa using h1)]at h;simp at h
theorem zp.grow (c:Cx) (H:ON Box) (b k:Nat) (x:Box) (hl:c.ρ.length=H.length):zp c H (c.grow b k) (H++[x]):=by
 intro l y hy;have hlt:l<H.length:=by rcases M0 l H.length with h' |h';exact h';simp[My h']at hy
 have e1:(H++[x])[l]? = some y:=yG hy;have e2:(c.grow b k).ρ[l]? = c.ρ[l]? :=sF (by omega);cases y<;>simp only[e1,e2]<;>simp
theorem Ext.push_box (c:Cx) (w:N4) (o:Ln) (k:Nat) (hi:∀b o,c.I b o->b<w.heap.size) (hj:∀r,c.J r->r<w.heap.size): Nw c w (c.grow w.heap.size k) { w with heap:=w.heap.push o } where
 os:=rfl
 tape:=rfl
 output:=rfl
 isub _ _ h:=h
 jsub _ h:=h
 icell b o h:=xz (zC (hi b o h)) _ _
 jobj r h:=zC (hj r h)
 size:=by simp
 frame b hb _:=zC hb
 inew _ _ h:= .inl h
 jnew _ h:= .inl h
 fresh l b k h:=by
  rcases zw h with h|⟨_,h⟩
  ·exact .inl ⟨l,k,h⟩
  ·simp at h;exact .inr (by omega)
theorem HR.push_box {c H w} (h:HR c H w) (o:Ln) (k:Nat) (x:Box) (hx:sG (c.grow w.heap.size k) (H++[x]) { w with heap:=w.heap.push o } w.heap.size k x): HR (c.grow w.heap.size k) (H++[x]) { w with heap:=w.heap.push o } where
 len:=by simp[Cx.grow,h.len]
 inj l l' b k k' h1 h2:=by
  rcases zw h1 with h1|⟨e1,h1⟩<;>rcases zw h2 with h2|⟨e2,h2⟩
  ·exact h.inj l l' b k k' h1 h2
  ·simp at h2;have:=h.lt l b k h1;omega
  ·simp at h1;have:=h.lt l' b k' h2;omega
  ·omega
 box l b k y h1 h2:=by
  rcases zw h1 with h1|⟨e1,h1⟩
  ·rcases zw h2 with h2|⟨e2,h2⟩
   ·exact(h.box l b k y h1 h2).ext (Ext.push_box c w o _ h.ilt h.jlt) (zp.grow c H _ _ x h.len) (zC (h.lt l b k h1))
   ·have:=h.len;rw[My (by omega)]at h1;simp at h1
  ·rcases zw h2 with h2|⟨e2,h2⟩
   ·have:=h.len;rw[My (by omega)]at h2;simp at h2
   ·simp at h1;obtain⟨rfl,rfl⟩:=h1;subst h2;exact hx
 non l y h1 h2:=by
  rcases zw h1 with h1|⟨e1,h1⟩
  ·rcases zw h2 with h2|⟨e2,h2⟩
   ·exact h.non l y h1 h2
   ·have:=h.len;rw[My (by omega)]at h1;simp at h1
  ·simp at h1
 lt l b k h1:=by
  rcases zw h1 with h1|⟨_,h1⟩
  ·have:=h.lt l b k h1;simp;omega
  ·simp at h1;simp;omega
 ilt b o hi:=by have:=h.ilt b o hi;simp;omega
 jlt r hr:=by have:=h.jlt r hr;simp;omega
 iap b o l k hi h1:=by
  rcases zw h1 with h1|⟨_,h1⟩
  ·obtain⟨n,sz,h2,h3⟩:=h.iap b o l k hi h1;exact⟨n,sz,yG h2,h3⟩
  ·simp at h1;have:=h.ilt b o hi;omega
 jap r l k hr h1:=by
  rcases zw h1 with h1|⟨_,h1⟩
  ·exact h.jap r l k hr h1
  ·simp at h1;have:=h.jlt r hr;omega
theorem zG {α:Type}{xs:ON α}{y:α}{l l':Nat}(h:l≠l'):(xs.set l y)[l']? = xs[l']? :=by rw[LQ];simp[h]
theorem xy {α:Type}{xs:ON α}{x y:α}{l:Nat}(h:xs[l]? = some x):(xs.set l y)[l]? = some y:=by
 have:l<xs.length:=by rcases M0 l xs.length with h' |h';exact h';simp[My h']at h
 rw[LQ];simp[this]
section
variable {c:Cx}{H:ON Box}{w w':N4}{l b k:Nat}
theorem Ext.set_box (hb:c.ρ[l]? = some (some (b,k))) (hR:HR c H w) (hos:w'.os=w.os) (ht:w'.tape=w.tape) (hout:w'.output=w.output) (hs:w'.heap.size=w.heap.size) (ho:∀b',b'≠b->w'.heap[b']? = w.heap[b']?) (hnv:∀n sz,H[l]? ≠ some (.vec n sz)):Nw c w c w' where
 os:=hos
 tape:=ht
 output:=hout
 isub _ _ h:=h
 jsub _ h:=h
 icell b' o hi:=xz (ho b' (λe=>by subst e;obtain⟨n,sz,h1,_⟩:=hR.iap b' o l k hi hb;exact hnv n sz h1)) _ _
 jobj r hr:=ho r (λe=>by subst e;exact hR.jap r l k hr hb)
 size:=by omega
 frame b' _ hn:=ho b' (λe=>by subst e;exact hn l k hb)
 inew _ _ h:= .inl h
 jnew _ h:= .inl h
 fresh l b k h:= .inl ⟨l,k,h⟩
theorem zp.set_cells {T:TypeId}{cs:ON AV}(hl:H[l]? = some (.cells T cs)) (cs':ON AV):zp c H c (H.set l (.cells T cs')):=by
 intro m y hy;by_cases e:l=m
 ·subst e;rw[hl]at hy;simp at hy;subst hy;exact⟨⟨cs',xy hl⟩,rfl⟩
 ·cases y<;>simp only[zG e,hy]<;>simp
theorem zp.set_map {es:ON (D×D)}(hl:H[l]? = some (.map es)) (es':ON (D×D)):zp c H c (H.set l (.map es')):=by
 intro m y hy;by_cases e:l=m
 ·subst e;rw[hl]at hy;simp at hy;subst hy;exact⟨⟨es',xy hl⟩,rfl⟩
 ·cases y<;>simp only[zG e,hy]<;>simp
theorem HR.set_box {x y:Box}(hb:c.ρ[l]? = some (some (b,k))) (hR:HR c H w) (hl:H[l]? = some x) (hs:w'.heap.size=w.heap.size) (ho:∀b',b'≠b->w'.heap[b']? = w.heap[b']?) (hnv:∀n sz,x ≠ .vec n sz) (e:Nw c w c w') (kp:zp c H c (H.set l y)) (hy:sG c (H.set l y) w' b k y):HR c (H.set l y) w' where
 len:=by simp[hR.len]
 inj:=hR.inj
 box m b' k' z h1 h2:=by
  by_cases hm:l=m
  ·subst hm;rw[xy hl]at h2;rw[hb]at h1;simp at h1 h2;obtain⟨rfl,rfl⟩:=h1;subst h2;exact hy
  ·rw[zG hm]at h2;refine(hR.box m b' k' z h1 h2).ext e kp (ho b' (λe'=>?_));subst e';exact hm (hR.inj l m b' k k' hb h1)
 non m z h1 h2:=by
  by_cases hm:l=m
  ·subst hm;rw[hb]at h1;simp at h1
  ·rw[zG hm]at h2;exact hR.non m z h1 h2
 lt m b' k' h1:=by rw[hs];exact hR.lt m b' k' h1
 ilt b' o h:=by rw[hs];exact hR.ilt b' o h
 jlt r h:=by rw[hs];exact hR.jlt r h
 iap b' o m k' hi h1:=by
  obtain⟨n,sz,h2,h3⟩:=hR.iap b' o m k' hi h1;by_cases hm:l=m
  ·subst hm;rw[hl]at h2;simp at h2;exact No h2 (hnv n sz)
  ·exact⟨n,sz,by rw[zG hm];exact h2,h3⟩
 jap:=hR.jap
end
open Go.Sx.Ext renaming push_box->IQ,push_imm->Gt,set_box->Gf
open Go.Sx.HR renaming push_box->He,set_box->GN
open Go.Sx.zp renaming grow->JE
def avD1:AV->OK D
 |.d (.agg _)=>none
 |.d x=>some x
 |.full ds=>some (.sl ds)
 |.nils=>some (.sl [])
 |.vec _ ds=>some (.sl ds)
 |.clo f [] []=>some (.fn f)
 |_=>none
def avD:AV->OK D
 |.d x=>some x
 |.agg cs=>(cs.mapM avD1).map .agg
 |a=>avD1 a
section
variable {P:Ng}{c:Cx}{H:ON Box}{w:N4}
theorem RV.one {I:Nat->Nat->Prop}{J:Nat->Prop}{v:Value}{x:D}(h:RV I J w v x) (hx:∀cs,x ≠ .agg cs):R1 I J w v x:=by cases x<;>first|exact h|exact No rfl (hx _)
theorem R1.rv {I:Nat->Nat->Prop}{J:Nat->Prop}{v:Value}{x:D}(h:R1 I J w v x):RV I J w v x:=by have h':=h;cases h<;>exact h'
theorem pW {a:AV}{v:Value}{x:D}(h:RA c H w a v) (e:avD1 a=some x):R1 c.I c.J w v x:=by
 cases h with
 |@d y v h =>
  cases y<;>simp[avD1]at e<;>subst e<;>exact h
 |full h=>simp[avD1]at e;subst e;exact h
 |nils=>simp[avD1]at e;subst e;exact .nil
 |vec h=>simp[avD1]at e;subst e;exact h
 |@clo f fi ca fv cv hf hc =>
  cases fi<;>cases ca<;>simp[avD1]at e
  subst e;have:fv=[]:=by simpa using hf.symm
  have:cv=[]:=by simpa using hc.symm
  subst_vars
  exact .fn f
 |_=>simp[avD1]at e
theorem mapM_avD1:∀{aas:ON AV}{ds:ON D}{vs:ON Value},aas.mapM avD1=some ds->z8 (λv a=>RA c H w a v) vs aas->z8 (R1 c.I c.J w) vs ds
 |[],ds,vs,h,h2=>by simp at h;subst h;have:=h2.nil_right;subst this;exact Mh
 |a::aas,ds,vs,h,h2=>by
  rw[Jq]at h;cases ha:avD1 a with
  |none=>rw[ha]at h;simp at h
  |some x =>
   rw[ha]at h;cases hr:aas.mapM avD1 with
   |none=>rw[hr]at h;simp at h
   |some xs =>
    rw[hr]at h;simp at h;subst h;obtain⟨v,vs',rfl,h3,h4⟩:=h2.cons_right;exact M8 (pW h3 ha) (mapM_avD1 hr h4)
theorem wj {a:AV}{v:Value}{x:D}(h:RA c H w a v) (e:avD a=some x):RV c.I c.J w v x:=by
 cases a with
 |d y=>simp[avD]at e;subst e;cases h;assumption
 |agg cs =>
  simp only[avD]at e;cases hm:cs.mapM avD1 with
  |none=>rw[hm]at e;simp at e
  |some xs =>
   rw[hm]at e;simp at e;subst e;cases h with
   |@agg _ vs hl h=>exact⟨vs,rfl,mapM_avD1 hm ⟨hl.symm,λi v a hv ha=>h i a v ha hv⟩⟩
 |_=>exact(by simp only[avD]at e;exact(pW h e).rv)
theorem R1.oneCell {I:Nat->Nat->Prop}{J:Nat->Prop}{v:Value}{x:D}(h:R1 I J w v x):v.oneCell'=true:=by cases h<;>rfl
def uR (P:Ng) (T:TypeId):OK Bool :=match P.underlying T with
 |some (.struct _)=>some true
 |some (.array _ _)=>some true
 |some _=>some false
 |none=>none
def xq (P:Ng) (T:TypeId):OK Nat:=(P.info? T).map (·.size)
theorem qh {T:TypeId}{t:Bool}(h:uR P T=some t):(isAgg T).run P w = .ok t w:=by
 unfold uR at h;cases hu:P.underlying T with
 |none=>rw[hu]at h;simp at h
 |some d=>rw[hu]at h;cases d<;>simp at h<;>subst h<;>simp[isAgg,run_underlying hu]
theorem yt {T:TypeId}{n:Nat}(h:xq P T=some n):(sizeOf T).run P w = .ok n w:=by
 unfold xq at h;cases hi:P.info? T with
 |none=>rw[hi]at h;simp at h
 |some i=>rw[hi]at h;simp at h;subst h;simp[sizeOf,typeInfo,hi]
def Su (w:N4) (b o:Nat) (vs:ON Value):Prop:= ∀(j:Nat) v,vs[j]? = some v->w.cell? ⟨b,o+j,none⟩=some v
theorem xS (b o j:Nat):(⟨b,o,none⟩:LS).add j=⟨b,o+j,none⟩:=by unfold F4;split<;>simp_all
theorem fb {T:TypeId}{b o:Nat}{vs:ON Value}(hu:uR P T=some true) (hs:xq P T=some vs.length) (hc:Su w b o vs):(JU T (.pointer (some ⟨b,o,none⟩))).run P w = .ok (.agg vs.toArray) w:=by have h1:(loadCells ⟨b,o,none⟩ vs.length).run P w = .ok vs.toArray w:=run_loadCells_list w ⟨b,o,none⟩ vs (λj v hj=>by rw[xS];exact hc j v hj);simp[JU,JZ,loadVar,qh hu,yt hs,h1]
theorem fa {T:TypeId}{b o:Nat}{v:Value}(hu:uR P T=some false) (hc:w.cell? ⟨b,o,none⟩=some v):(JU T (.pointer (some ⟨b,o,none⟩))).run P w = .ok v w:=by simp[JU,JZ,loadVar,qh hu,hc]
def u0 (P:Ng) (T:TypeId) (cells:ON AV):OK AV :=match uR P T with
 |some true=>match xq P T with
  |some n=>if(cells.take n).length=n then some (.agg (cells.take n))else none
  |none=>none
 |some false=>cells.head?
 |none=>none
theorem uQ {T:TypeId}{b o:Nat}{cells:ON AV}{vs:ON Value}{a:AV}(h:u0 P T cells=some a) (hv:z8 (λv a=>RA c H w a v) vs cells) (hc:Su w b o vs):∃v,(JU T (.pointer (some ⟨b,o,none⟩))).run P w = .ok v w/\RA c H w a v:=by
 unfold u0 at h;cases hg:uR P T with
 |none=>rw[hg]at h;simp at h
 |some t =>
  rw[hg]at h;cases t with
  |false =>
   simp at h;cases cells with
   |nil=>simp at h
   |cons x xs =>
    simp at h;subst h;obtain⟨v,vs',rfl,h3,h4⟩:=hv.cons_right;exact⟨v,fa hg (by have:=hc 0 v rfl;simpa using this),h3⟩
  |true =>
   simp only at h;cases hs:xq P T with
   |none=>rw[hs]at h;simp at h
   |some n =>
    rw[hs]at h;simp only at h;split at h
    ·rename_i hn;simp only[K0]at h;subst h;have h5:=hv.take n;have hlen:(vs.take n).length=n:=by rw[h5.1,hn]
     refine⟨.agg (vs.take n).toArray,fb hg (by rw[hlen];exact hs) (λj v hj=>hc j v ?_),.agg h5.1.symm λi a v ha hv'=>h5.2 i v a hv' ha⟩;rw[Ld]at hj;split at hj
     ·exact hj
     ·simp at hj
    ·simp at h
inductive Sh where
 |int (k:OA)
 |bool
 |str
 |sl
 |fn
def D.toInt:D->Int
 |.int _ n=>n
 |_=>0
def D.toBool:D->Bool
 |.bool b=>b
 |_=>false
def D.toStr:D->ON UInt8
 |.str s=>s
 |_=>[]
def D.toSl:D->ON D
 |.sl ds=>ds
 |_=>[]
def D.toFn:D->Nat
 |.fn f=>f
 |_=>0
def Sh.norm:Sh->D->D
 |.int k,x=>.int k x.toInt
 |.bool,x=>.bool x.toBool
 |.str,x=>.str x.toStr
 |.sl,x=>.sl x.toSl
 |.fn,x=>.fn x.toFn
def vL (P:Ng):Nat->TypeId->OK (ON Sh)
 |0,_=>none
 |n+1,T =>
  match P.underlying T with
  |some (.int k)=>some [.int k]
  |some .bool=>some [.bool]
  |some .string=>some [.str]
  |some (.slice _)=>some [.sl]
  |some (.func _ _ _)=>some [.fn]
  |some (.struct fs)=>(fs.toList.mapM λf=>vL P n f.type).map ON.flatten
  |some (.array m e)=>(vL P n e).map λs=>(M4 m s).flatten
  |_=>none
def uy (P:Ng) (T:TypeId) (ds:ON D) (i:Nat):OK (ON D) :=(vL P 9 T).map λshs=>shs.zipIdx.map λ(sh,j)=>sh.norm ((z1 ds i j).getD default)
def aZ (agg:Bool) (cs:ON D):D:=if agg then .agg cs else cs.getD 0 default
theorem sE {T f:Nat}{fs:OC I1}{fd:I1}{n b o:Nat}(hu:P.underlying T=some (.struct fs)) (hf:fs[f]? = some fd) (hs:xq P fd.type=some (n+1)):(El T (.pointer (some ⟨b,o,none⟩)) f).run P w = .ok (.pointer (some ⟨b,o+fd.offset,none⟩)) w:=by simp[El,run_underlying hu,hf,JZ,fieldPlace,yt hs,xS]
theorem mE {T E:Nat}{b o len cap:Nat}{k:OA}{i:Int}{n:Nat}(hu:P.underlying T=some (.slice E)) (hs:xq P E=some n) (h0:0<=i) (h1:i<len):(Ir T (.slice (some ⟨b,o,none⟩) len cap) (.int k i)).run P w = .ok (.pointer (some ⟨b,o+i.toNat*n,none⟩)) w:=by simp[Ir,asIntOf,run_underlying hu,yt hs,h0,h1,xS]
theorem oY (s:ON UInt8):(⟨s.toArray⟩:NS).size=s.length:=by show s.toArray.size=_;simp
theorem Sf {s:ON UInt8}{i:Nat}(h:i<s.length):(⟨s.toArray⟩:NS)[i]? = some (s.getD i 0):=by
 have h2:i<(⟨s.toArray⟩:NS).size:=by rw[oY];exact h
 rw[getElem?_pos (⟨s.toArray⟩:NS) i h2];have:(⟨s.toArray⟩:NS)[i]=s[i]:=rfl;rw[this];simp[ON.getD,h]
theorem iJ {T:Nat}{s:ON UInt8}{k:OA}{i:Int}(hu:P.underlying T=some .string) (h0:0<=i) (h1:i.toNat<s.length):(ER T (.string ⟨s.toArray⟩) (.int k i)).run P w = .ok (.int .u8 (s.getD i.toNat 0).toNat) w:=by simp[ER,asIntOf,run_underlying hu,h0,Sf h1]
theorem pz {T E ty:Nat}{a:OK LS}{n cap:Nat}(hu:P.underlying T=some (.slice E)):(Ip #[T] ty #[.slice a n cap]).run P w = .ok (.int .i64 n) w:=by simp[Ip,run_underlying hu,goInt]
theorem cq {T ty:Nat}{s:ON UInt8}(hu:P.underlying T=some .string):(Ip #[T] ty #[.string ⟨s.toArray⟩]).run P w = .ok (.int .i64 s.length) w:=by simp[Ip,run_underlying hu,goInt,oY]
end
open Go.Sx.D renaming toFn->JB
def Se (op:KW) (a b:Int):OK Bool :=match op with
 |.eql=>some (a==b)
 |.neq=>some (a != b)
 |.lss=>some (decide (a<b))
 |.leq=>some (decide (a<=b))
 |.gtr=>some (decide (a>b))
 |.geq=>some (decide (a>=b))
 |_=>none
def Tg (op:KW) (k:OA) (a b:Int):OK (D×Prop) :=match op with
 |.add=>some (.int k (k.wrap (a+b)),OG)
 |.sub=>some (.int k (k.wrap (a - b)),OG)
 |.mul=>some (.int k (k.wrap (a*b)),OG)
 |.quo=>some (.int k (k.wrap (a.tdiv b)),b≠0)
 |.rem=>some (.int k (a.tmod b),b≠0)
 |.and=>some (.int k (k.wrap (JI k.bits a &&& JI k.bits b).toNat),OG)
 |.or=>some (.int k (k.wrap (JI k.bits a|||JI k.bits b).toNat),OG)
 |.xor=>some (.int k (k.wrap (JI k.bits a ^^^ JI k.bits b).toNat),OG)
 |.andNot=>some (.int k (k.wrap (JI k.bits a &&& ~~~(JI k.bits b)).toNat),OG)
 |op=>(Se op a b).map λr=>(.bool r,OG)
def fZ (op:KW) (k:OA) (a b:Int):OK (D×Prop) :=match op with
 |.shl=>some (.int k (k.wrap (a*2 ^ (min b.toNat k.bits))),0<=b)
 |.shr=>some (.int k (a.fdiv (2 ^ (min b.toNat k.bits))),0<=b)
 |_=>none
def Tf (op:KW) (s t:ON UInt8):OK (D×Prop) :=match op with
 |.add=>some (.str (s++t),s.length+t.length<=9223372036854775807)
 |.eql=>some (.bool (s==t),OG)
 |.neq=>some (.bool (!(s==t)),OG)
 |.lss=>some (.bool (Gs s t),OG)
 |.leq=>some (.bool (Gs s t||s==t),OG)
 |.gtr=>some (.bool (!(Gs s t||s==t)),OG)
 |.geq=>some (.bool (!(Gs s t)),OG)
 |_=>none
def aY (op:KW) (r:Bool):OK (D×Prop) :=match op with
 |.eql=>some (.bool r,OG)
 |.neq=>some (.bool (!r),OG)
 |_=>none
def eqD:D->D->OK Bool
 |.int k a,.int k' b=>if k=k' then some (a==b)else none
 |.bool a,.bool b=>some (a==b)
 |.str s,.str t=>some (s==t)
 |_,_=>none
def yE (P:Ng) (xs ys:ON D):ON I1->OK Bool
 |[]=>some true
 |f::fs =>
  if f.name ≠ "_" then
   match P.underlying f.type,xs[f.offset]?,ys[f.offset]? with
   |some (.int _),some (.int k a),some (.int k' b)=>if k=k' then(yE P xs ys fs).map λr=>(a==b)&&r else none
   |some .bool,some (.bool a),some (.bool b)=>(yE P xs ys fs).map λr=>(a==b)&&r
   |some .string,some (.str s),some (.str t)=>(yE P xs ys fs).map λr=>(s==t)&&r
   |_,_,_=>none
  else yE P xs ys fs
def cp (P:Ng) (T:TypeId):Bool:= !P.stoodInHeld T&& !P.eqGuardType P.depth T&&(P.underlying T matches some (.struct _))
def aX (P:Ng) (op:KW) (T:TypeId) (x y:D):OK (D×Prop) :=match x,y with
 |.int k a,.int k' b =>
  match op with
  |.shl=>fZ op k a b
  |.shr=>fZ op k a b
  |op=>if k=k' then Tg op k a b else none
 |.str s,.str t=>Tf op s t
 |.bool a,.bool b=>match P.underlying T with
  |some .bool=>aY op (a==b)
  |_=>none
 |.agg xs,.agg ys=>if cp P T then(yE P xs ys (P.fieldsOf T).toList).bind (aY op)else none
 |_,_=>none
section
variable {P:Ng}{I:Nat->Nat->Prop}{J:Nat->Prop}{w:N4}
theorem co {op:KW}{k:OA}{a b:Int}{r:D}{F:Prop}{T:TypeId}(h:Tg op k a b=some (r,F)) (hF:F) (hs:op ≠ .shl) (hs':op ≠ .shr):∃v,(binOp op T (.int k a) (.int k b)).run P w = .ok v w/\R1 I J w v r:=by
 cases op<;>simp only[Tg,Se,Ly,Kq]at h<;>first
  |exact No rfl hs
  |exact No rfl hs'
  |(cases h;refine⟨_,?_,KL _ _⟩;simp only[binOp,ne_eq,not_true_eq_false,if_false,B1,Op.intBits];rfl)
  |(cases h;refine⟨_,?_,KL _ _⟩;simp only[binOp,ne_eq,not_true_eq_false,if_false,Op.intDiv,N2 hF];rfl)
  |(cases h;refine⟨_,?_,Kk _⟩;simp only[binOp,ne_eq,not_true_eq_false,if_false,Op.intCmp];rfl)
  |cases h
theorem py {op:KW}{k k':OA}{a b:Int}{r:D}{F:Prop}{T:TypeId}(h:fZ op k a b=some (r,F)) (hF:F):∃v,(binOp op T (.int k a) (.int k' b)).run P w = .ok v w/\R1 I J w v r:=by
 cases op<;>simp only[fZ]at h<;>cases h
 all_goals
  have:¬ b<0:=by omega
  refine⟨_,?_,KL _ _⟩;simp only[binOp,Op.shift,N2 this];rfl
theorem aW (s:ON UInt8):(⟨s.toArray⟩:NS).toList=s:=An s
theorem Xn (s t:ON UInt8):(⟨s.toArray⟩:NS)++⟨t.toArray⟩=⟨(s++t).toArray⟩:=by
 have:((⟨s.toArray⟩:NS)++⟨t.toArray⟩).data=(s++t).toArray:=by rw[Ap];simp
 cases h:((⟨s.toArray⟩:NS)++⟨t.toArray⟩)with
 |mk data=>rw[h]at this;simp at this;rw[this]
theorem cn {op:KW}{s t:ON UInt8}{r:D}{F:Prop}{T:TypeId}(h:Tf op s t=some (r,F)) (hF:F):∃v,(binOp op T (.string ⟨s.toArray⟩) (.string ⟨t.toArray⟩)).run P w = .ok v w/\R1 I J w v r:=by
 cases op<;>simp only[Tf]at h<;>cases h
 case add =>
  have:¬ ((s.length+t.length:Nat):Int)>Nq.max:=by
   have e:Nq.max=9223372036854775807:=by decide
   rw[e];omega
  refine⟨.string ⟨(s++t).toArray⟩,?_,.str _⟩;simp only[binOp,B2,oY,N2 this,Xn];rfl
 all_goals
  refine⟨.bool _,?_,.bool _⟩;simp[binOp,B2]
theorem fY {op:KW}{a b:Bool}{r:D}{F:Prop}{T:TypeId}(hu:P.underlying T=some .bool) (h:aY op (a==b)=some (r,F)):∃v,(binOp op T (.bool a) (.bool b)).run P w = .ok v w/\R1 I J w v r:=by
 have hd:B3=9999+1:=rfl;cases op<;>simp only[aY]at h<;>cases h
 all_goals
  refine⟨.bool _,?_,.bool _⟩;simp[binOp,HV,hd,run_equalIn_bool' w 9999 T a b hu]
theorem yl {T off:Nat}{cs:OC Value}{v:Value}(hu:uR P T=some false) (h:cs[off]? = some v):(part T cs off).run P w = .ok v w:=by simp[part,qh hu,h]
theorem xR (d:Nat) {vs us:ON Value}{xs ys:ON D}(hx:z8 (R1 I J w) vs xs) (hy:z8 (R1 I J w) us ys):∀(fs:ON I1) (r:Bool),yE P xs ys fs=some r->(Gh (d+1) vs.toArray us.toArray fs).run P w = .ok r w
 |[],r,h=>by simp[yE]at h;subst h;simp[Gh]
 |f::fs,r,h=>by
  simp only[yE]at h;by_cases hn:f.name ≠ "_"
  ·rw[Nf hn]at h;simp only[Gh,Nf hn];split at h
   ·rename_i k0 k a k' b hu hxa hyb;split at h
    ·rename_i hk;subst hk;cases hr:yE P xs ys fs with
     |none=>rw[hr]at h;simp at h
     |some r' =>
      rw[hr]at h;simp at h;subst h;obtain⟨v,hv,hv'⟩:=hx.get hxa;obtain⟨u,hu1,hu'⟩:=hy.get hyb;cases hv';cases hu';have ag:uR P f.type=some false:=by simp[uR,hu]
      have ih:=xR d hx hy fs r' hr;simp only[Ms,yl (w:=w) ag (show vs.toArray[f.offset]? = some (.int k a) by simpa using hv),yl (w:=w) ag (show us.toArray[f.offset]? = some (.int k b) by simpa using hu1),Mt,run_equalIn_int w d f.type k k0 a b hu];cases hab:(a==b)<;>simp[ih]
    ·simp at h
   ·rename_i a b hu hxa hyb;cases hr:yE P xs ys fs with
    |none=>rw[hr]at h;simp at h
    |some r' =>
     rw[hr]at h;simp at h;subst h;obtain⟨v,hv,hv'⟩:=hx.get hxa;obtain⟨u,hu1,hu'⟩:=hy.get hyb;cases hv';cases hu';have ag:uR P f.type=some false:=by simp[uR,hu]
     have ih:=xR d hx hy fs r' hr;simp only[Ms,yl (w:=w) ag (show vs.toArray[f.offset]? = some (.bool a) by simpa using hv),yl (w:=w) ag (show us.toArray[f.offset]? = some (.bool b) by simpa using hu1),Mt,run_equalIn_bool' w d f.type a b hu];cases hab:(a==b)<;>simp[ih]
   ·rename_i s t hu hxa hyb;cases hr:yE P xs ys fs with
    |none=>rw[hr]at h;simp at h
    |some r' =>
     rw[hr]at h;simp at h;subst h;obtain⟨v,hv,hv'⟩:=hx.get hxa;obtain⟨u,hu1,hu'⟩:=hy.get hyb;cases hv';cases hu';have ag:uR P f.type=some false:=by simp[uR,hu]
     have ih:=xR d hx hy fs r' hr;simp only[Ms,yl (w:=w) ag (show vs.toArray[f.offset]? = some (.string ⟨s.toArray⟩) by simpa using hv),yl (w:=w) ag (show us.toArray[f.offset]? = some (.string ⟨t.toArray⟩) by simpa using hu1),Mt,run_equalIn_string w d f.type _ _ hu,aW];cases hab:(s==t)<;>simp[ih]
   ·simp at h
  ·rw[N2 hn]at h;simp only[Gh,N2 hn];exact xR d hx hy fs r h
theorem yF {op:KW}{T:TypeId}{x y:NF}{v u:Value}(h1:v ≠ .nilIface) (h2:∀cs,v ≠ .agg cs):(eqGuard op T x y v u).run P w = .ok () w:=by
 cases v<;>first
  |exact No rfl h1
  |exact No rfl (h2 _)
  |(cases op<;>rfl)
theorem aV {op:KW}{T:TypeId}{x y:D}{v u:Value}{r:D}{F:Prop}{ox oy:NF}(h:aX P op T x y=some (r,F)) (hF:F) (hv:RV I J w v x) (hu:RV I J w u y):∃z,(do eqGuard op T ox oy v u;binOp op T v u:NN Value).run P w = .ok z w/\R1 I J w z r:=by
 unfold aX at h;split at h
 ·cases hv;cases hu;rename_i k a k' b;have g:(eqGuard op T ox oy (.int k a) (.int k' b)).run P w = .ok () w:=yF (by simp) (by simp);simp only[Ms,g,Mt];split at h
  ·exact py h hF
  ·exact py h hF
  ·rename_i n1 n2;split at h
   ·rename_i hk;subst hk;exact co h hF (λe=>n1 e) (λe=>n2 e)
   ·simp at h
 ·cases hv;cases hu;rename_i s t;have g:(eqGuard op T ox oy (.string ⟨s.toArray⟩) (.string ⟨t.toArray⟩)).run P w = .ok () w:=yF (by simp) (by simp);simp only[Ms,g,Mt];exact cn h hF
 ·cases hv;cases hu;rename_i a b;have g:(eqGuard op T ox oy (.bool a) (.bool b)).run P w = .ok () w:=yF (by simp) (by simp);simp only[Ms,g,Mt];split at h
  ·rename_i hb;exact fY hb h
  ·simp at h
 ·rename_i xs ys;obtain⟨vs,rfl,hvs⟩:=hv;obtain⟨us,rfl,hus⟩:=hu;split at h
  ·rename_i hok;simp[cp]at hok;obtain⟨⟨ok1,ok2⟩,ok3⟩:=hok;have hst:P.underlying T=some (.struct (P.fieldsOf T)):=by
    unfold Ng.fieldsOf;split at ok3
    ·rename_i fs hfs;rw[hfs]
    ·simp at ok3
   cases hr:yE P xs ys (P.fieldsOf T).toList with
   |none=>rw[hr]at h;simp at h
   |some b =>
    rw[hr]at h;simp only[Iv]at h;have e:=xR (P:=P) 9998 hvs hus _ b hr;have e2:=run_equalIn_struct (P:=P) w 9999 T vs.toArray us.toArray hst ok1;simp only[Ms,run_eqGuard_agg w op T ox oy vs.toArray us.toArray ok2,Mt];cases op<;>simp only[aY]at h<;>cases h
    ·exact⟨.bool b,by rw[run_eql_struct,e2,e];rfl,.bool _⟩
    ·exact⟨.bool (!b),by rw[run_neq_struct,e2,e];rfl,.bool _⟩
  ·simp at h
 ·simp at h
end
def valD1:Value->OK D
 |.int k n=>some (.int k n)
 |.bool b=>some (.bool b)
 |.string s=>some (.str s.data.toList)
 |.slice none 0 0=>some (.sl [])
 |_=>none
def valD:Value->OK D
 |.agg cs=>(cs.toList.mapM valD1).map .agg
 |v=>valD1 v
def putL {α:Type}(cs:ON α) (off:Nat):ON α->ON α
 |[]=>cs
 |x::xs=>putL (cs.set off x) (off+1) xs
theorem sD {α:Type}:∀(xs cs:ON α) (off:Nat),(putL cs off xs).length=cs.length
 |[],_,_=>rfl
 |x::xs,cs,off=>by simp[putL,sD xs]
theorem lP {α:Type}:∀(xs cs:ON α) (off:Nat),off+xs.length<=cs.length->putL cs off xs=cs.take off++xs++cs.drop (off+xs.length)
 |[],cs,off,_=>by simp[putL]
 |x::xs,cs,off,h=>by
  simp at h;rw[putL,lP xs _ _ (by simp;omega)];have h1:off<cs.length:=by omega
  have t1:(cs.set off x).take (off+1)=cs.take off++[x]:=by rw[ON.take_succ_eq_append_getElem (by simpa using h1)];simp[ON.take_set_of_le]
  have t2:(cs.set off x).drop (off+1+xs.length)=cs.drop (off+(xs.length+1)):=by rw[ON.drop_set_of_lt (by omega)];congr 1;omega
  rw[t1,t2];simp
theorem z8.putL {α β:Type}{R:α->β->Prop}:∀{xs:ON α}{ys:ON β}{cs:ON α}{ds:ON β}(off:Nat),z8 R cs ds->z8 R xs ys->z8 R (putL cs off xs) (putL ds off ys)
 |xs,[],cs,ds,off,h,hx=>by have:=hx.nil_right;subst this;exact h
 |xs,y::ys,cs,ds,off,h,hx=>by obtain⟨x,xs',rfl,h1,h2⟩:=hx.cons_right;exact z8.putL (off+1) (h.set off h1) h2
theorem kQ {off:Nat}:∀(xs:ON Value) (k:Nat) (cs:OC Value),((xs.zipIdx k).foldl (λ(cs:OC Value) (p:Value×Nat)=>cs.setIfInBounds (off+p.2) p.1) cs).toList=putL cs.toList (off+k) xs
 |[],_,_=>rfl
 |x::xs,k,cs=>by simp only[C2,It,putL];rw[kQ xs (k+1)];simp[Iq]
def mD {β:Type}(place:Nat->OK (Nat×Nat)) (cells:ON β):ON (Nat×ON β)->OK (ON β)
 |[]=>some cells
 |(i,xs)::rest =>
  match place i with
  |none=>none
  |some (off,size)=>if xs.length=size/\off+size<=cells.length then mD place (putL cells off xs) rest else none
def isCell:AV->Bool
 |.d (.agg _)=>false
 |.d _=>true
 |.ptr _ _=>true
 |.iptr _=>true
 |.clo _ _ _=>true
 |.full _=>true
 |.vec _ _=>true
 |.map _=>true
 |.yld _=>true
 |.nils=>true
 |.nilf=>true
 |.fsym _=>true
 |.msl _=>true
 |.eptr _ _ _=>true
 |_=>false
def avCells:AV->OK (ON AV)
 |.d x=>some (x.cells.map .d)
 |.agg cs=>if cs.all isCell then some cs else none
 |.any=>none
 |.opt _ _ _=>none
 |.tup _=>none
 |a=>some [a]
def we (v:Value):AV :=match v with
 |.slice none 0 0=>.full []
 |v=>match valD1 v with
  |some x=>.d x
  |none=>.any
section
variable {P:Ng}{I:Nat->Nat->Prop}{J:Nat->Prop}{w:N4}
theorem uP {v:Value}{x:D}(h:valD1 v=some x):R1 I J w v x:=by
 unfold valD1 at h;split at h<;>cases h
 ·exact .int _ _
 ·exact .bool _
 ·rename_i s;have:s=⟨s.data.toList.toArray⟩:=by cases s;simp
  rw[this];simp;exact .str _
 ·exact .nil
theorem mapM_valD1:∀{vs:ON Value}{xs:ON D},vs.mapM valD1=some xs->z8 (R1 I J w) vs xs
 |[],xs,h=>by simp at h;subst h;exact Mh
 |v::vs,xs,h=>by
  rw[Jq]at h;cases hv:valD1 v with
  |none=>rw[hv]at h;simp at h
  |some y =>
   rw[hv]at h;cases hr:vs.mapM valD1 with
   |none=>rw[hr]at h;simp at h
   |some ys=>rw[hr]at h;simp at h;subst h;exact M8 (uP hv) (mapM_valD1 hr)
theorem kP {v:Value}{x:D}(h:valD v=some x):RV I J w v x:=by
 cases v with
 |agg cs =>
  simp only[valD]at h;cases hm:cs.toList.mapM valD1 with
  |none=>rw[hm]at h;simp at h
  |some xs=>rw[hm]at h;simp at h;subst h;exact⟨cs.toList,by simp,mapM_valD1 hm⟩
 |_=>exact(by simp only[valD]at h;exact(uP h).rv)
theorem pV {β:Type}{R:Value->β->Prop}{place:Nat->OK (Nat×Nat)}:∀{parts:ON (Nat×ON β)}{vparts:ON (Nat×Value)}{cs:OC Value}{ds out:ON β},z8 (λ(p:Nat×Value) (q:Nat×ON β)=>p.1=q.1/\z8 R p.2.cells.toList q.2) vparts parts->z8 R cs.toList ds->mD place ds parts=some out->∃cs',GP place cs vparts=some cs'/\z8 R cs'.toList out
 |[],vparts,cs,ds,out,hp,hc,h=>by have:=hp.nil_right;subst this;simp[mD]at h;subst h;exact⟨cs,rfl,hc⟩
 |(i,x)::parts,vparts,cs,ds,out,hp,hc,h=>by
  obtain⟨⟨i',v⟩,vp,rfl,⟨h1,h2⟩,hp'⟩:=hp.cons_right;simp only at h1;subst h1;simp only[mD]at h;cases hpl:place i' with
  |none=>rw[hpl]at h;simp at h
  |some q =>
   obtain⟨off,size⟩:=q;rw[hpl]at h;simp only at h;split at h
   ·rename_i hs;have e1:v.cells.size=size:=by have:=h2.1;simp at this;omega
    have e2:cs.size=ds.length:=by have:=hc.1;simpa using this
    have hnot:¬ ((decide (v.cells.size≠size)||decide (off+v.cells.size>cs.size))=true):=by simp;omega
    have hfold:(v.cells.zipIdx.foldl (λcs (x:Value×Nat)=>cs.setIfInBounds (off+x.2) x.1) cs).toList=putL cs.toList off v.cells.toList:=by rw[←FO,DS];exact kQ _ _ _
    obtain⟨cs',h3,h4⟩:=pV (cs:=v.cells.zipIdx.foldl (λcs (x:Value×Nat)=>cs.setIfInBounds (off+x.2) x.1) cs) hp' (by rw[hfold];exact hc.putL off h2) h;exact⟨cs',by simp only[GP,hpl];rw[N2 hnot];exact h3,h4⟩
   ·simp at h
end
section
variable {P:Ng}{c:Cx}{H:ON Box}{w:N4}
theorem R1.single {I:Nat->Nat->Prop}{J:Nat->Prop}{v:Value}{x:D}(h:R1 I J w v x):v.cells.toList=[v]:=by cases h<;>rfl
theorem aU {a:AV}{v:Value}(h:RA c H w a v) (hc:isCell a=true):v.oneCell'=true:=by
 cases h with
 |@d x v h=>cases x<;>first|(simp[isCell]at hc;done)|exact R1.oneCell h
 |fsym o=>cases o<;>rfl
 |_=>first|rfl|(simp[isCell]at hc;done)
theorem w7 {a:AV}{v:Value}{cs:ON AV}(h:RA c H w a v) (hc:avCells a=some cs):z8 (λv a=>RA c H w a v) v.cells.toList cs/\∀u∈v.cells.toList,u.oneCell'=true:=by
 cases h with
 |@d x v h =>
  simp[avCells]at hc;subst hc;have h2:=h.cells;refine⟨⟨by simp[h2.1],λi u y hu hy=>?_⟩,λu hu=>?_⟩
  ·simp only[M6]at hy;cases hx:x.cells[i]? with
   |none=>rw[hx]at hy;simp at hy
   |some z=>rw[hx]at hy;simp at hy;subst hy;exact .d (h2.2 i u z hu hx).rv
  ·obtain⟨i,hi,he⟩:=KS.1 hu;have hi':i<x.cells.length:=by rw[←h2.1];exact hi
   exact(h2.2 i u _ (by rw[LR hi,he]) (LR hi')).oneCell
 |ptr hH h=>simp[avCells]at hc;subst hc;exact⟨M8 (.ptr hH h) Mh,by intro u hu;simp[LN]at hu;subst hu;rfl⟩
 |iptr h=>simp[avCells]at hc;subst hc;exact⟨M8 (.iptr h) Mh,by intro u hu;simp[LN]at hu;subst hu;rfl⟩
 |clo a b h1 h2=>simp[avCells]at hc;subst hc;exact⟨M8 (.clo a b h1 h2) Mh,by intro u hu;simp[LN]at hu;subst hu;rfl⟩
 |full h=>simp[avCells]at hc;subst hc;exact⟨M8 (.full h) Mh,by intro u hu;simp[LN]at hu;subst hu;rfl⟩
 |vec h a b d=>simp[avCells]at hc;subst hc;exact⟨M8 (.vec h a b d) Mh,by intro u hu;simp[LN]at hu;subst hu;rfl⟩
 |map hH h=>simp[avCells]at hc;subst hc;exact⟨M8 (.map hH h) Mh,by intro u hu;simp[LN]at hu;subst hu;rfl⟩
 |msl hH h=>simp[avCells]at hc;subst hc;exact⟨M8 (.msl hH h) Mh,by intro u hu;simp[LN]at hu;subst hu;rfl⟩
 |eptr hH h=>simp[avCells]at hc;subst hc;exact⟨M8 (.eptr hH h) Mh,by intro u hu;simp[LN]at hu;subst hu;rfl⟩
 |nils=>simp[avCells]at hc;subst hc;exact⟨M8 .nils Mh,by intro u hu;simp[LN]at hu;subst hu;rfl⟩
 |nilf=>simp[avCells]at hc;subst hc;exact⟨M8 .nilf Mh,by intro u hu;simp[LN]at hu;subst hu;rfl⟩
 |fsym o=>simp[avCells]at hc;subst hc;cases o<;>exact⟨M8 (.fsym _) Mh,by intro u hu;simp[LN]at hu;subst hu;rfl⟩
 |tup=>simp[avCells]at hc
 |@agg aas vs hl h =>
  simp only[avCells]at hc;split at hc
  ·rename_i hall;simp only[K0]at hc;subst hc;simp only[LN];refine⟨⟨hl.symm,λi v a hv ha=>h i a v ha hv⟩,λu hu=>?_⟩;obtain⟨i,hi,he⟩:=KS.1 hu;have hi2:i<vs.length:=by simpa using hi
   have hi':i<aas.length:=by omega
   refine aU (h i aas[i] u (by simp[hi']) ?_) (ND.1 hall _ (KQ hi'));have he':vs[i]=u:=he;simp[hi2,he']
  ·simp at hc
 |any=>simp[avCells]at hc
 |opt=>simp[avCells]at hc
 |yld hH h=>simp[avCells]at hc;subst hc;exact⟨M8 (.yld hH h) Mh,by intro u hu;simp[LN]at hu;subst hu;rfl⟩
theorem kO (v:Value):RA c H w (we v) v:=by
 unfold we;split
 ·exact .full .nil
 ·split
  ·rename_i x hx;exact .d (uP hx).rv
  ·exact .any v
theorem z8.zero:∀(vs:ON Value),z8 (λv a=>RA c H w a v) vs (vs.map we)
 |[]=>Mh
 |v::vs=>M8 (kO v) (z8.zero vs)
end
open Go.Sx.z8 renaming zero->Ii
section
variable {P:Ng}{w:N4}
theorem px {α β:Type}{f:α->NN β}{g:α->β}:∀(l:ON α),(∀x∈l,(f x).run P w = .ok (g x) w)->(l.mapM f).run P w = .ok (l.map g) w
 |[],_=>by simp
 |x::l,h=>by rw[Jq];simp only[Ms,h x (by simp),Mt,px l (λy hy=>h y (by simp[hy])),MV,Mf]
theorem kN {α β:Type}{f:α->NN β}{g:α->β}(a:OC α) (h:∀x∈a.toList,(f x).run P w = .ok (g x) w):(a.mapM f).run P w = .ok (a.toList.map g).toArray w:=by rw[OC.mapM_eq_mapM_toList];simp only[NN.run_map,px a.toList h,Mt]
def yo (P:Ng) (T:TypeId):OK Value:=(P.info? T).bind (·.zero)
theorem wH {T:TypeId}{z:Value}(h:yo P T=some z):(zeroValue T).run P w = .ok z w:=by
 unfold yo at h;cases hi:P.info? T with
 |none=>rw[hi]at h;simp at h
 |some i=>rw[hi]at h;simp at h;simp[zeroValue,typeInfo,hi,h]
def lO (P:Ng) (fs:OC I1) (i:Nat):OK (Nat×Nat):=(fs[i]?).map λf=>(f.offset,(xq P f.type).getD 0)
def Wa (P:Ng) (fs:OC I1):Bool:=fs.toList.all λf=>(xq P f.type).isSome
def fX (P:Ng) (T:TypeId) (parts:ON (Nat×ON AV)):OK AV :=match P.underlying T,yo P T with
 |some (.struct fs),some (.agg zs)=>if Wa P fs then(mD (lO P fs) (zs.toList.map we) parts).map .agg else none
 |some (.array _ E),some (.agg zs) =>
  match xq P E with
  |some n=>(mD (λi=>some (i*n,n)) (zs.toList.map we) parts).map .agg
  |none=>none
 |_,_=>none
theorem fW {c:Cx}{H:ON Box}{T:TypeId}{parts:ON (Nat×ON AV)}{vparts:ON (Nat×Value)}{x:AV}(h:fX P T parts=some x) (hp:z8 (λ(p:Nat×Value) (q:Nat×ON AV)=>p.1=q.1/\z8 (λv a=>RA c H w a v) p.2.cells.toList q.2) vparts parts):∃v,(Gg T vparts.toArray).run P w = .ok v w/\RA c H w x v:=by
 unfold fX at h;split at h
 ·rename_i fs zs hu hz;split at h
  ·rename_i hok;cases hf:mD (lO P fs) (zs.toList.map we) parts with
   |none=>rw[hf]at h;simp at h
   |some out =>
    rw[hf]at h;simp at h;subst h;obtain⟨cs',h3,h4⟩:=pV (cs:=zs) hp (Ii (c:=c) (H:=H) (w:=w) zs.toList) hf;have hpl:(fs.mapM λf=>do pure (f.offset,←sizeOf f.type):NN (OC (Nat×Nat))).run P w = .ok (fs.toList.map λf=>(f.offset,(xq P f.type).getD 0)).toArray w:=by
     refine kN fs λf hf=>?_;have:(xq P f.type).isSome=true:=by have:=ND.1 hok f hf;simpa using this
     obtain⟨n,hn⟩:=OK.isSome_iff_exists.1 this;simp[yt hn,hn]
    have hpe:(λi=>((fs.toList.map λf=>(f.offset,(xq P f.type).getD 0)).toArray)[i]?)=lO P fs:=by funext i;simp[lO]
    refine⟨.agg cs',?_,?_⟩
    ·simp only[Gg,Ms,wH hz,Mt,run_underlying hu,hpl,LN];rw[hpe,h3];rfl
    ·have:=RA.agg (c:=c) (H:=H) (w:=w) (aas:=out) (vs:=cs'.toList) h4.1.symm λi a v ha hv=>h4.2 i v a hv ha;simpa using this
  ·simp at h
 ·rename_i m E zs hu hz;split at h
  ·rename_i n hs;cases hf:mD (λi=>some (i*n,n)) (zs.toList.map we) parts with
   |none=>rw[hf]at h;simp at h
   |some out =>
    rw[hf]at h;simp at h;subst h;obtain⟨cs',h3,h4⟩:=pV (cs:=zs) hp (Ii (c:=c) (H:=H) (w:=w) zs.toList) hf;refine⟨.agg cs',?_,?_⟩
    ·simp only[Gg,Ms,wH hz,Mt,run_underlying hu,LN,yt hs];rw[h3];rfl
    ·have:=RA.agg (c:=c) (H:=H) (w:=w) (aas:=out) (vs:=cs'.toList) h4.1.symm λi a v ha hv=>h4.2 i v a hv ha;simpa using this
  ·simp at h
 ·simp at h
theorem cm {size:Nat}:∀(vs:ON Value) (k:Nat) (cs:OC Value),(∀v∈vs,v.cells.size=size)->(k+vs.length)*size<=cs.size->∃cs',GP (λi=>some (i*size,size)) cs ((vs.zipIdx k).map λp=>(p.2,p.1))=some cs'/\cs'.size=cs.size/\cs'.toList=cs.toList.take (k*size)++(vs.map λv=>v.cells.toList).flatten++cs.toList.drop ((k+vs.length)*size)
 |[],k,cs,_,_=>⟨cs,rfl,rfl,by simp⟩
 |v::vs,k,cs,hv,hs=>by
  have e1:=hv v (by simp);have hmul:(k+(vs.length+1))*size=k*size+size+vs.length*size:=by rw[Kn,Kn];omega
  simp only[MO]at hs;have hfold:(v.cells.zipIdx.foldl (λcs (x:Value×Nat)=>cs.setIfInBounds (k*size+x.2) x.1) cs).toList=putL cs.toList (k*size) v.cells.toList:=by rw[←FO,DS];exact kQ _ _ _
  have hsz:(v.cells.zipIdx.foldl (λcs (x:Value×Nat)=>cs.setIfInBounds (k*size+x.2) x.1) cs).size=cs.size:=by have:=Mz OJ hfold;rw[sD]at this;simpa using this
  obtain⟨cs',h3,h4,h5⟩:=cm vs (k+1) (v.cells.zipIdx.foldl (λcs (x:Value×Nat)=>cs.setIfInBounds (k*size+x.2) x.1) cs) (λu hu=>hv u (by simp[hu])) (by rw[hsz,show k+1+vs.length=k+(vs.length+1) by omega];exact hs);have hnot:¬ ((decide (v.cells.size≠size)||decide (k*size+v.cells.size>cs.size))=true):=by simp;omega
  refine⟨cs',?_,by rw[h4,hsz],?_⟩
  ·simp only[C2,Mf,GP];rw[N2 hnot];exact h3
  ·have hl:v.cells.toList.length=size:=by simpa using e1
   rw[h5,hfold,lP _ _ _ (by simp;omega),hl];have a1:(k+1)*size=k*size+size:=by rw[Kn];omega
   have a2:(k+1+vs.length)*size=k*size+size+vs.length*size:=by rw[Kn,Kn];omega
   have hk:(cs.toList.take (k*size)).length=k*size:=by simp;omega
   have l1:(cs.toList.take (k*size)++v.cells.toList).length=k*size+size:=by rw[Kb,hk,hl]
   rw[a1,a2,ON.take_append_of_le_length (by omega),ON.take_of_length_le (by omega),ON.drop_append,l1];rw[Ls (by omega)];simp only[G8,ON.drop_drop,Mf,Hs,MO,hmul];rw[show k*size+size+(k*size+size+vs.length*size - (k*size+size))=k*size+size+vs.length*size by omega];simp
theorem tg {α:Type}{sz:Nat}:∀(L:ON (ON α)) (i j:Nat),(∀l∈L,l.length=sz)->j<sz->L.flatten[i*sz+j]? = (L[i]?).bind λl=>l[j]?
 |[],i,j,_,_=>by simp
 |l::L,0,j,h,hj=>by have:=h l (by simp);simp[LJ (show j<l.length by omega)]
 |l::L,i+1,j,h,hj=>by
  have hl:=h l (by simp);have ih:=tg L i j (λx hx=>h x (by simp[hx])) hj;have e:(i+1)*sz+j=l.length+(i*sz+j):=by rw[Kn,hl];omega
  rw[Hs,e,KT (by omega)];simp only[Nat.add_sub_cancel_left,FY];exact ih
theorem R1.new_row {c:Cx}{H:ON Box}{sz cap:Nat}{vs:ON Value}{ds:ON D}{T:TypeId}{fr:Nat×Nat}(hR:HR c H w) (h:z8 (RV c.I c.J w) vs ds) (hsz:∀d∈ds,d.cells.length=sz) (rest:ON Value) (hcap:ds.length<=cap): R1 (c.imm w.heap.size (ds.length*sz)).I (c.imm w.heap.size (ds.length*sz)).J { w with heap:=w.heap.push (.cells ((vs.map λv=>v.cells.toList).flatten++rest).toArray T fr) } (.slice (some ⟨w.heap.size,0,none⟩) ds.length cap) (.sl ds):=by
 have e:=Gt c w (.cells ((vs.map λv=>v.cells.toList).flatten++rest).toArray T fr) (ds.length*sz) hR.ilt hR.jlt;have hall:∀l∈vs.map (λv=>v.cells.toList),l.length=sz:=by
  intro l hl;obtain⟨v,hv,rfl⟩:=Mj.1 hl;obtain⟨i,hi,he⟩:=KS.1 hv;have hi':i<ds.length:=by rw[←h.1];exact hi
  have:=h.2 i v ds[i] (by simp[hi,he]) (by simp[hi']);rw[this.cells.1];exact hsz _ (KQ _)
 have hget:∀i j d,z1 ds i j=some d->∃u,((vs.map λv=>v.cells.toList).flatten)[i*sz+j]? = some u/\R1 c.I c.J w u d/\i*sz+j<ds.length*sz:=by
  intro i j d hd;unfold z1 at hd;cases hi:ds[i]? with
  |none=>rw[hi]at hd;simp at hd
  |some x =>
   rw[hi]at hd;simp only[Iv]at hd;obtain⟨v,hv,hr⟩:=h.get hi;obtain⟨u,hu,hr'⟩:=hr.cells.get hd;have hil:i<ds.length:=by rcases M0 i ds.length with h' |h';exact h';simp[My h']at hi
   have hj:j<sz:=by
    have:j<x.cells.length:=by rcases M0 j x.cells.length with h' |h';exact h';simp[My h']at hd
    rw[hsz x (MX hi)]at this;exact this
   refine⟨u,?_,hr',?_⟩
   ·rw[tg _ _ _ hall hj];simp[hv];simpa using hu
   ·calc i*sz+j<i*sz+sz:=by omega
     _=(i+1)*sz:=by rw[Kn];omega
     _<=ds.length*sz:=G0 _ hil
 refine I2 (I:=(c.imm w.heap.size (ds.length*sz)).I) w.heap.size 0 cap sz ds (λi j=>(((vs.map λv=>v.cells.toList).flatten)[i*sz+j]?).getD undef) hsz ?_ ?_ hcap
 ·intro i j d hd;obtain⟨u,hu,_,hlt⟩:=hget i j d hd;refine⟨.inr ⟨rfl,by omega⟩,?_⟩;have hlen:i*sz+j<((vs.map λv=>v.cells.toList).flatten).length:=by
   rcases M0 (i*sz+j) ((vs.map λv=>v.cells.toList).flatten).length with h' |h'
   ·exact h'
   ·simp only[My h']at hu;simp at hu
  simp only[LP,Ko,De];simp only[Jd,LH,if_false,IZ];rw[LJ hlen,hu];rfl
 ·intro i j d hd;obtain⟨u,hu,hr,_⟩:=hget i j d hd;simp only[hu,Li];exact hr.ext e
end
def ev (G:Nat->OK (ON D)) (get:Nat->AV):NF->AV
 |.tmp t=>get t
 |.const v=>match v with
  |.slice none 0 0=>.full []
  |.nilFunc=>.nilf
  |v=>match valD v with
   |some x=>.d x
   |none=>.any
 |.global g=>match G g with
  |some cs=>.iptr cs
  |none=>.any
 |.func f=>.d (.fn f)
def GR (G:Nat->OK (ON D)) (c:Cx) (w:N4):Prop :=∀g cs,G g=some cs->∀(j:Nat) x,cs[j]? = some x->c.I g j/\∃v,w.cell? ⟨g,j,none⟩=some v/\R1 c.I c.J w v x
theorem GR.ext {G c w c' w'} (e:Nw c w c' w') (h:GR G c w):GR G c' w':=by intro g cs hg j x hx;obtain⟨h1,v,h2,h3⟩:=h g cs hg j x hx;exact⟨e.isub _ _ h1,v,by rw[e.icell _ _ h1];exact h2,h3.ext e⟩
def avSl:AV->OK (ON D)
 |.d (.sl ds)=>some ds
 |.full ds=>some ds
 |.nils=>some []
 |.vec _ ds=>some ds
 |_=>none
def sameKind:D->D->Bool
 |.int k _,.int k' _=>decide (k=k')
 |.bool _,.bool _=>true
 |.str _,.str _=>true
 |.agg [.int k _,.int j _],.agg [.int k' _,.int j' _]=>decide (k=k')&&decide (j=j')
 |_,_=>false
def beqD:D->D->Bool
 |.int _ a,.int _ b=>a==b
 |.bool a,.bool b=>a==b
 |.str s,.str t=>s==t
 |.agg [.int _ a,.int _ b],.agg [.int _ c,.int _ d]=>a==c&&b==d
 |_,_=>false
def zX (es:ON (D×D)) (k:D):OK D:=(es.find? λkv=>beqD k kv.1).map (·.2)
def Sh.ok:Sh->D->Bool
 |.int k,.int k' _=>decide (k=k')
 |.bool,.bool _=>true
 |.str,.str _=>true
 |.sl,.sl _=>true
 |.fn,.fn _=>true
 |_,_=>false
theorem Sh.norm_ok {sh:Sh}{x:D}(h:sh.ok x=true):sh.norm x=x:=by
 cases sh<;>cases x<;>simp[Sh.ok,Sh.norm,D.toInt,D.toBool,D.toStr,D.toSl,JB]at h ⊢
 exact h
def keyOk:KF->D->Bool
 |.int _,.int _ _=>true
 |.string,.str _=>true
 |.bool,.bool _=>true
 |_,_=>false
def WZ (P:Ng) (K:TypeId):D->Bool
 |.agg [.int _ _,.int _ _] =>
  match P.underlying K with
  |some (.array 2 E)=>(match P.underlying E with|some (.int _)=>true|_=>false)&&(xq P E==some 1)
  |_=>false
 |_=>false
def pv (P:Ng) (K:TypeId) (kd:KF) (k:D):Bool:=keyOk kd k||WZ P K k
def Rp (a:AV):OK D :=match avD1 a with
 |some x=>some x
 |none=>avD a
def kM (P:Ng) (T:TypeId) (es:ON (D×D)) (k:D) (commaOk:Bool):OK (AV×Prop) :=match P.underlying T with
 |some (.map K E) =>
  match P.underlying K,yo P E,vL P 2 E with
  |some kd,some z,some [sh] =>
   match valD1 z with
   |some zd =>
    if pv P K kd k&&sh.ok zd then
     let r:=sh.norm ((zX es k).getD zd);let F:Prop:=(es.all λkv=>sameKind k kv.1&&sh.ok kv.2)=true;some (if commaOk then .tup [.d r,.d (.bool (zX es k).isSome)]else .d r,F)
    else none
   |none =>
    match z,sh with
    |.nilFunc,.fn =>
     if pv P K kd k then
      let F:Prop:=(es.all λkv=>sameKind k kv.1&&Sh.ok .fn kv.2)=true;some (if commaOk then .tup [.fsym ((zX es k).map JB),.d (.bool (zX es k).isSome)]else .fsym ((zX es k).map JB),F)
     else none
    |_,_=>none
  |_,_,_=>none
 |_=>none
def Ox (P:Ng) (T:TypeId):Bool:=P.underlying T matches some .string
def wd (n:Nat) (lo hi:OK AV):OK (Int×Int×Prop) :=match lo,hi with
 |none,none=>some (0,n,OG)
 |some (.d (.int _ l)),none=>some (l,n,0<=l/\l<=n)
 |none,some (.d (.int _ h))=>some (0,h,0<=h/\h<=n)
 |some (.d (.int _ l)),some (.d (.int _ h))=>some (l,h,0<=l/\l<=h/\h<=n)
 |_,_=>none
def xW (ds:ON D) (sz:Nat):Bool:=ds.all λd=>d.cells.length==sz
def nilA:AV->OK Bool
 |.nils=>some true
 |.d (.sl (_::_))=>some false
 |.full (_::_)=>some false
 |.vec _ (_::_)=>some false
 |_=>none
def nilFA:AV->OK Bool
 |.nilf=>some true
 |.d (.fn _)=>some false
 |.clo _ _ _=>some false
 |.yld _=>some false
 |_=>none
def Sd (P:Ng) (op:KW) (T:TypeId) (a:AV) (y:NF):OK Bool :=match op,y with
 |.eql,.const (.slice none 0 0)=>match P.underlying T with
  |some (.slice _)=>nilA a
  |_=>none
 |.neq,.const (.slice none 0 0)=>match P.underlying T with
  |some (.slice _)=>(nilA a).map not
  |_=>none
 |.eql,.const .nilFunc=>match P.underlying T with
  |some (.func _ _ _)=>nilFA a
  |_=>none
 |.neq,.const .nilFunc=>match P.underlying T with
  |some (.func _ _ _)=>(nilFA a).map not
  |_=>none
 |_,_=>none
def rowFrom:ON Sh->ON D->Nat->ON D
 |[],_,_=>[]
 |s::r,cs,k=>s.norm ((cs[k]?).getD default)::rowFrom r cs (k+1)
def cl (P:Ng) (E:TypeId) (cs:ON D) (sz i:Nat):OK (ON D) :=match vL P 9 E with
 |some shs=>if shs.length=sz then some (rowFrom shs cs (i*sz))else none
 |none=>none
def xa (P:Ng) (e:NF->AV) (H:ON Box):Op->OK (AV×Prop)
 |.move x=>some (e x,OG)
 |.assign x=>some (e x,OG)
 |.load T a =>
  match e a with
  |.ptr l o=>match H[l]? with
   |some (.cells _ cs)=>(u0 P T (cs.drop o)).map λr=>(r,OG)
   |_=>none
  |.iptr cs=>(u0 P T (cs.map OF)).map λr=>(r,OG)
  |_=>none
 |.fieldAddr T x f =>
  match P.underlying T with
  |some (.struct fs)=>match fs[f]? with
   |some fd=>match xq P fd.type with
    |some (_+1)=>match e x with
     |.ptr l o=>some (.ptr l (o+fd.offset),OG)
     |.iptr cs=>some (.iptr (cs.drop fd.offset),OG)
     |_=>none
    |_=>none
   |none=>none
  |_=>none
 |.indexAddr T x i =>
  match P.underlying T,e i with
  |some (.slice E),.d (.int _ n)=>match avSl (e x),uR P E,xq P E with
   |some ds,some ag,some sz=>match uy P E ds n.toNat with
    |some cs=>if cs.length=sz then some (.iptr cs,0<=n/\ds[n.toNat]? = some (aZ ag cs))else none
    |none=>none
   |_,_,_=>none
  |some (.array m E),.d (.int _ n)=>match xq P E with
   |some sz=>match e x with
    |.ptr l o=>some (.ptr l (o+n.toNat*sz),0<=n/\n<m)
    |.iptr cs=>match cl P E cs sz n.toNat with
     |some xs=>some (.iptr xs,(0<=n/\n<m)/\(cs.drop (n.toNat*sz)).take sz=xs)
     |none=>none
    |_=>none
   |none=>none
  |_,_=>none
 |.index T x i =>
  match P.underlying T,e x,e i with
  |some .string,.d (.str s),.d (.int _ n)=>some (.d (.int .u8 (s.getD n.toNat 0).toNat),0<=n/\n.toNat<s.length)
  |_,_,_=>none
 |.unOp .not _ x =>
  match e x with
  |.d (.bool b)=>some (.d (.bool (!b)),OG)
  |_=>none
 |.unOp .neg _ x =>
  match e x with
  |.d (.int k n)=>some (.d (.int k (k.wrap (0 - n))),OG)
  |_=>none
 |.binOp op T x y _ =>
  match Sd P op T (e x) y with
  |some r=>some (.d (.bool r),OG)
  |none=>match avD (e x),avD (e y)with
   |some a,some b=>(aX P op T a b).map λr=>(.d r.1,r.2)
   |_,_=>none
 |.convert S T x =>
  match P.underlying S,P.underlying T,e x with
  |some _,some (.int k),.d (.int _ n)=>some (.d (.int k (k.wrap n)),OG)
  |some _,some .string,.d (.str s)=>some (.d (.str s),OG)
  |_,_,_=>none
 |.extract t i =>
  match e t with
  |.tup vs=>(vs[i]?).map λa=>(a,OG)
  |_=>none
 |.build T parts =>
  match parts.toList.mapM (λ(p:Nat×NF)=>(avCells (e p.2)).map λx=>(p.1,x))with
  |some ps=>(fX P T ps).map λx=>(x,OG)
  |none=>none
 |.buildSlice T len parts =>
  match P.underlying T with
  |some (.slice E)=>match xq P E,yo P E,parts.toList.mapM (λ(p:Nat×NF)=>avD (e p.2))with
   |some sz,some _,some ds =>
    if parts.toList.map (·.1)=Mq len/\(ds.all λd=>d.cells.length==sz)=true/\len*sz<=2 ^ 24 then some (.full ds,OG)else none
   |_,_,_=>none
  |_=>none
 |.makeFunc (.func f) first cap=>some (.clo f (first.toList.map e) (cap.toList.map e),OG)
 |.lookup T x k ok =>
  match e x,Rp (e k)with
  |.d (.gmap es),some kd=>kM P T es kd ok
  |.map l,some kd=>match H[l]? with
   |some (.map es)=>kM P T es kd ok
   |_=>none
  |_,_=>none
 |.slice T x lo hi none =>
  match P.underlying T,e x with
  |some .string,.d (.str s)=>match wd s.length (lo.map e) (hi.map e)with
   |some (l,h,F)=>some (.d (.str ((s.take h.toNat).drop l.toNat)),F)
   |none=>none
  |some (.slice E),a=>match avSl a,xq P E with
   |some ds,some sz=>match wd ds.length (lo.map e) (hi.map e)with
    |some (l,h,F)=>some (.d (.sl ((ds.take h.toNat).drop l.toNat)),F/\xW ds sz=true)
    |none=>none
   |_,_=>none
  |some (.array m E),.iptr cs=>match xq P E with
   |some sz=>if sz=1/\m<=cs.length then match wd m (lo.map e) (hi.map e)with
     |some (l,h,F)=>some (.d (.sl (((cs.take m).take h.toNat).drop l.toNat)),F)
     |none=>none
    else none
   |none=>none
  |_,_=>none
 |.nilCheck x =>
  match e x with
  |.ptr l o=>some (.ptr l o,OG)
  |.iptr cs=>some (.iptr cs,OG)
  |.clo f a b=>some (.clo f a b,OG)
  |.d (.fn f)=>some (.d (.fn f),OG)
  |_=>none
 |.call { callee:= .builtin .len,args,argTypes } =>
  match args.toList,argTypes.toList with
  |[x],[T]=>match P.underlying T,e x with
   |some .string,.d (.str s)=>some (.d (.int .i64 s.length),OG)
   |some (.slice _),a=>(avSl a).map λds=>(.d (.int .i64 ds.length),OG)
   |_,_=>none
  |_,_=>none
 |.call { callee:= .builtin .max,args,argTypes:=_ } =>
  match args.toList with
  |[x,y]=>match e x,e y with
   |.d (.int k a),.d (.int k' b)=>if k=k' then some (.d (.int k (if b>a then b else a)),OG)else none
   |_,_=>none
  |_=>none
 |.slice T x none (some hi) (some mx) =>
  match P.underlying T,avSl (e x),e hi,e mx with
  |some (.slice E),some ds,.d (.int _ h),.d (.int _ m)=>match xq P E with
   |some _=>some (.full (ds.take h.toNat),0<=h/\h<=ds.length/\m=h)
   |none=>none
  |_,_,_,_=>none
 |_=>none
def yn (P:Ng) (c:Cx) (H:ON Box) (w:N4) (s:NN Value) (a:AV):Prop :=∃v w' c',s.run P w = .ok v w'/\Nw c w c' w'/\zp c H c' H/\HR c' H w'/\RA c' H w' a v
theorem yn.pure {P c H w s a v} (hR:HR c H w) (h:ID P s w = .ok v w) (ha:RA c H w a v):yn P c H w s a :=⟨v,w,c,h,L7 _ _,Md _ _,hR,ha⟩
section
variable {P:Ng}{c:Cx}{H:ON Box}{w:N4}{e:NF->AV}{r:NF->Value}
theorem m0 {a:AV}{v:Value}{x:D}(h:RA c H w a v) (e:Rp a=some x):RV c.I c.J w v x:=by
 unfold Rp at e;split at e
 ·rename_i y hy;cases e;exact(pW h hy).rv
 ·exact wj h e
theorem wG {a:AV}{v:Value}{ds:ON D}(h:RA c H w a v) (he:avSl a=some ds):∃ad n k,v = .slice ad n k/\R1 c.I c.J w v (.sl ds)/\n=ds.length:=by
 have key:R1 c.I c.J w v (.sl ds):=by
  cases h with
  |@d x v h=>cases x<;>simp[avSl]at he;subst he;exact h
  |full h=>simp[avSl]at he;subst he;exact h
  |nils=>simp[avSl]at he;subst he;exact .nil
  |vec h=>simp[avSl]at he;subst he;exact h
  |_=>simp[avSl]at he
 have k2:=key;cases k2 with
 |nil=>exact⟨_,_,_,rfl,key,rfl⟩
 |emp=>exact⟨_,_,_,rfl,key,rfl⟩
 |sl=>exact⟨_,_,_,rfl,key,rfl⟩
theorem aT {T:TypeId}{x:NF}{a:AV}(hR:HR c H w) (he:RA c H w (e x) (r x)) (h:(match e x with
   |.ptr l o=>match H[l]? with
    |some (.cells _ cs)=>(u0 P T (cs.drop o)).map λr=>(r,OG)
    |_=>none
   |.iptr cs=>(u0 P T (cs.map OF)).map λr=>(r,OG)
   |_=>none:OK (AV×Prop))=some (a,OG)):yn P c H w (JU T (r x)) a:=by
 generalize e x=ex at *;generalize r x=rx at *;cases he with
 |@ptr l o b k T' cs hH hl =>
  simp only[hH]at h;cases hla:u0 P T (cs.drop o)with
  |none=>rw[hla]at h;simp at h
  |some a' =>
   rw[hla]at h;simp at h;subst h;obtain⟨vs,hw,hv⟩:=hR.box l b k _ hl hH;obtain⟨v,h1,h2⟩:=uQ (b:=b) (o:=o) hla (hv.drop o) (λj v hj=>by simp only[J0]at hj;simp[Ko,hw,hj]);exact yn.pure hR h1 h2
 |@iptr cs b o hc =>
  simp only at h;cases hla:u0 P T (cs.map OF)with
  |none=>rw[hla]at h;simp at h
  |some a' =>
   rw[hla]at h;simp at h;subst h;let vs:ON Value:=(Mq cs.length).map λj=>(w.cell? ⟨b,o+j,none⟩).getD undef;have hv:∀(j:Nat) v,vs[j]? = some v->j<cs.length/\w.cell? ⟨b,o+j,none⟩=some v:=by
    intro j v hj;have hlt:j<cs.length:=by
     rcases M0 j cs.length with h' |h'
     ·exact h'
     ·simp[vs,My (show(Mq cs.length).length<=j by simpa using h')]at hj
    simp[vs,hlt]at hj;obtain⟨_,u,hu,_⟩:=hc j cs[j] (by simp[hlt]);rw[hu]at hj;simp at hj;subst hj;exact⟨hlt,hu⟩
   obtain⟨v,h1,h2⟩:=uQ (c:=c) (H:=H) (b:=b) (o:=o) hla (vs:=vs) ⟨by simp[vs],λj u y hu hy=>by obtain⟨hlt,hcell⟩:=hv j u hu;simp[hlt]at hy;obtain⟨_,u',hu',hr'⟩:=hc j cs[j] (by simp[hlt]);rw[hu']at hcell;simp at hcell;subst hcell;subst hy;exact .d hr'.rv⟩ (λj u hu=>(hv j u hu).2);exact yn.pure hR h1 h2
 |_=>simp at h
theorem lU {T E m:Nat}{i:NF}{x:NF}{n:Int}{k:OA}{sz:Nat}{a:AV}{F:Prop}(hR:HR c H w) (hu:P.underlying T=some (.array m E)) (hs:xq P E=some sz) (hi:r i = .int k n) (hx:RA c H w (e x) (r x)) (h:(match e x with
    |.ptr l o=>some (.ptr l (o+n.toNat*sz),0<=n/\n<m)
    |.iptr cs=>match cl P E cs sz n.toNat with
     |some xs=>some (.iptr xs,(0<=n/\n<m)/\(cs.drop (n.toNat*sz)).take sz=xs)
     |none=>none
    |_=>none:OK (AV×Prop))=some (a,F)) (hF:F):yn P c H w (Ir T (r x) (r i)) a:=by
 have run:∀b o,0<=n->n<m->(Ir T (.pointer (some ⟨b,o,none⟩)) (.int k n)).run P w = .ok (.pointer (some ⟨b,o+n.toNat*sz,none⟩)) w:=by intro b o h0 h1;simp[Ir,asIntOf,run_underlying hu,yt hs,h0,h1,xS,JZ]
 rw[hi];generalize e x=ex at *;generalize r x=rx at *;cases hx with
 |ptr hH hl =>
  cases h;exact yn.pure hR (run _ _ hF.1 hF.2) (.ptr hH hl)
 |@iptr cs b o hc =>
  simp only at h;split at h
  ·cases h;obtain⟨⟨h0,h1⟩,h2⟩:=hF;refine yn.pure hR (run _ _ h0 h1) (.iptr λj y hy=>?_);rw[←h2,Ld]at hy;split at hy
   ·rw[J0]at hy;have:=hc _ _ hy;rw[←Iq]at this;exact this
   ·cases hy
  ·cases h
 |_=>simp at h
theorem ck {T E:TypeId}{v:Value}{ds cs:ON D}{k:OA}{n:Int}{ag:Bool}{sz:Nat}(hR:HR c H w) (hu:P.underlying T=some (.slice E)) (hs:xq P E=some sz) (hv:R1 c.I c.J w v (.sl ds)) (hag:ag=true∨cs.length=1) (hna:ag=false->∀xs,cs.getD 0 default ≠ .agg xs) (hl:cs.length=sz) (h0:0<=n) (hd:ds[n.toNat]? = some (aZ ag cs)): yn P c H w (Ir T v (.int k n)) (.iptr cs):=by
 have hcells:(aZ ag cs).cells=cs:=by
  unfold aZ;cases ag with
  |true=>rfl
  |false =>
   have h1:cs.length=1:=by rcases hag with h|h;simp at h;exact h
   have h2:=hna rfl;match cs,h1 with
   |[x],_ =>
    simp at h2 ⊢;cases x<;>first|rfl|exact No rfl (h2 _)
 cases hv with
 |nil=>simp at hd
 |emp=>simp at hd
 |sl b off cap sz' ds vals hsz hc hr hcap =>
  have hlt:n.toNat<ds.length:=by rcases M0 n.toNat ds.length with h' |h';exact h';simp[My h']at hd
  have e1:sz'=sz:=by have:=hsz _ (MX hd);rw[hcells]at this;omega
  subst e1;refine yn.pure hR (mE hu hs h0 (by omega)) (.iptr λj x hx=>?_);have hca:z1 ds n.toNat j=some x:=by simp[z1,hd,hcells,hx]
  obtain⟨i1,i2⟩:=hc _ _ _ hca;exact⟨i1,_,i2,hr _ _ _ hca⟩
end
open Go.Sx.Sh renaming ok->L2
open Go.Sx.yn renaming pure->Mc
theorem fV (sh:Sh) (x:D) (xs:ON D):sh.norm x ≠ .agg xs:=by cases sh<;>simp[Sh.norm]
theorem oX {P T ds i cs} (h:uy P T ds i=some cs):∀x∈cs,∀xs,x ≠ .agg xs:=by
 unfold uy at h;cases hs:vL P 9 T with
 |none=>rw[hs]at h;simp at h
 |some shs =>
  rw[hs]at h;simp at h;subst h;intro x hx xs;obtain⟨p,_,rfl⟩:=Mj.1 hx;exact fV _ _ _
theorem kL {P n T shs} (h:vL P (n+1) T=some shs) (ha:uR P T=some false):shs.length=1:=by
 unfold vL at h;unfold uR at ha;split at h<;>first
  |(simp at h;subst h;rfl)
  |(rename_i hu;rw[hu]at ha;simp at ha)
  |(simp at h)
section
variable {P:Ng}{c:Cx}{H:ON Box}{w:N4}{e:NF->AV}{r:NF->Value}
theorem pu {kd:KF}{k x:D}{v u:Value}(hk:keyOk kd k=true) (hs:sameKind k x=true) (hv:R1 c.I c.J w v k) (hu:R1 c.I c.J w u x):Gv kd v u=some (beqD k x):=by
 cases hv<;>cases hu<;>simp[sameKind]at hs<;>cases kd<;>simp[keyOk]at hk<;>simp[Gv,beqD]
 ·exact hs
 ·rw[beq_toListBytes];simp
theorem pt {kd:KF}{k:D}{v:Value}(hk:keyOk kd k=true) (hv:R1 c.I c.J w v k):∀(es:ON (D×D)) (ents:ON Kl) (i:Nat),z8 (λ(x:Kl) (kv:D×D)=>R1 c.I c.J w x.key kv.1/\R1 c.I c.J w x.val kv.2) ents es->(∀kv∈es,sameKind k kv.1=true)->(zX es k=none->KI kd v ents i=some none)/\(∀x,zX es k=some x->∃j u,KI kd v ents i=some (some (j,u))/\R1 c.I c.J w u x)
 |[],ents,i,h,_=>by have:=h.nil_right;subst this;simp[zX,KI]
 |kv::es,ents,i,h,hs=>by
  obtain⟨en,ens,rfl,⟨h1,h2⟩,h3⟩:=h.cons_right;have hn:=pu (kd:=kd) hk (hs kv (by simp)) hv h1;have ih:=pt hk hv es ens (i+1) h3 (λx hx=>hs x (by simp[hx]));simp only[zX,KP,KI,hn];cases hb:beqD k kv.1 with
  |true=>simp;exact⟨_,_,⟨rfl,rfl⟩,h2⟩
  |false=>simpa[zX]using ih
theorem kK {K:TypeId}{kd:KF}{k:D}{v:Value}{b:Bool}(n:Nat) (hk:P.underlying K=some kd) (hck:keyOk kd k=true) (hv:R1 c.I c.J w v k):(Jp b (n+1) K v).run P w = .ok () w:=by simp only[Jp,Ms,run_underlying hk,Mt];cases hv<;>cases kd<;>simp[keyOk]at hck<;>rfl
theorem tf {K:TypeId}{k:D}(h:WZ P K k=true):∃k1 a k2 b E kk,k = .agg [.int k1 a,.int k2 b]/\P.underlying K=some (.array 2 E)/\P.underlying E=some (.int kk)/\xq P E=some 1:=by
 unfold WZ at h;split at h
 ·rename_i k1 a k2 b;split at h
  ·rename_i E hK;simp only[NK,beq_iff_eq]at h;obtain⟨h1,h2⟩:=h;split at h1
   ·rename_i kk hE;exact⟨k1,a,k2,b,E,kk,rfl,hK,hE,h2⟩
   ·cases h1
  ·cases h
 ·cases h
theorem RV.two {k1 k2:OA}{a b:Int}{v:Value}(h:RV c.I c.J w v (.agg [.int k1 a,.int k2 b])):v = .agg #[.int k1 a,.int k2 b]:=by obtain⟨vs,rfl,hvs⟩:=h;obtain⟨v1,r1,rfl,h1,h2⟩:=hvs.cons_right;obtain⟨v2,r2,rfl,h3,h4⟩:=h2.cons_right;have:=h4.nil_right;subst this;cases h1;cases h3;rfl
theorem kJ {K E:TypeId}{kk k1 k2:OA}{a b a' b':Int}(hK:P.underlying K=some (.array 2 E)) (hE:P.underlying E=some (.int kk)) (hs:xq P E=some 1):(HV K (.agg #[.int k1 a,.int k2 b]) (.agg #[.int k1 a',.int k2 b'])).run P w = .ok (a==a'&&b==b') w:=by
 have ag:uR P E=some false:=by simp[uR,hE]
 have p0:∀x y:Value,(part E #[x,y] 0).run P w = .ok x w:=λx y=>yl ag rfl;have p1:∀x y:Value,(part E #[x,y] 1).run P w = .ok y w:=λx y=>yl ag rfl;have hd:B3=9999+1:=rfl;have q:∀k x y,(GO 9999 E (.int k x) (.int k y)).run P w = .ok (x==y) w:=λk x y=>run_equalIn_int w 9998 E k kk x y hE;have rg:J8 0 2=[0,1]:=rfl;simp only[HV,hd];unfold GO;simp only[Ms,run_underlying hK,Mt,yt hs,IN];cases h1:(a==a')<;>cases h2:(b==b')<;>simp[rg,p0,p1,q,h1,h2]
theorem aS {K E:TypeId}{kk k1 k2:OA}{a b:Int}{e:Bool}(n:Nat) (hK:P.underlying K=some (.array 2 E)) (hE:P.underlying E=some (.int kk)) (hs:xq P E=some 1):(Jp e (n+2) K (.agg #[.int k1 a,.int k2 b])).run P w = .ok () w:=by
 have ag:uR P E=some false:=by simp[uR,hE]
 have p0:∀x y:Value,(part E #[x,y] 0).run P w = .ok x w:=λx y=>yl ag rfl;have p1:∀x y:Value,(part E #[x,y] 1).run P w = .ok y w:=λx y=>yl ag rfl;have hc:∀k a,(Jp e (n+1) E (.int k a)).run P w = .ok () w:=λk a=>by simp only[Jp,Ms,run_underlying hE,Mt];rfl
 have rg:J8 0 2=[0,1]:=rfl;unfold Jp;simp only[Ms,run_underlying hK,Mt];simp[rg,yt hs,p0,p1,hc]
theorem m5 {K:TypeId}{kd:KF}{k:D}{v:Value}{b:Bool}(n:Nat) (hk:P.underlying K=some kd) (hck:pv P K kd k=true) (hv:RV c.I c.J w v k):(Jp b (n+2) K v).run P w = .ok () w:=by
 simp only[pv,L4]at hck;rcases hck with hck|hck
 ·refine kK (n+1) hk hck (hv.one λcs hcs=>?_);subst hcs;cases kd<;>simp[keyOk]at hck
 ·obtain⟨k1,a,k2,b',E,kk,rfl,h1,h2,h3⟩:=tf hck;rw[hv.two];exact aS n h1 h2 h3
theorem oW {k1 k2:OA}{a b:Int}{x:D}(h:sameKind (.agg [.int k1 a,.int k2 b]) x=true):∃a' b',x = .agg [.int k1 a',.int k2 b']:=by
 unfold sameKind at h;split at h
 ·rename_i h1;cases h1
 ·rename_i h1;cases h1
 ·rename_i h1;cases h1
 ·rename_i k n1 j n2 k' n3 j' n4 h1;simp only[D.agg.injEq,Ka,D.int.injEq,and_true]at h1;obtain⟨⟨rfl,rfl⟩,rfl,rfl⟩:=h1;simp only[NK,NR]at h;obtain⟨rfl,rfl⟩:=h;exact⟨_,_,rfl⟩
 ·cases h
def fU (c:Cx) (w:N4):ON Kl->ON (D×D)->Prop:=z8 (λ(x:Kl) (kv:D×D)=>RV c.I c.J w x.key kv.1/\RV c.I c.J w x.val kv.2)
theorem sN {K:TypeId}{k:D}{v:Value}(hk:WZ P K k=true) (hv:RV c.I c.J w v k):∀(es:ON (D×D)) (ents:ON Kl) (i:Nat),fU c w ents es->(∀kv∈es,sameKind k kv.1=true)->(zX es k=none->(KJ K v ents i).run P w = .ok none w)/\(∀x,zX es k=some x->∃j u,(KJ K v ents i).run P w = .ok (some (j,u)) w/\RV c.I c.J w u x)
 |[],ents,i,h,_=>by have:=h.nil_right;subst this;simp[zX,KJ]
 |kv::es,ents,i,h,hs=>by
  obtain⟨en,ens,rfl,⟨h1,h2⟩,h3⟩:=h.cons_right;have ih:=sN hk hv es ens (i+1) h3 (λx hx=>hs x (by simp[hx]));obtain⟨k1,a,k2,b,E,kk,rfl,hK,hE,hsz⟩:=tf hk;obtain⟨a',b',hkv⟩:=oW (hs kv (by simp));rw[hkv]at h1;have e1:=hv.two;have e2:=h1.two;have hq:=kJ (w:=w) (k1:=k1) (k2:=k2) (a:=a) (b:=b) (a':=a') (b':=b') hK hE hsz;have hb:beqD (.agg [.int k1 a,.int k2 b]) kv.1=(a==a'&&b==b'):=by rw[hkv];rfl
  simp only[zX,KP,hb,KJ,Ms,e1,e2,hq,Mt];cases hc:(a==a'&&b==b')with
  |true=>simp;exact⟨_,_,⟨rfl,rfl⟩,h2⟩
  |false=>rw[e1]at ih;simpa[zX]using ih
theorem m6 {kd:KF}{k:D}(h:keyOk kd k=true):∀cs,k ≠ .agg cs:=by rintro cs rfl;cases kd<;>simp[keyOk]at h
theorem oV {kd:KF}{k x:D}(h:keyOk kd k=true) (hs:sameKind k x=true):∀cs,x ≠ .agg cs:=by
 rintro cs rfl;cases k<;>first
  |(simp[sameKind]at hs;done)
  |exact No rfl (m6 h _)
theorem oU {K:TypeId}{kd:KF}{k:D}{v:Value}{es:ON (D×D)}{ents:ON Kl}(hku:P.underlying K=some kd) (hk:pv P K kd k=true) (hv:RV c.I c.J w v k) (h:fU c w ents es) (h1:∀(i:Nat) x kv,ents[i]? = some x->es[i]? = some kv->R1 c.I c.J w x.val kv.2) (hs:∀kv∈es,sameKind k kv.1=true):(zX es k=none->(KH K v ents).run P w = .ok none w)/\(∀x,zX es k=some x->(∀cs,x ≠ .agg cs)->∃j u,(KH K v ents).run P w = .ok (some (j,u)) w/\R1 c.I c.J w u x):=by
 simp only[pv,L4]at hk;rcases hk with hk|hk
 ·have hmr:z8 (λ(x:Kl) (kv:D×D)=>R1 c.I c.J w x.key kv.1/\R1 c.I c.J w x.val kv.2) ents es :=
   ⟨h.1,λi x kv hx hkv=>⟨(h.2 i x kv hx hkv).1.one (oV hk (hs kv (MX hkv))),h1 i x kv hx hkv⟩⟩
  obtain⟨a,b⟩:=pt (kd:=kd) hk (hv.one (m6 hk)) es ents 0 hmr hs;refine⟨λhn=>?_,λx hx _=>?_⟩
  ·simp only[KH,Ms,run_underlying hku,Mt,a hn,MV]
  ·obtain⟨j,u,e1,e2⟩:=b x hx;exact⟨j,u,by simp only[KH,Ms,run_underlying hku,Mt,e1,MV],e2⟩
 ·obtain⟨a,b⟩:=sN hk hv es ents 0 h hs;obtain⟨k1,x1,k2,x2,E,kk,rfl,hK,hE,hsz⟩:=tf hk;have e1:=hv.two;have hf:(KH K v ents).run P w=(KJ K v ents 0).run P w:=by
   have:kd = .array 2 E:=by rw[hK]at hku;cases hku;rfl
   subst this;simp only[KH,Ms,run_underlying hku,Mt];cases ents with
   |nil=>simp[KI,KJ]
   |cons en ens=>rw[e1];simp[KI,Gv]
  rw[hf];exact⟨a,λx hx hx1=>by obtain⟨j,u,e1,e2⟩:=b x hx;exact⟨j,u,e1,e2.one hx1⟩⟩
theorem oT {es:ON (D×D)}{k:D}{x:D}(h:zX es k=some x):∃kv∈es,kv.2=x:=by
 unfold zX at h;cases hf:es.find? λkv=>beqD k kv.1 with
 |none=>rw[hf]at h;simp at h
 |some kv=>rw[hf]at h;simp at h;exact⟨kv,ON.mem_of_find?_eq_some hf,h⟩
theorem kI {T:TypeId}{es:ON (D×D)}{k:D}{ok:Bool}{a:AV}{F:Prop}{v:Value}{m:Nat}{ents:OC Kl}{clk:Nat}(hR:HR c H w) (hl:kM P T es k ok=some (a,F)) (hF:F) (hv:RV c.I c.J w v k) (hw:w.heap[m]? = some (.map ents clk)) (hes:z8 (λ(x:Kl) (kv:D×D)=>RV c.I c.J w x.key kv.1/\RV c.I c.J w x.val kv.2) ents.toList es): yn P c H w (Jn T (.map (some m)) v ok) a:=by
 unfold kM at hl;split at hl
 ·rename_i K E hu;split at hl
  ·rename_i kd z sh hk hz hsh;split at hl
   ·rename_i zd hzd;split at hl
    ·rename_i hcond;simp only[NK]at hcond;obtain⟨hck,hcz⟩:=hcond;simp only[K0,J5]at hl;obtain⟨hla,hlF⟩:=hl;rw[←hlF]at hF;have hall:=ND.1 hF;have hval:∀(i:Nat) x kv,ents.toList[i]? = some x->es[i]? = some kv->R1 c.I c.J w x.val kv.2:=by intro i x kv hx hkv;obtain⟨h1,h2⟩:=hes.2 i x kv hx hkv;have:=hall kv (MX hkv);simp only[NK]at this;refine h2.one λcs hcs=>?_;rw[hcs]at this;cases sh<;>simp[L2]at this
     obtain⟨hn,hsome⟩:=oU hk hck hv hes hval (λkv hkv=>by have:=hall kv hkv;simp only[NK]at this;exact this.1);have hchk:∀b:Bool,(Jp b 10000 K v).run P w = .ok () w:=λb=>m5 9998 hk hck hv;have hget:(getObj m).run P w = .ok (.map ents clk) w:=by simp[getObj,ID,hw]
     cases hlk:zX es k with
     |none =>
      have h1:=hn hlk;have hrun:(Jn T (.map (some m)) v ok).run P w = .ok (if ok then .tuple #[z,.bool false]else z) w:=by simp only[Jn,Ms,run_underlying hu,Mt,hget,MV,hchk,h1,wH hz]
      have hz1:R1 c.I c.J w z zd:=uP hzd;rw[hlk]at hla;simp only[OK.getD_none,Sh.norm_ok hcz,Jd]at hla;subst hla;refine Mc hR hrun ?_;cases ok with
      |true =>
       refine .tup (aas:=[.d zd,.d (.bool false)]) (vs:=[z,.bool false]) rfl ?_;intro i x y hx hy;match i with
       |0=>simp at hx hy;subst hx;subst hy;exact .d hz1.rv
       |1=>simp at hx hy;subst hx;subst hy;exact .d (Kk false)
       |i+2=>simp at hx
      |false=>exact .d hz1.rv
     |some x =>
      have hxok:sh.ok x=true:=by obtain⟨kv,hm,rfl⟩:=oT hlk;have:=hall kv hm;simp only[NK]at this;exact this.2
      obtain⟨j,u,h1,h2⟩:=hsome x hlk (λcs hcs=>by rw[hcs]at hxok;cases sh<;>simp[L2]at hxok);have hrun:(Jn T (.map (some m)) v ok).run P w = .ok (if ok then .tuple #[u,.bool true]else u) w:=by simp only[Jn,Ms,run_underlying hu,Mt,hget,MV,hchk,h1]
      rw[hlk]at hla;simp only[Li,Sh.norm_ok hxok,Js]at hla;subst hla;refine Mc hR hrun ?_;cases ok with
      |true =>
       refine .tup (aas:=[.d x,.d (.bool true)]) (vs:=[u,.bool true]) rfl ?_;intro i x' y hx hy;match i with
       |0=>simp at hx hy;subst hx;subst hy;exact .d h2.rv
       |1=>simp at hx hy;subst hx;subst hy;exact .d (Kk true)
       |i+2=>simp at hx
      |false=>exact .d h2.rv
    ·simp at hl
   ·split at hl
    ·split at hl
     ·rename_i hck;simp only[K0,J5]at hl;obtain⟨hla,hlF⟩:=hl;rw[←hlF]at hF;have hall:=ND.1 hF;have hval:∀(i:Nat) x kv,ents.toList[i]? = some x->es[i]? = some kv->R1 c.I c.J w x.val kv.2:=by intro i x kv hx hkv;obtain⟨h1,h2⟩:=hes.2 i x kv hx hkv;have:=hall kv (MX hkv);simp only[NK]at this;refine h2.one λcs hcs=>?_;rw[hcs]at this;simp[L2]at this
      obtain⟨hn,hsome⟩:=oU hk hck hv hes hval (λkv hkv=>by have:=hall kv hkv;simp only[NK]at this;exact this.1);have hchk:∀b:Bool,(Jp b 10000 K v).run P w = .ok () w:=λb=>m5 9998 hk hck hv;have hget:(getObj m).run P w = .ok (.map ents clk) w:=by simp[getObj,ID,hw]
      cases hlk:zX es k with
      |none =>
       have h1:=hn hlk;have hrun:(Jn T (.map (some m)) v ok).run P w = .ok (if ok then .tuple #[.nilFunc,.bool false]else .nilFunc) w:=by simp only[Jn,Ms,run_underlying hu,Mt,hget,MV,hchk,h1,wH hz]
       rw[hlk]at hla;simp only[Kq,Jd]at hla;subst hla;refine Mc hR hrun ?_;cases ok with
       |true =>
        refine .tup (aas:=[.fsym none,.d (.bool false)]) (vs:=[.nilFunc,.bool false]) rfl ?_;intro i x y hx hy;match i with
        |0=>simp at hx hy;subst hx;subst hy;exact .fsym none
        |1=>simp at hx hy;subst hx;subst hy;exact .d (Kk false)
        |i+2=>simp at hx
       |false=>exact .fsym none
      |some x =>
       have hxok:L2 .fn x=true:=by obtain⟨kv,hm,rfl⟩:=oT hlk;have:=hall kv hm;simp only[NK]at this;exact this.2
       cases x with
       |fn n =>
        obtain⟨j,u,h1,h2⟩:=hsome _ hlk (λcs hcs=>by cases hcs);cases h2;have hrun:(Jn T (.map (some m)) v ok).run P w = .ok (if ok then .tuple #[.func (.func n) #[] #[],.bool true]else .func (.func n) #[] #[]) w:=by simp only[Jn,Ms,run_underlying hu,Mt,hget,MV,hchk,h1]
        rw[hlk]at hla;simp only[Ly,Js,JB]at hla;subst hla;refine Mc hR hrun ?_;cases ok with
        |true =>
         refine .tup (aas:=[.fsym (some n),.d (.bool true)]) (vs:=[.func (.func n) #[] #[],.bool true]) rfl ?_;intro i x' y hx hy;match i with
         |0=>simp at hx hy;subst hx;subst hy;exact .fsym (some n)
         |1=>simp at hx hy;subst hx;subst hy;exact .d (Kk true)
         |i+2=>simp at hx
        |false=>exact .fsym (some n)
       |_=>simp[L2]at hxok
     ·simp at hl
    ·simp at hl
  ·simp at hl
 ·simp at hl
theorem mapM_parts:∀{ps:ON (Nat×NF)}{qs:ON (Nat×ON AV)},ps.mapM (λ(p:Nat×NF)=>(avCells (e p.2)).map λx=>(p.1,x))=some qs->(∀x,RA c H w (e x) (r x))->z8 (λ(p:Nat×Value) (q:Nat×ON AV)=>p.1=q.1/\z8 (λv a=>RA c H w a v) p.2.cells.toList q.2) (ps.map λp=>(p.1,r p.2)) qs
 |[],qs,h,_=>by simp at h;subst h;exact Mh
 |p::ps,qs,h,he=>by
  rw[Jq]at h;cases hp:avCells (e p.2)with
  |none=>rw[hp]at h;simp at h
  |some x =>
   rw[hp]at h;cases hr:ps.mapM (λ(p:Nat×NF)=>(avCells (e p.2)).map λx=>(p.1,x))with
   |none=>rw[hr]at h;simp at h
   |some xs=>rw[hr]at h;simp at h;subst h;exact M8 ⟨rfl,(w7 (he p.2) hp).1⟩ (mapM_parts hr he)
theorem mapM_vals:∀{ps:ON (Nat×NF)}{qs:ON D},ps.mapM (λ(p:Nat×NF)=>avD (e p.2))=some qs->(∀x,RA c H w (e x) (r x))->z8 (RV c.I c.J w) (ps.map λp=>r p.2) qs
 |[],qs,h,_=>by simp at h;subst h;exact Mh
 |p::ps,qs,h,he=>by
  rw[Jq]at h;cases hp:avD (e p.2)with
  |none=>rw[hp]at h;simp at h
  |some x =>
   rw[hp]at h;cases hr:ps.mapM (λ(p:Nat×NF)=>avD (e p.2))with
   |none=>rw[hr]at h;simp at h
   |some xs=>rw[hr]at h;simp at h;subst h;exact M8 (wj (he p.2) hp) (mapM_vals hr he)
theorem m7 {T E:TypeId}{len sz:Nat}{parts:OC (Nat×NF)}{ds:ON D}{z:Value}(hR:HR c H w) (he:∀x,RA c H w (e x) (r x)) (hu:P.underlying T=some (.slice E)) (hs:xq P E=some sz) (hz:yo P E=some z) (hm:parts.toList.mapM (λ(p:Nat×NF)=>avD (e p.2))=some ds) (h1:parts.toList.map (·.1)=Mq len) (h2:(ds.all λd=>d.cells.length==sz)=true) (h3:len*sz<=2 ^ 24): yn P c H w (Hp T len (parts.map λ(i,x)=>(i,r x))) (.full ds):=by
 have hvals:=mapM_vals (r:=r) hm he;have hlen:ds.length=len:=by have a:=hvals.1;have b:=Mz OJ h1;simp at a b;omega
 have hsz:∀d∈ds,d.cells.length=sz:=λd hd=>by have:=ND.1 h2 d hd;simpa using this
 have hvsz:∀v∈parts.toList.map (λp=>r p.2),v.cells.size=sz:=by
  intro v hv;obtain⟨i,hi,he'⟩:=KS.1 hv;have hi':i<ds.length:=by rw[←hvals.1];exact hi
  have:=hvals.2 i v ds[i] (by simp only[LR hi,he']) (by simp[hi']);have h4:=this.cells.1;simp only[LI]at h4;rw[h4];exact hsz _ (KQ _)
 let zs:OC Value:=if len*sz=0 then #[]else z.cells;let row:OC Value:=(EQ (len*sz)).map (zs[· % zs.size]!);have hrow:row.size=len*sz:=by simp[row]
 have hvl:(parts.toList.map λp=>r p.2).length=len:=by rw[hvals.1,hlen]
 obtain⟨cs',hf,hsz',htl⟩:=cm (size:=sz) (parts.toList.map λp=>r p.2) 0 row hvsz (by rw[hvl,hrow];simp);have hcs:cs'=(((parts.toList.map λ(p:Nat×NF)=>r p.2).map λ(v:Value)=>v.cells.toList).flatten++[]).toArray:=by
  have:cs'.toList=((parts.toList.map λ(p:Nat×NF)=>r p.2).map λ(v:Value)=>v.cells.toList).flatten:=by rw[htl,hvl];simp only[Gq,ON.take_zero,G8,LP];rw[Ls (by simp[hrow])];simp
  rw[JL,←this]
 have hparts:(parts.map λ(x:Nat×NF)=>(x.1,r x.2)).toList=((parts.toList.map λp=>r p.2).zipIdx 0).map λp=>(p.2,p.1):=by
  apply ON.ext_getElem
  ·simp
  ·intro i hi1 hi2;simp only[OC.toList_map,C3,ON.getElem_zipIdx,LP];have hi:i<parts.toList.length:=by simpa using hi1
   have:(parts.toList.map (·.1))[i]'(by simpa using hi)=i:=by simp only[h1];simp
   simp only[C3]at this;simpa using this
 have hnot:¬ len*sz>2 ^ 24:=by omega
 have hrun:(Hp T len (parts.map λ(x:Nat×NF)=>(x.1,r x.2))).run P w = .ok (.slice (some ⟨w.heap.size,0,none⟩) len len) { w with heap:=w.heap.push (.cells cs' E) }:=by
  by_cases hz0:len*sz=0
  ·have hrow':GI (λx=>(#[]:OC Value)[x % (#[]:OC Value).size]!) (EQ (len*sz))=row:=by simp only[row,zs,Nf hz0]
   simp only[Hp,Ms,run_underlying hu,Mt,yt hs,N2 hnot,MV,Nf hz0,hparts,hrow',hf];simp[newRow]
  ·have hrow':GI (λx=>z.cells[x % z.cells.size]!) (EQ (len*sz))=row:=by simp only[row,zs,N2 hz0]
   simp only[Hp,Ms,run_underlying hu,Mt,yt hs,N2 hnot,MV,N2 hz0,wH hz,hparts,hrow',hf];simp[newRow]
 have hr:=R1.new_row (T:=E) (fr:=(0,0)) (cap:=len) hR hvals hsz [] (by omega);rw[←hcs,hlen]at hr;exact⟨_,_,c.imm w.heap.size (len*sz),hrun,Gt c w _ _ hR.ilt hR.jlt,zp.imm c H _ _,hR.push_imm _ _,.full hr⟩
end
theorem aR (s:ON UInt8) (l h:Nat):(⟨s.toArray⟩:NS).extract l h=⟨((s.take h).drop l).toArray⟩:=by apply Ad;simp[Aq,Cs]
section
variable {P:Ng}{c:Cx}{H:ON Box}{w:N4}{e:NF->AV}{r:NF->Value}
theorem yX {k:OA}{i:Int}{y:Nat}{code:BoundsCode}(h0:0<=i) (h1:i<=y):(C4 (.int k i) y code).run P w = .ok i.toNat w:=by simp[C4,asIntOf,h0,h1]
theorem RA.int {k:OA}{n:Int}{v:Value}(h:RA c H w (.d (.int k n)) v):v = .int k n:=by
 cases h with
 |d h=>cases h;rfl
theorem RA.str {s:ON UInt8}{v:Value}(h:RA c H w (.d (.str s)) v):v = .string ⟨s.toArray⟩:=by
 cases h with
 |d h=>cases h;rfl
theorem RA.bool {b:Bool}{v:Value}(h:RA c H w (.d (.bool b)) v):v = .bool b:=by
 cases h with
 |d h=>cases h;rfl
theorem uq {n cap:Nat}{lo hi:OK NF}{l h:Int}{F:Prop}{isSlice:Bool}(he:∀x,RA c H w (e x) (r x)) (hb:wd n (lo.map e) (hi.map e)=some (l,h,F)) (hF:F) (hcap:n<=cap):(Iy isSlice n cap (lo.map r) (hi.map r) none).run P w = .ok (l.toNat,h.toNat,cap) w/\l.toNat<=h.toNat/\h.toNat<=n:=by
 cases lo with
 |none =>
  cases hi with
  |none =>
   simp[wd]at hb;obtain⟨rfl,rfl,_⟩:=hb;simp[Iy]
  |some x =>
   simp only[Kq,Ly,wd]at hb;cases hx:e x<;>rw[hx]at hb<;>try (simp at hb;done)
   rename_i d;cases d<;>try (simp at hb;done)
   cases hb;have hv:=he x;rw[hx]at hv;simp only[Kq,Ly];rw[hv.int];obtain⟨h1,h2⟩:=hF;simp only[Iy,Ms,MV,Mt];rw[yX h1 (by omega)];simp;omega
 |some y =>
  cases hi with
  |none =>
   simp only[Kq,Ly,wd]at hb;cases hx:e y<;>rw[hx]at hb<;>try (simp at hb;done)
   rename_i d;cases d<;>try (simp at hb;done)
   cases hb;have hv:=he y;rw[hx]at hv;simp only[Kq,Ly];rw[hv.int];obtain⟨h1,h2⟩:=hF;simp only[Iy,Ms,MV,Mt];rw[yX h1 (by omega)];simp;omega
  |some x =>
   simp only[Ly,wd]at hb;cases hy:e y<;>rw[hy]at hb<;>try (simp at hb;done)
   rename_i d;cases d<;>try (simp at hb;done)
   cases hx:e x<;>rw[hx]at hb<;>try (simp at hb;done)
   rename_i d;cases d<;>try (simp at hb;done)
   cases hb;have hv:=he y;have hv':=he x;rw[hy]at hv;rw[hx]at hv';simp only[Ly];rw[hv.int,hv'.int];obtain⟨h1,h2,h3⟩:=hF;simp only[Iy,Ms,MV,Mt];rw[yX (by omega) (by omega)];simp only[Mt];rw[yX h1 (by omega)];simp;omega
theorem lT {T:TypeId}{x:NF}{s:ON UInt8}{lo hi:OK NF}{l h:Int}{F:Prop}(hR:HR c H w) (he:∀x,RA c H w (e x) (r x)) (hu:P.underlying T=some .string) (hx:e x = .d (.str s)) (hb:wd s.length (lo.map e) (hi.map e)=some (l,h,F)) (hF:F):yn P c H w (Ke T (r x) (lo.map r) (hi.map r) (Hd r none)) (.d (.str ((s.take h.toNat).drop l.toNat))):=by have hv:=he x;rw[hx]at hv;rw[hv.str];obtain⟨h1,_,_⟩:=uq (P:=P) (cap:=s.length) (isSlice:=false) he hb hF (MS _);refine Mc hR (v:= .string ⟨((s.take h.toNat).drop l.toNat).toArray⟩) ?_ (.d (R1.str _));simp only[Ke,Ms,run_underlying hu,Mt,Im,Kq,Jd,LH,if_false,MV,oY,h1,aR]
theorem oS {ds:ON D}{l h i j:Nat}{d:D}(hc:z1 ((ds.take h).drop l) i j=some d):z1 ds (l+i) j=some d:=by
 unfold z1 at hc ⊢;rw[J0,Ld]at hc;split at hc
 ·exact hc
 ·simp at hc
theorem kH {T E:TypeId}{x:NF}{ds:ON D}{lo hi:OK NF}{l h:Int}{F:Prop}(hR:HR c H w) (he:∀x,RA c H w (e x) (r x)) (hu:P.underlying T=some (.slice E)) (hsz:∃sz,xq P E=some sz/\∀d∈ds,d.cells.length=sz) (hx:avSl (e x)=some ds) (hb:wd ds.length (lo.map e) (hi.map e)=some (l,h,F)) (hF:F):yn P c H w (Ke T (r x) (lo.map r) (hi.map r) (Hd r none)) (.d (.sl ((ds.take h.toNat).drop l.toNat))):=by
 obtain⟨ad,n,k,hv,hr,hn⟩:=wG (he x) hx;obtain⟨sz,hsz1,hsz2⟩:=hsz;rw[hv]at hr ⊢;cases hr with
 |nil =>
  obtain⟨h1,h2,h3⟩:=uq (P:=P) (cap:=0) (isSlice:=true) he hb hF (MS _);have e1:h.toNat=0:=by simpa using h3
  have e2:l.toNat=0:=by omega
  refine Mc hR (v:= .slice none 0 0) ?_ ?_
  ·simp only[LZ]at h1;simp only[Ke,Ms,run_underlying hu,Mt,Im,Kq,h1,yt hsz1,e1,e2];rfl
  ·simp only[Ek,Ck];exact .d R1.nil
 |emp a =>
  obtain⟨h1,h2,h3⟩:=uq (P:=P) (cap:=k) (isSlice:=true) he hb hF (Nat.zero_le _);have e1:h.toNat=0:=by simpa using h3
  have e2:l.toNat=0:=by omega
  refine Mc hR (v:= .slice (some a) 0 k) ?_ ?_
  ·simp only[LZ]at h1;simp only[Ke,Ms,run_underlying hu,Mt,Im,Kq,h1,yt hsz1,e1,e2,Ly,Gq,Ee,F4,if_true];by_cases hk0:k=0
   ·rw[Nf hk0];rfl
   ·rw[N2 hk0];rfl
  ·simp only[Ek,Ck];exact .d (HK a k)
 |sl b off cap sz' ds vals hsz hc hr hcap =>
  obtain⟨h1,h2,h3⟩:=uq (P:=P) (cap:=k) (isSlice:=true) he hb hF hcap;have hlen:((ds.take h.toNat).drop l.toNat).length=h.toNat - l.toNat:=by simp;omega
  by_cases hkl:k=l.toNat
  ·have e1:h.toNat=l.toNat:=by omega
   refine Mc hR (v:= .slice (some ⟨b,off,none⟩) (h.toNat - l.toNat) (k - l.toNat)) ?_ ?_
   ·simp only[Ke,Ms,run_underlying hu,Mt,Im,Kq,h1,yt hsz1,Nf hkl];rfl
   ·have:(ds.take h.toNat).drop l.toNat=[]:=by apply Ju;omega
    rw[this];have e2:h.toNat - l.toNat=([]:ON D).length:=by simp;omega
    rw[e2];refine .d (I2 b off _ 0 [] (λ_ _=>undef) (by simp) (by intro i j d hd;simp[z1]at hd) (by intro i j d hd;simp[z1]at hd) (by simp))
  ·refine Mc hR (v:= .slice (some ⟨b,off+l.toNat*sz,none⟩) (h.toNat - l.toNat) (k - l.toNat)) ?_ ?_
   ·simp only[Ke,Ms,run_underlying hu,Mt,Im,Kq,h1,yt hsz1,N2 hkl,Ly,xS];rfl
   ·rw[←hlen];have hz:∀d∈(ds.take h.toNat).drop l.toNat,d.cells.length=sz:=λd hd=>hsz2 d (Je (ON.mem_of_mem_drop hd));have hss:ds≠[]->sz'=sz:=λhne=>by obtain⟨d,hd⟩:=ON.exists_mem_of_ne_nil ds hne;rw[←hsz d hd,←hsz2 d hd]
    refine .d (I2 b (off+l.toNat*sz) (k - l.toNat) sz _ (λi j=>vals (l.toNat+i) j) hz ?_ (λi j d hd=>hr _ _ _ (oS hd)) (by omega));intro i j d hd;have h5:=oS hd;have hne:ds≠[]:=by intro h0;subst h0;simp[z1]at h5
    have:=hc _ _ _ h5;rw[hss hne]at this;rw[show off+l.toNat*sz+i*sz+j=off+(l.toNat+i)*sz+j by rw[Kn];omega];exact this
theorem lS {T E m:Nat}{x:NF}{cs:ON D}{lo hi:OK NF}{l h:Int}{F:Prop}(hR:HR c H w) (he:∀x,RA c H w (e x) (r x)) (hu:P.underlying T=some (.array m E)) (hs:xq P E=some 1) (hx:e x = .iptr cs) (hb:wd m (lo.map e) (hi.map e)=some (l,h,F)) (hF:F) (hm:m<=cs.length):yn P c H w (Ke T (r x) (lo.map r) (hi.map r) (Hd r none)) (.d (.sl (((cs.take m).take h.toNat).drop l.toNat))):=by
 have hv:=he x;rw[hx]at hv;generalize r x=rx at *;cases hv with
 |@iptr _ b o hc =>
  obtain⟨h1,h2,h3⟩:=uq (P:=P) (cap:=m) (isSlice:=false) he hb hF (MS _);have hlen:(((cs.take m).take h.toNat).drop l.toNat).length=h.toNat - l.toNat:=by simp;omega
  have run:(Ke T (.pointer (some ⟨b,o,none⟩)) (lo.map r) (hi.map r) (Hd r none)).run P w = .ok (.slice (some (if m=l.toNat then⟨b,o,none⟩else⟨b,o+l.toNat,none⟩)) (h.toNat - l.toNat) (m - l.toNat)) w:=by simp only[Ke,Ms,run_underlying hu,Mt,JZ,MV,Kq,h1,yt hs,xS,IN]
  refine Mc hR run ?_;by_cases hml:m=l.toNat
  ·have e1:h.toNat=l.toNat:=by omega
   rw[Nf hml];have:((cs.take m).take h.toNat).drop l.toNat=[]:=by apply Ju;omega
   rw[this];have e2:h.toNat - l.toNat=0:=by omega
   rw[e2];exact .d (HK _ _)
  ·rw[N2 hml,←hlen];have key:∀i j d,z1 (((cs.take m).take h.toNat).drop l.toNat) i j=some d->j=0/\c.I b (o+(l.toNat+i))/\∃v,w.cell? ⟨b,o+(l.toNat+i),none⟩=some v/\R1 c.I c.J w v d:=by
    intro i j d hd;obtain⟨y,hy,hj⟩:=OK.bind_eq_some_iff.1 hd;rw[J0,Ld]at hy;split at hy
    ·rw[Ld]at hy;split at hy
     ·obtain⟨i1,v,i2,i3⟩:=hc _ _ hy;have hcell:y.cells=[y]:=by cases i3<;>rfl
      rw[hcell]at hj;cases j with
      |zero=>simp at hj;subst hj;exact⟨rfl,i1,v,i2,i3⟩
      |succ j=>simp at hj
     ·cases hy
    ·cases hy
   refine .d (I2 b (o+l.toNat) (m - l.toNat) 1 _ (λi _=>(w.cell? ⟨b,o+(l.toNat+i),none⟩).getD undef) ?_ ?_ ?_ (by omega))
   ·intro d hd;obtain⟨i,hi'⟩:=ON.getElem?_of_mem hd;rw[J0,Ld]at hi';split at hi'
    ·rw[Ld]at hi';split at hi'
     ·obtain⟨_,v,_,i3⟩:=hc _ _ hi';cases i3<;>rfl
     ·cases hi'
    ·cases hi'
   ·intro i j d hd;obtain⟨rfl,i1,v,i2,i3⟩:=key i j d hd;rw[show o+l.toNat+i*1+0=o+(l.toNat+i) by omega];exact⟨i1,by simp[i2]⟩
   ·intro i j d hd;obtain⟨rfl,i1,v,i2,i3⟩:=key i j d hd;simp only[i2,Li];exact i3
theorem m8 {T E n q sz:Nat}{ad:OK LS}{ds:ON D}{h:Int}{k1 k2:OA}(hR:HR c H w) (hu:P.underlying T=some (.slice E)) (hs:xq P E=some sz) (hr:R1 c.I c.J w (.slice ad n q) (.sl ds)) (hn:n=ds.length) (h0:0<=h) (h1:h<=ds.length): yn P c H w (Ke T (.slice ad n q) none (some (.int k1 h)) (some (.int k2 h))) (.full (ds.take h.toNat)):=by
 have h2:h<=n:=by omega
 clear hn h1;have hq:h.toNat<=q/\(ad=none->q=0):=by
  cases hr with
  |nil=>exact⟨by omega,λ_=>rfl⟩
  |emp=>exact⟨by omega,λh=>by cases h⟩
  |sl _ _ _ _ _ _ _ _ _ hcap=>exact⟨by omega,λh=>by cases h⟩
 have run:(Ke T (.slice ad n q) none (some (.int k1 h)) (some (.int k2 h))).run P w = .ok (.slice ad h.toNat h.toNat) w:=by
  have e1:(if h.toNat=0 then ad else Hd (λx=>x.add (0*sz)) ad)=ad:=by
   split
   ·rfl
   ·cases ad with
    |none=>rfl
    |some a=>simp[F4]
  simp only[Ke,Ms,run_underlying hu,Mt,Im,Iy,MV,if_true];rw[yX h0 (by omega)];simp only[Mt];rw[yX h0 (by omega)];simp only[Mt,MV,Ms,yt hs,Ee];rw[e1]
 refine Mc hR run (.full ?_);cases hr with
 |nil =>
  have:h.toNat=0:=by omega
  rw[this];exact R1.nil
 |emp a =>
  have:h.toNat=0:=by omega
  rw[this,Ek];exact HK _ _
 |sl b off cap sz' ds vals hsz hc hr' hcap =>
  have hl:(ds.take h.toNat).length=h.toNat:=by rw[Kr];omega
  have:=I2 (I:=c.I) (J:=c.J) (w:=w) b off h.toNat sz' (ds.take h.toNat) vals (λd hd=>hsz d (Je hd))
   (λi j d hd=>hc i j d (by
    unfold z1 at hd ⊢;rw[Ld]at hd;split at hd
    ·exact hd
    ·simp at hd))
   (λi j d hd=>hr' i j d (by
    unfold z1 at hd ⊢;rw[Ld]at hd;split at hd
    ·exact hd
    ·simp at hd)) (by omega)
  rw[hl]at this;exact this
def wL (r:NF->Value) (ty:TypeId):Op->NN Value
 |.move x=>pure (r x)
 |.assign x=>pure (r x)
 |.load T a=>JU T (r a)
 |.fieldAddr T x f=>El T (r x) f
 |.indexAddr T x i=>Ir T (r x) (r i)
 |.index T x i=>ER T (r x) (r i)
 |.unOp op _ x=>EB op (r x)
 |.binOp op T x y _=>do eqGuard op T x y (r x) (r y);binOp op T (r x) (r y)
 |.convert S T x=>convert S T (r x)
 |.extract t i=>JJ (r t) i
 |.build T parts=>Gg T (parts.map λ(i,x)=>(i,r x))
 |.buildSlice T len parts=>Hp T len (parts.map λ(i,x)=>(i,r x))
 |.makeFunc fn first cap=>Instr.makeFunc fn (first.map r) (cap.map r)
 |.lookup T x k ok=>Jn T (r x) (r k) ok
 |.slice T x lo hi mx=>Ke T (r x) (lo.map r) (hi.map r) (mx.map r)
 |.nilCheck x=>pure (r x)
 |.call { callee:= .builtin .len,args,argTypes }=>Ip argTypes ty (args.map r)
 |.call { callee:= .builtin .max,args,argTypes }=>Cc argTypes ty (args.map r)
 |_=>stuck ""
theorem kG {av:AV}{v:Value}{b:Bool}(h:RA c H w av v) (hb:nilA av=some b):∃ad n k,v = .slice ad n k/\ad.isNone=b:=by
 have key:∀{x:D}{l:ON D},R1 c.I c.J w v (.sl (x::l))->∃ad n k,v = .slice ad n k/\ad.isNone=false:=by
  intro x l h;cases h with
  |sl=>exact⟨_,_,_,rfl,rfl⟩
 cases h with
 |nils=>cases hb;exact⟨_,_,_,rfl,rfl⟩
 |@d x v h =>
  cases x with
  |sl l=>cases l with
   |nil=>simp[nilA]at hb
   |cons y l=>simp[nilA]at hb;subst hb;exact key h
  |_=>simp[nilA]at hb
 |@full l a n h=>cases l with
   |nil=>simp[nilA]at hb
   |cons y l=>simp[nilA]at hb;subst hb;exact key h
 |@vec q n sz l a m k h=>cases l with
   |nil=>simp[nilA]at hb
   |cons y l=>simp[nilA]at hb;subst hb;exact key h
 |_=>simp[nilA]at hb
theorem mC {av:AV}{v:Value}{b:Bool}(h:RA c H w av v) (hb:nilFA av=some b):(b=true/\v = .nilFunc)∨(b=false/\∃f x y,v = .func f x y):=by
 cases h with
 |nilf=>cases hb;exact .inl ⟨rfl,rfl⟩
 |@d x v h =>
  cases x with
  |fn f=>cases hb;cases h;exact .inr ⟨rfl,_,_,_,rfl⟩
  |_=>simp[nilFA]at hb
 |clo=>cases hb;exact .inr ⟨rfl,_,_,_,rfl⟩
 |yld=>cases hb;exact .inr ⟨rfl,_,_,_,rfl⟩
 |_=>simp[nilFA]at hb
theorem up {T:TypeId}{ps rs:OC TypeId}{va:Bool}{v:Value}{b:Bool}(hu:P.underlying T=some (.func ps rs va)) (h:(b=true/\v = .nilFunc)∨(b=false/\∃f x y,v = .func f x y)):(HV T v .nilFunc).run P w = .ok b w:=by have e:(HV T v .nilFunc).run P w=(GO (9999+1) T v .nilFunc).run P w:=rfl;rw[e];unfold GO;rcases h with⟨rfl,rfl⟩|⟨rfl,f,x,y,rfl⟩<;>simp only[Ms,run_underlying hu,Mt]<;>rfl
theorem Xm {op:KW}{T:TypeId}{x y:NF}{rb:Bool}(hR:HR c H w) (hx:RA c H w (e x) (r x)) (hn:Sd P op T (e x) y=some rb) (hc:∀v,y=Gu v->r y=v): yn P c H w (do eqGuard op T x y (r x) (r y);binOp op T (r x) (r y)) (.d (.bool rb)):=by
 unfold Sd at hn;split at hn
 ·split at hn
  ·rename_i E hu;obtain⟨ad,n,k,hv,hb⟩:=kG hx hn;rw[hc _ rfl,hv];have h1:(eqGuard .eql T x (.const (.slice none 0 0)) (.slice ad n k) (.slice none 0 0)).run P w = .ok () w:=yF (by intro h;cases h) (by intro cs h;cases h);refine Mc hR (v:= .bool rb) ?_ (.d (Kk _));simp only[Ms,h1,Mt];unfold binOp;simp[run_equal_slice_nil w T E ad n k hu,hb]
  ·cases hn
 ·split at hn
  ·rename_i E hu;cases hna:nilA (e x)with
   |none=>rw[hna]at hn;cases hn
   |some b0 =>
    rw[hna]at hn;cases hn;obtain⟨ad,n,k,hv,hb⟩:=kG hx hna;rw[hc _ rfl,hv];have h1:(eqGuard .neq T x (.const (.slice none 0 0)) (.slice ad n k) (.slice none 0 0)).run P w = .ok () w:=yF (by intro h;cases h) (by intro cs h;cases h);refine Mc hR (v:= .bool (!b0)) ?_ (.d (Kk _));simp only[Ms,h1,Mt];unfold binOp;simp[run_equal_slice_nil w T E ad n k hu,hb]
  ·cases hn
 ·split at hn
  ·rename_i hu;have hv:=mC hx hn;have he:=up (w:=w) hu hv;rw[hc _ rfl];have h1:(eqGuard .eql T x (.const .nilFunc) (r x) .nilFunc).run P w = .ok () w:=by rcases hv with⟨_,h⟩|⟨_,f,x',y',h⟩<;>rw[h]<;>exact yF (by intro h;cases h) (by intro cs h;cases h)
   refine Mc hR (v:= .bool rb) ?_ (.d (Kk _));simp only[Ms,h1,Mt];unfold binOp;simp[he]
  ·cases hn
 ·split at hn
  ·rename_i hu;cases hna:nilFA (e x)with
   |none=>rw[hna]at hn;cases hn
   |some b0 =>
    rw[hna]at hn;cases hn;have hv:=mC hx hna;have he:=up (w:=w) hu hv;rw[hc _ rfl];have h1:(eqGuard .neq T x (.const .nilFunc) (r x) .nilFunc).run P w = .ok () w:=by rcases hv with⟨_,h⟩|⟨_,f,x',y',h⟩<;>rw[h]<;>exact yF (by intro h;cases h) (by intro cs h;cases h)
    refine Mc hR (v:= .bool (!b0)) ?_ (.d (Kk _));simp only[Ms,h1,Mt];unfold binOp;simp[he]
  ·cases hn
 ·cases hn
set_option maxHeartbeats 1000000 in
theorem Xl {o:Op}{a:AV}{F:Prop}{ty:TypeId}(hR:HR c H w) (he:∀x,RA c H w (e x) (r x)) (hc:∀y v,y=Gu v->r y=v) (h:xa P e H o=some (a,F)) (hF:F):yn P c H w (wL r ty o) a:=by
 unfold xa at h
 split at h
 ·cases h;exact Mc hR rfl (he _)
 ·cases h;exact Mc hR rfl (he _)
 ·rename_i T x
  have hT:F=OG:=by
   revert h
   cases e x<;>simp<;>(try (split<;>simp))<;>intros<;>simp_all
  subst hT
  exact aT hR (he x) h
 ·rename_i T x f
  split at h
  ·rename_i fs hu
   split at h
   ·rename_i fd hf
    split at h
    ·rename_i n hs
     have hx:=he x
     split at h
     ·rename_i l o hxe
      cases h
      rw[hxe]at hx
      simp only[wL]
      generalize r x=rx at *
      cases hx with
      |ptr hH hl=>exact Mc hR (sE hu hf hs) (.ptr hH hl)
     ·rename_i cs hxe
      cases h
      rw[hxe]at hx
      simp only[wL]
      generalize r x=rx at *
      cases hx with
      |iptr hc=>exact Mc hR (sE hu hf hs) (.iptr λj y hy=>by
        rw[J0]at hy
        have:=hc _ _ hy
        rw[←Iq]at this
        exact this)
     ·simp at h
    ·simp at h
   ·simp at h
  ·simp at h
 ·rename_i T x i
  split at h
  ·rename_i E k n hu hi
   split at h
   ·rename_i ds ag sz hds hag hsz
    split at h
    ·rename_i cs hcs
     split at h
     ·rename_i hlen
      cases h
      obtain⟨ad,m,q,hv,hr1,hm⟩:=wG (he x) hds
      have hiv:=he i
      rw[hi]at hiv
      simp only[wL]
      rw[hiv.int]
      refine ck hR hu hsz hr1 ?_ ?_ hlen hF.1 hF.2
      ·cases ag with
       |true=>exact .inl rfl
       |false =>
        right
        unfold uy at hcs
        cases hs:vL P 9 E with
        |none=>rw[hs]at hcs;simp at hcs
        |some shs =>
         rw[hs]at hcs;simp at hcs;subst hcs
         have:=kL hs hag
         simpa using this
      ·intro hagf xs hxs
       have hne:cs≠[]:=by
        intro h0;subst h0
        cases hs:vL P 9 E with
        |none=>unfold uy at hcs;rw[hs]at hcs;simp at hcs
        |some shs =>
         unfold uy at hcs
         rw[hs]at hcs;simp at hcs
         subst hagf
         have:=kL hs hag
         rw[hcs]at this;simp at this
       cases cs with
       |nil=>exact hne rfl
       |cons y ys=>exact oX hcs y (by simp) xs (by simpa using hxs)
     ·simp at h
    ·simp at h
   ·simp at h
  ·rename_i m E k n hu hi
   split at h
   ·rename_i sz hs
    have hiv:=he i
    rw[hi]at hiv
    exact lU hR hu hs hiv.int (he x) h hF
   ·simp at h
  ·simp at h
 ·rename_i T x i
  split at h
  ·rename_i s k n hu hx hi
   cases h
   have h1:=he x
   have h2:=he i
   rw[hx]at h1
   rw[hi]at h2
   simp only[wL]
   rw[h1.str,h2.int]
   exact Mc hR (iJ hu hF.1 hF.2) (.d (KL _ _))
  ·simp at h
 ·rename_i T x
  split at h
  ·rename_i b hx
   cases h
   have h1:=he x
   rw[hx]at h1
   simp only[wL]
   rw[h1.bool]
   exact Mc hR (v:= .bool (!b)) (by simp[EB]) (.d (Kk _))
  ·simp at h
 ·rename_i T x
  split at h
  ·rename_i k n hx
   cases h
   have h1:=he x
   rw[hx]at h1
   simp only[wL]
   rw[h1.int]
   exact Mc hR (v:= .int k (k.wrap (0 - n))) (by simp[EB,B1]) (.d (KL _ _))
  ·simp at h
 ·rename_i op T x y yT
  split at h
  ·rename_i rb hn
   cases h
   exact Xm hR (he x) hn (λv hv=>hc y v hv)
  split at h
  ·rename_i p q hx hy
   cases hb:aX P op T p q with
   |none=>rw[hb]at h;simp at h
   |some res =>
    obtain⟨rd,rF⟩:=res
    rw[hb]at h
    cases h
    obtain⟨z,h1,h2⟩:=aV (ox:=x) (oy:=y) hb hF (wj (he x) hx) (wj (he y) hy)
    exact Mc hR h1 (.d h2.rv)
  ·simp at h
 ·rename_i S T x
  split at h
  ·rename_i sd k k' n hs hu hx
   cases h
   have h1:=he x
   rw[hx]at h1
   simp only[wL]
   rw[h1.int]
   refine Mc hR (v:= .int k (k.wrap n)) ?_ (.d (KL _ _))
   simp[convert,run_underlying hs,run_underlying hu,Conv.intToInt]
  ·rename_i sd s hs hu hx
   cases h
   have h1:=he x
   rw[hx]at h1
   simp only[wL]
   rw[h1.str]
   refine Mc hR (v:= .string ⟨s.toArray⟩) ?_ (.d (R1.str _))
   simp[convert,run_underlying hs,run_underlying hu]
  ·simp at h
 ·rename_i t i
  split at h
  ·rename_i vs ht
   have h1:=he t
   rw[ht]at h1
   simp only[wL]
   generalize r t=rt at *
   cases h1 with
   |@tup aas us hl hu =>
    cases hi:vs[i]? with
    |none=>rw[hi]at h;simp at h
    |some a' =>
     rw[hi]at h;cases h
     have hlt:i<us.length:=by
      rw[←hl]
      rcases M0 i vs.length with h' |h'
      ·exact h'
      ·simp[My h']at hi
     refine Mc hR (v:=us[i]) ?_ (hu i a us[i] hi (by simp[hlt]))
     simp[JJ,hlt]
  ·simp at h
 ·rename_i T parts
  split at h
  ·rename_i ps hps
   cases hb:fX P T ps with
   |none=>rw[hb]at h;simp at h
   |some x =>
    rw[hb]at h;cases h
    obtain⟨v,h1,h2⟩:=fW hb (mapM_parts (r:=r) hps he)
    refine Mc hR (v:=v) ?_ h2
    have:(parts.toList.map λp=>(p.1,r p.2)).toArray=parts.map λ(x:Nat×NF)=>(x.1,r x.2):=by
     apply Lm;simp
    rw[this]at h1
    exact h1
  ·simp at h
 ·rename_i T len parts
  split at h
  ·rename_i E hu
   split at h
   ·rename_i sz z ds hs hz hm
    split at h
    ·rename_i hc
     cases h
     exact m7 hR he hu hs hz hm hc.1 hc.2.1 hc.2.2
    ·simp at h
   ·simp at h
  ·simp at h
 ·rename_i f first cap
  cases h
  refine Mc hR (v:= .func (.func f) (first.map r) (cap.map r)) rfl ?_
  have e1:first.map r=(first.toList.map r).toArray:=by apply Lm;simp
  have e2:cap.map r=(cap.toList.map r).toArray:=by apply Lm;simp
  rw[e1,e2]
  refine .clo (by simp) (by simp) ?_ ?_
  ·intro i a v h1 h2
   simp only[M6]at h1 h2
   cases hx:first.toList[i]? with
   |none=>rw[hx]at h1;simp at h1
   |some x=>rw[hx]at h1 h2;simp at h1 h2;subst h1;subst h2;exact he x
  ·intro i a v h1 h2
   simp only[M6]at h1 h2
   cases hx:cap.toList[i]? with
   |none=>rw[hx]at h1;simp at h1
   |some x=>rw[hx]at h1 h2;simp at h1 h2;subst h1;subst h2;exact he x
 ·rename_i T x k ok
  split at h
  ·rename_i es kd hx hk
   have h1:=he x
   rw[hx]at h1
   simp only[wL]
   generalize r x=rx at *
   cases h1 with
   |d h1 =>
    cases h1 with
    |gmap m ents clk es hJ hw hlen hkk hvv =>
     refine kI hR h hF (m0 (he k) hk) hw ⟨by simpa using hlen,λi x kv hx hkv=>?_⟩
     have e1:ents.getD i default=x:=by
      simp only[KA]at hx
      simp[Lk,hx]
     have a1:=hkk i kv hkv
     have a2:=hvv i kv hkv
     rw[e1]at a1 a2
     exact⟨a1.rv,a2.rv⟩
  ·rename_i l kd hx hk
   split at h
   ·rename_i es hH
    have h1:=he x
    rw[hx]at h1
    simp only[wL]
    generalize r x=rx at *
    cases h1 with
    |@map _ b q es' hH' hl =>
     obtain⟨ents,clk,hw,hes⟩:=hR.box l b q _ hl hH
     exact kI hR h hF (m0 (he k) hk) hw hes
   ·simp at h
  ·simp at h
 ·rename_i T x lo hi
  split at h
  ·rename_i s hu hx
   split at h
   ·rename_i l hh FF hb
    cases h
    exact lT hR he hu hx hb hF
   ·simp at h
  ·rename_i E hu
   split at h
   ·rename_i ds sz hds hsz
    split at h
    ·rename_i l hh FF hb
     cases h
     refine kH hR he hu ⟨sz,hsz,λd hd=>?_⟩ hds hb hF.1
     have:=ND.1 (show(ds.all λd=>d.cells.length==sz)=true from hF.2) d hd
     simpa using this
    ·simp at h
   ·simp at h
  ·rename_i m E cs hu hx
   split at h
   ·rename_i sz hs
    split at h
    ·rename_i h1
     obtain⟨rfl,h1⟩:=h1
     split at h
     ·rename_i l hh FF hb
      cases h
      exact lS hR he hu hs hx hb hF h1
     ·simp at h
    ·simp at h
   ·simp at h
  ·simp at h
 ·rename_i x
  split at h
  all_goals first
   |(simp at h;done)
   |(rename_i hx;cases h;have h1:=he x;rw[hx]at h1;exact Mc hR rfl h1)
 ·rename_i args argTypes
  split at h
  ·rename_i x T hx hT
   have ea:args = #[x]:=by apply Lm;simpa using hx
   have et:argTypes = #[T]:=by apply Lm;simpa using hT
   subst ea;subst et
   split at h
   ·rename_i s hu hxs
    cases h
    have h1:=he x
    rw[hxs]at h1
    simp only[wL,E1,Mf,LO]
    rw[h1.str]
    exact Mc hR (cq hu) (.d (KL _ _))
   ·rename_i E hu
    cases hds:avSl (e x)with
    |none=>rw[hds]at h;simp at h
    |some ds =>
     rw[hds]at h;cases h
     obtain⟨ad,n,k,hv,hr1,hn⟩:=wG (he x) hds
     simp only[wL,E1,Mf,LO]
     rw[hv,hn]
     exact Mc hR (pz hu) (.d (KL _ _))
   ·simp at h
  ·simp at h
 ·rename_i args argTypes
  split at h
  ·rename_i x y hxy
   have ea:args = #[x,y]:=by apply Lm;simpa using hxy
   subst ea
   split at h
   ·rename_i k p k' q hx hy
    split at h
    ·rename_i hk
     subst hk
     cases h
     have h1:=he x
     have h2:=he y
     rw[hx]at h1
     rw[hy]at h2
     simp only[wL,E1,Mf,LO]
     rw[h1.int,h2.int]
     refine Mc hR (v:= .int k (if q>p then q else p)) ?_ (.d (KL _ _))
     simp[Cc,MD.max2]
    ·simp at h
   ·simp at h
  ·simp at h
 ·rename_i T x hi mx
  split at h
  ·rename_i E ds k1 hh k2 mm hu hds h1 h2
   split at h
   ·rename_i sz hs
    cases h
    obtain⟨f0,f1,rfl⟩:=hF
    obtain⟨ad,n,q,hv,hr,hn⟩:=wG (he x) hds
    have e1:=he hi
    rw[h1]at e1
    have e2:=he mx
    rw[h2]at e2
    simp only[wL]
    rw[hv,Kq,Ly,Ly,e1.int,e2.int]
    exact m8 hR hu hs (hv ▸ hr) hn f0 f1
   ·simp at h
  ·simp at h
 ·simp at h
end
def yv (vs:ON Value):ON Value:=(vs.map λv=>v.cells.toList).flatten
section
variable {P:Ng}{c:Cx}{H:ON Box}{w:N4}
theorem mB (xs ys:ON Value):yv (xs++ys)=yv xs++yv ys:=by simp[yv]
theorem cj {I:Nat->Nat->Prop}{J:Nat->Prop}{vs:ON Value}{ds:ON D}{sz:Nat}(h:z8 (RV I J w) vs ds) (hsz:∀d∈ds,d.cells.length=sz):∀l∈vs.map (λv=>v.cells.toList),l.length=sz:=by
 intro l hl;obtain⟨v,hv,rfl⟩:=Mj.1 hl;obtain⟨i,hi,he⟩:=KS.1 hv;have hi':i<ds.length:=by rw[←h.1];exact hi
 have:=h.2 i v ds[i] (by simp[hi,he]) (by simp[hi']);rw[this.cells.1];exact hsz _ (KQ _)
theorem wc {α:Type}{sz:Nat}:∀(L:ON (ON α)),(∀l∈L,l.length=sz)->L.flatten.length=L.length*sz
 |[],_=>by simp
 |l::L,h=>by rw[Hs,Kb,wc L (λx hx=>h x (by simp[hx])),h l (by simp),MO,Kn];omega
theorem xQ {I:Nat->Nat->Prop}{J:Nat->Prop}{vs:ON Value}{ds:ON D}{sz:Nat}(h:z8 (RV I J w) vs ds) (hsz:∀d∈ds,d.cells.length=sz):(yv vs).length=ds.length*sz:=by rw[yv,wc _ (cj h hsz)];simp[h.1]
theorem R1.of_row {I:Nat->Nat->Prop}{J:Nat->Prop}{vs:ON Value}{ds:ON D}{sz cap b off:Nat}(h:z8 (RV I J w) vs ds) (hsz:∀d∈ds,d.cells.length=sz) (hc:∀(j:Nat) u,(yv vs)[j]? = some u->I b (off+j)/\w.cell? ⟨b,off+j,none⟩=some u) (hcap:ds.length<=cap):R1 I J w (.slice (some ⟨b,off,none⟩) ds.length cap) (.sl ds):=by
 have hget:∀i j d,z1 ds i j=some d->∃u,(yv vs)[i*sz+j]? = some u/\R1 I J w u d:=by
  intro i j d hd;unfold z1 at hd;cases hi:ds[i]? with
  |none=>rw[hi]at hd;simp at hd
  |some x =>
   rw[hi]at hd;simp only[Iv]at hd;obtain⟨v,hv,hr⟩:=h.get hi;obtain⟨u,hu,hr'⟩:=hr.cells.get hd;have hj:j<sz:=by
    have:j<x.cells.length:=by rcases M0 j x.cells.length with h' |h';exact h';simp[My h']at hd
    rw[hsz x (MX hi)]at this;exact this
   refine⟨u,?_,hr'⟩;rw[yv,tg _ _ _ (cj h hsz) hj];simp[hv];simpa using hu
 refine I2 b off cap sz ds (λi j=>((yv vs)[i*sz+j]?).getD undef) hsz ?_ ?_ hcap
 ·intro i j d hd;obtain⟨u,hu,_⟩:=hget i j d hd;have:=hc _ _ hu;rw[hu,Iq];exact this
 ·intro i j d hd;obtain⟨u,hu,hr⟩:=hget i j d hd;rw[hu];exact hr
theorem tC {ds:ON D}{i:Nat}{d:D}(h:ds[i]? = some d) {j:Nat}{x:D}(hj:d.cells[j]? = some x):z1 ds i j=some x:=by simp[z1,h,hj]
theorem R1.row {I:Nat->Nat->Prop}{J:Nat->Prop}{b off n cap:Nat}{ds:ON D}{sz:Nat}(h:R1 I J w (.slice (some ⟨b,off,none⟩) n cap) (.sl ds)) (hsz:∀d∈ds,d.cells.length=sz):∃vs:ON Value,z8 (RV I J w) vs ds/\∀(j:Nat) u,(yv vs)[j]? = some u->I b (off+j)/\w.cell? ⟨b,off+j,none⟩=some u:=by
 cases h with
 |emp=>exact⟨[],Mh,λj u hu=>by simp[yv]at hu⟩
 |sl b off cap sz' ds vals hsz' hc hr hcap =>
  have hss:∀d∈ds,sz'=sz:=λd hd=>by rw[←hsz' d hd,←hsz d hd]
  let mk:Nat->D->Value:=λi d=>match d with
   |.agg cs=>.agg ((Mq cs.length).map λj=>vals i j).toArray
   |_=>vals i 0
  have hcells:∀i d,ds[i]? = some d->(mk i d).cells.toList=(Mq sz).map λj=>vals i j:=by
   intro i d hd;have hl:=hsz d (MX hd);cases d with
   |agg cs=>simp only[Mw]at hl;simp[mk,LN,hl]
   |_ =>
    simp only[Mw,MO,LZ]at hl;have hone:(vals i 0).oneCell'=true:=(hr i 0 _ (tC hd rfl)).oneCell;rw[←hl];simp[mk];generalize vals i 0=z at *;cases z<;>first|rfl|(simp[Value.oneCell']at hone)
  refine⟨(ds.zipIdx).map λp=>mk p.2 p.1,⟨by simp,λi v d hv hd=>?_⟩,λj u hu=>?_⟩
  ·simp only[M6,DV,hd]at hv;simp at hv;subst hv;cases d with
   |agg cs =>
    refine⟨_,rfl,by simp,λj v x hv hx=>?_⟩;have hlt:j<cs.length:=by rcases M0 j cs.length with h' |h';exact h';simp[My h']at hx
    simp[hlt]at hv;subst hv;exact hr i j x (tC hd hx)
   |_=>exact(hr i 0 _ (tC hd rfl)).rv
  ·have hflat:yv ((ds.zipIdx).map λp=>mk p.2 p.1)=((Mq ds.length).map λi=>(Mq sz).map λj=>vals i j).flatten:=by
    unfold yv;congr 1;apply Jc;intro i;simp only[M6,DV];by_cases hi:i<ds.length
    ·have e1:ds[i]? = some ds[i]:=by simp[hi]
     simp only[e1,Ly,LP,hcells i _ e1];simp[hi]
    ·simp[hi]
   rw[hflat]at hu;by_cases hsz0:sz=0
   ·have:((Mq ds.length).map λi=>(Mq sz).map λj=>vals i j).flatten=[]:=by rw[ON.flatten_eq_nil_iff];intro l hl;obtain⟨i,_,rfl⟩:=Mj.1 hl;simp[hsz0]
    rw[this]at hu;simp at hu
   ·have e2:j=j / sz*sz+j % sz:=by rw[JH];exact(Hm j sz).symm
    rw[e2,tg (sz:=sz) _ _ _ (by intro l hl;obtain⟨i,_,rfl⟩:=Mj.1 hl;simp) (IK _ (by omega))]at hu;have hi:j / sz<ds.length:=by
     rcases M0 (j / sz) ds.length with h' |h'
     ·exact h'
     ·simp[My (show(Mq ds.length).length<=j / sz by simpa using h')]at hu
    have hjm:j % sz<sz:=IK _ (by omega);simp[hi,hjm]at hu;subst hu;have e1:ds[j / sz]? = some ds[j / sz]:=by simp[hi]
    have hl:=hsz _ (MX e1);have hx:ds[j / sz].cells[j % sz]? = some (ds[j / sz].cells[j % sz]'(by rw[hl];exact hjm)):=by simp[hl,hjm]
    have:=hc _ _ _ (tC e1 hx);rw[hss _ (MX e1),Iq,←e2]at this;exact this
end
open Go.Sx.R1 renaming of_row->GH
section
variable {P:Ng}{c:Cx}{H:ON Box}{w w':N4}
def Cx.more (c:Cx) (S:Nat->Nat->Prop):Cx:= { c with I:=λb o=>c.I b o∨S b o }
theorem Ext.more (c:Cx) (w:N4) (S:Nat->Nat->Prop) (hS:∀b o,S b o->∃l k:Nat,c.ρ[l]? = some (some (b,k))):Nw c w (c.more S) w :=⟨rfl,rfl,rfl,λ_ _ h=>.inl h,λ_ h=>h,λ_ _ _=>rfl,λ_ _=>rfl,MS _,λ_ _ _=>rfl,λb o h=>by
  rcases h with h|h
  ·exact .inl h
  ·exact .inr (.inr (hS b o h)),λ_ h=>.inl h,λl _ k h=>.inl ⟨l,k,h⟩⟩
theorem zp.more (c:Cx) (H:ON Box) (S:Nat->Nat->Prop):zp c H (c.more S) H:=Md c H
theorem HR.more (hR:HR c H w) (S:Nat->Nat->Prop) (hS:∀b o,S b o->∃l k:Nat,c.ρ[l]? = some (some (b,k))) (h1:∀b o,S b o->b<w.heap.size) (h2:∀b o l k:Nat,S b o->c.ρ[l]? = some (some (b,k))->∃n sz,H[l]? = some (.vec n sz)/\o<n*sz):HR (c.more S) H w where
 len:=hR.len
 inj:=hR.inj
 box l b k x a b':=(hR.box l b k x a b').ext (Ext.more c w S hS) (zp.more c H S) rfl
 non:=hR.non
 lt:=hR.lt
 ilt b o h:=by rcases h with h|h;exact hR.ilt b o h;exact h1 b o h
 jlt:=hR.jlt
 iap b o l k h h':=by rcases h with h|h;exact hR.iap b o l k h h';exact h2 b o l k h h'
 jap:=hR.jap
def Cx.moved (c:Cx) (l b k:Nat):Cx:= { c with ρ:=c.ρ.set l (some (b,k)) }
theorem Ext.moved {l:Nat}(o:Ln) (k:Nat) (hR:HR c H w):Nw c w (c.moved l w.heap.size k) { w with heap:=w.heap.push o } where
 os:=rfl
 tape:=rfl
 output:=rfl
 isub _ _ h:=h
 jsub _ h:=h
 icell b o h:=xz (zC (hR.ilt b o h)) _ _
 jobj r h:=zC (hR.jlt r h)
 size:=by simp
 frame b hb _:=zC hb
 inew _ _ h:= .inl h
 jnew _ h:= .inl h
 fresh l' b k' h:=by
  by_cases e:l=l'
  ·subst e;by_cases hl:l<c.ρ.length
   ·simp only[Cx.moved]at h;rw[LQ]at h;simp[hl]at h;right;omega
   ·simp only[Cx.moved]at h;rw[LQ]at h;simp[hl]at h
  ·simp only[Cx.moved]at h;rw[zG e]at h;exact .inl ⟨l',k',h⟩
theorem zp.vec {l n n' sz:Nat}{c':Cx}(hl:H[l]? = some (.vec n sz)) (hn:n<=n') (ho:∀m,m≠l->c'.ρ[m]? = c.ρ[m]?) (he:n=n'->c'.ρ[l]? = c.ρ[l]?):zp c H c' (H.set l (.vec n' sz)):=by
 intro m y hy;by_cases e:l=m
 ·subst e;rw[hl]at hy;simp at hy;subst hy;exact⟨n',xy hl,hn,he⟩
 ·have:=ho m (KM e);cases y<;>simp only[zG e,hy,this]<;>simp
theorem HR.moved {l n n' sz k:Nat}(o:Ln) (hR:HR c H w) (hl:H[l]? = some (.vec n sz)) (hn:n<n') (hx:sG (c.moved l w.heap.size k) (H.set l (.vec n' sz)) { w with heap:=w.heap.push o } w.heap.size k (.vec n' sz)): HR (c.moved l w.heap.size k) (H.set l (.vec n' sz)) { w with heap:=w.heap.push o }:=by
 have hlt:l<c.ρ.length:=by rw[hR.len];rcases M0 l H.length with h' |h';exact h';simp[My h']at hl
 have hat:(c.moved l w.heap.size k).ρ[l]? = some (some (w.heap.size,k)):=by simp only[Cx.moved];rw[LQ];simp[hlt]
 have hoth:∀m,m≠l->(c.moved l w.heap.size k).ρ[m]? = c.ρ[m]? :=λm hm=>by simp only[Cx.moved];exact zG (KM hm)
 have kp:zp c H (c.moved l w.heap.size k) (H.set l (.vec n' sz)):=zp.vec hl (Nat.le_of_lt hn) hoth (λe=>by omega);refine⟨by simp[Cx.moved,hR.len],?_,?_,?_,?_,?_,?_,?_,?_⟩
 ·intro l1 l2 b k1 k2 h1 h2;by_cases e1:l1=l<;>by_cases e2:l2=l
  ·omega
  ·subst e1;rw[hat]at h1;rw[hoth l2 e2]at h2;simp at h1;have:=hR.lt l2 b k2 h2;omega
  ·subst e2;rw[hat]at h2;rw[hoth l1 e1]at h1;simp at h2;have:=hR.lt l1 b k1 h1;omega
  ·rw[hoth l1 e1]at h1;rw[hoth l2 e2]at h2;exact hR.inj l1 l2 b k1 k2 h1 h2
 ·intro m b k1 x h1 h2;by_cases e:m=l
  ·subst e;rw[hat]at h1;rw[xy hl]at h2;simp at h1 h2;obtain⟨rfl,rfl⟩:=h1;subst h2;exact hx
  ·rw[hoth m e]at h1;rw[zG (KM e)]at h2;exact(hR.box m b k1 x h1 h2).ext (Ext.moved o k hR) kp (zC (hR.lt m b k1 h1))
 ·intro m x h1 h2;by_cases e:m=l
  ·subst e;rw[hat]at h1;simp at h1
  ·rw[hoth m e]at h1;rw[zG (KM e)]at h2;exact hR.non m x h1 h2
 ·intro m b k1 h1;by_cases e:m=l
  ·subst e;rw[hat]at h1;simp at h1;simp;omega
  ·rw[hoth m e]at h1;have:=hR.lt m b k1 h1;simp;omega
 ·intro b o hi;have:=hR.ilt b o hi;simp;omega
 ·intro r hr;have:=hR.jlt r hr;simp;omega
 ·intro b o m k1 hi h1;by_cases e:m=l
  ·subst e;rw[hat]at h1;simp at h1;have:=hR.ilt b o hi;omega
  ·rw[hoth m e]at h1;obtain⟨a,b',h3,h4⟩:=hR.iap b o m k1 hi h1;exact⟨a,b',by rw[zG (KM e)];exact h3,h4⟩
 ·intro r m k1 hr h1;by_cases e:m=l
  ·subst e;rw[hat]at h1;simp at h1;have:=hR.jlt r hr;omega
  ·rw[hoth m e]at h1;exact hR.jap r m k1 hr h1
theorem Ext.setRow {b:Nat}{cs old:OC Value}{T:TypeId}(hb:w.heap[b]? = some (.cells old T (0,0))) (hi:∀o,c.I b o->cs[o]? = old[o]?) (hj:¬ c.J b) (hρ:∃l k:Nat,c.ρ[l]? = some (some (b,k))):Nw c w c (w.setRow b cs) where
 os:=rfl
 tape:=rfl
 output:=rfl
 isub _ _ h:=h
 jsub _ h:=h
 icell b' o h:=by
  by_cases e:b'=b
  ·subst e;simp only[Ko,setRow_heap w b' old cs T (0,0) hb,hb];simp[hi o h]
  ·exact xz (setRow_other w b b' cs e) _ _
 jobj r h:=setRow_other w b r cs (λe=>hj (e ▸ h))
 size:=by simp
 frame b' _ hn:=setRow_other w b b' cs (λe=>by subst e;obtain⟨l,k,hl⟩:=hρ;exact hn l k hl)
 inew _ _ h:= .inl h
 jnew _ h:= .inl h
 fresh l b k h:= .inl ⟨l,k,h⟩
theorem HR.setRow {l b k n n' sz:Nat}{cs old:OC Value}{T:TypeId}(hR:HR c H w) (hl:H[l]? = some (.vec n sz)) (hρ:c.ρ[l]? = some (some (b,k))) (hb:w.heap[b]? = some (.cells old T (0,0))) (hi:∀o,c.I b o->cs[o]? = old[o]?) (hn:n<=n') (hk:n'<=k) (hs:cs.size=k*sz):HR c (H.set l (.vec n' sz)) (w.setRow b cs):=by
 have hj:¬ c.J b:=λh=>hR.jap b l k h hρ;have e:=Ext.setRow (cs:=cs) hb hi hj ⟨l,k,hρ⟩;have kp:zp c H c (H.set l (.vec n' sz)):=zp.vec hl hn (λ_ _=>rfl) (λ_=>rfl);refine⟨by simp[hR.len],hR.inj,?_,?_,?_,?_,?_,?_,hR.jap⟩
 ·intro m b1 k1 x h1 h2;by_cases em:m=l
  ·subst em;rw[xy hl]at h2;rw[hρ]at h1;simp at h1 h2;obtain⟨rfl,rfl⟩:=h1;subst h2;exact⟨cs,T,setRow_heap w b old cs T (0,0) hb,hs,hk⟩
  ·rw[zG (KM em)]at h2;refine(hR.box m b1 k1 x h1 h2).ext e kp (setRow_other w b b1 cs (λe'=>?_));subst e';exact em (hR.inj m l b1 k1 k h1 hρ)
 ·intro m x h1 h2;by_cases em:m=l
  ·subst em;rw[hρ]at h1;simp at h1
  ·rw[zG (KM em)]at h2;exact hR.non m x h1 h2
 ·intro m b1 k1 h1;simp;exact hR.lt m b1 k1 h1
 ·intro b1 o h;simp;exact hR.ilt b1 o h
 ·intro r h;simp;exact hR.jlt r h
 ·intro b1 o m k1 h h1;obtain⟨a,s,h3,h4⟩:=hR.iap b1 o m k1 h h1;by_cases em:m=l
  ·subst em;rw[hl]at h3;simp at h3;obtain⟨rfl,rfl⟩:=h3;exact⟨n',sz,xy hl,MM h4 (G0 _ hn)⟩
  ·exact⟨a,s,by rw[zG (KM em)];exact h3,h4⟩
end
open Go.Sx.Ext renaming more->F5
open Go.Sx.HR renaming more->D3
open Go.Sx.zp renaming more->Fw
def ci (P:Ng) (c:Cx) (H:ON Box) (w:N4) (s:NN Value) (a:AV) (H':ON Box):Prop :=∃v w' c',s.run P w = .ok v w'/\Nw c w c' w'/\zp c H c' H'/\HR c' H' w'/\RA c' H' w' a v
def FA (ds es:ON D) (sz bytes:Nat):Prop:=((ds++es).all λd=>d.cells.length==sz)=true/\(ds.length+es.length)*bytes<=140737488355328
section
variable {P:Ng}{c:Cx}{H:ON Box}{w:N4}
theorem vK {T E ty:TypeId}{i:JF}{a:OK LS}{n k:Nat}{u:Value}(hu:P.underlying T=some (.slice E)) (hi:P.info? E=some i) (hk:n<=k) (hx:u = .slice none 0 0∨ ∃b q,u = .slice (some b) 0 q):(J1 #[T,T] ty #[.slice a n k,u]).run P w = .ok (.slice a n k) w:=by
 rcases hx with rfl|⟨b,q,rfl⟩<;>cases a <;>
  simp[J1,run_underlying hu,sizeOf,typeInfo,hi,Cj,hk,MD.firstCells,loadCells,loadCellsFrom,storeCells]
theorem m9 (t ty e T':TypeId) (i:JF) (ht:P.underlying t=some (.slice e)) (hi:P.info? e=some i) (g sLen sCap:Nat) (cur:OC Value) (hg:w.heap[g]? = some (.cells cur T' (0,0))) (a:LS) (m c:Nat) (news:ON Value) (hl:news.length=m*i.size) (hnews:∀(j:Nat) u,news[j]? = some u->w.cell? (a.add j)=some u) (h1:∀u∈news,u.oneCell'=true) (hroom:sLen+m<=sCap) (hfit:sLen*i.size+news.length<=cur.size):(J1 #[t,t] ty #[.slice (some ⟨g,0,none⟩) sLen sCap,.slice (some a) m c]).run P w = .ok (.slice (some ⟨g,0,none⟩) (sLen+m) sCap) (w.setRow g (cur.toList.take (sLen*i.size)++news++cur.toList.drop (sLen*i.size+news.length)).toArray):=by have hf:=run_firstCells_some (P:=P) w i.size m a m c news hl hnews;have hst:=run_storeCells_at P g (sLen*i.size) T' news 0 cur w hg (by simpa using hfit) h1;simp only[Jm]at hst;simp[J1,run_underlying ht,sizeOf,typeInfo,hi,Cj,hroom,hf,xS,hst]
theorem WY {I:Nat->Nat->Prop}{J:Nat->Prop}{vs:ON Value}{ds:ON D}(h:z8 (RV I J w) vs ds):∀u∈yv vs,u.oneCell'=true:=by
 intro u hu;unfold yv at hu;obtain⟨l,hl,hul⟩:=ON.mem_flatten.1 hu;obtain⟨v,hv,rfl⟩:=Mj.1 hl;obtain⟨i,hi,he⟩:=KS.1 hv;have hi':i<ds.length:=by rw[←h.1];exact hi
 have h2:=(h.2 i v ds[i] (by simp[hi,he]) (by simp[hi'])).cells;obtain⟨j,hj,hej⟩:=KS.1 hul;have hj':j<ds[i].cells.length:=by rw[←h2.1];exact hj
 exact(h2.2 j u _ (by rw[LR hj,hej]) (LR hj')).oneCell
theorem te {ds es:ON D}{sz bytes:Nat}(h:FA ds es sz bytes):(∀d∈ds,d.cells.length=sz)/\(∀d∈es,d.cells.length=sz)/\(∀d∈ds++es,d.cells.length=sz):=by
 have:=ND.1 h.1;have h' :∀d∈ds++es,d.cells.length=sz:=λd hd=>by simpa using this d hd
 exact⟨λd hd=>h' d (by simp[hd]),λd hd=>h' d (by simp[hd]),h'⟩
theorem R1.src {I:Nat->Nat->Prop}{J:Nat->Prop}{b off n cap:Nat}{ds:ON D}{sz:Nat}(h:R1 I J w (.slice (some ⟨b,off,none⟩) n cap) (.sl ds)) (hsz:∀d∈ds,d.cells.length=sz):∃us,z8 (RV I J w) us ds/\∀(j:Nat) u,(yv us)[j]? = some u->w.cell? ⟨b,off+j,none⟩=some u:=by obtain⟨us,h1,h2⟩:=h.row hsz;exact⟨us,h1,λj u hu=>(h2 j u hu).2⟩
theorem cg {T E ty:TypeId}{i:JF}{z:Value}{ds es:ON D}{a:OK LS}{n k:Nat}{b':Nat}{o' q:Nat}(hu:P.underlying T=some (.slice E)) (hi:P.info? E=some i) (hz:i.zero=some z) (hs:R1 c.I c.J w (.slice a n k) (.sl ds)) (hx:∃us,z8 (RV c.I c.J w) us es/\∀(j:Nat) u,(yv us)[j]? = some u->w.cell? ⟨b',o'+j,none⟩=some u) (hF:FA ds es i.size i.bytes) (hb:0<i.bytes) (hne:0<es.length) (hg:k<ds.length+es.length):∃vs us cap,z8 (RV c.I c.J w) vs ds/\z8 (RV c.I c.J w) us es/\ds.length+es.length<=cap/\(J1 #[T,T] ty #[.slice a n k,.slice (some ⟨b',o',none⟩) es.length q]).run P w = .ok (.slice (some ⟨w.heap.size,0,none⟩) (ds.length+es.length) cap) (w.drew.alloc (.cells (yv (vs++us)++(FE z.cells (cap - (ds.length+es.length))).toList).toArray E)):=by
 obtain⟨a1,a2,a3⟩:=te hF;obtain⟨us,hus,hcu⟩:=hx;have hl2:(yv us).length=es.length*i.size:=xQ hus a2;have hnews:∀(j:Nat) v,(yv us)[j]? = some v->w.cell? ((⟨b',o',none⟩:LS).add j)=some v:=λj v hj=>by rw[xS];exact hcu j v hj
 have h47:ds.length+es.length<=140737488355328:=KG (Nat.le_mul_of_pos_right _ hb) hF.2;cases hs with
 |nil =>
  refine⟨[],us,grownCap w es.length 0 E,Mh,hus,by have:=grownCap_ge w es.length 0 E;simpa using this,?_⟩;rw[run_append_nil (P:=P) w T ty E i z hu hi hz ⟨b',o',none⟩ es.length q (yv us) hl2 hnews hne (by simp at h47;omega) (by have:=hF.2;simp at this;omega)];simp only[LZ,LP,G8];congr 2;apply Mz (λx=>EG x E);apply Lm;simp
 |emp a =>
  refine⟨[],us,grownCap w (0+es.length) k E,Mh,hus,grownCap_ge w _ _ E,?_⟩;rw[run_append_grow (P:=P) w T ty E i z hu hi hz a 0 k [] (by simp) (by intro j v hj;simp at hj) ⟨b',o',none⟩ es.length q (yv us) hl2 hnews (by simpa using hg) (by simp at h47;omega) (growslice_fits (by simpa using hg) (by simpa using hF.2))];congr 2;apply Mz (λx=>EG x E);apply Lm;simp[yv]
 |sl b off cap' sz' ds vals hsz hc hr hcap =>
  obtain⟨vs,hvs,hcv⟩:=(I2 (I:=c.I) (J:=c.J) (w:=w) b off k sz' ds vals hsz hc hr hcap).row a1;have hl1:(yv vs).length=ds.length*i.size:=xQ hvs a1;have holds:∀(j:Nat) v,(yv vs)[j]? = some v->w.cell? ((⟨b,off,none⟩:LS).add j)=some v:=λj v hj=>by rw[xS];exact(hcv j v hj).2
  refine⟨vs,us,grownCap w (ds.length+es.length) k E,hvs,hus,grownCap_ge w _ _ E,?_⟩;rw[run_append_grow (P:=P) w T ty E i z hu hi hz ⟨b,off,none⟩ ds.length k (yv vs) hl1 holds ⟨b',o',none⟩ es.length q (yv us) hl2 hnews hg (by omega) (growslice_fits hg hF.2)];congr 2;apply Mz (λx=>EG x E);apply Lm;simp[mB]
theorem cf {w1:N4}{cs:ON Value}{E:TypeId}{fr:Nat×Nat}{j:Nat}{u:Value}(h:cs[j]? = some u):({ w1 with heap:=w1.heap.push (.cells cs.toArray E fr) }:N4).cell? ⟨w1.heap.size,0+j,none⟩=some u:=by simp only[Ko,De,LP];simp[h]
theorem z8.ext' {c':Cx}{w':N4}{vs:ON Value}{ds:ON D}(e:Nw c w c' w') (h:z8 (RV c.I c.J w) vs ds):z8 (RV c'.I c'.J w') vs ds:=h.mono λ_ _ h=>h.ext e
theorem R1.len {I:Nat->Nat->Prop}{J:Nat->Prop}{a:OK LS}{n k:Nat}{ds:ON D}(h:R1 I J w (.slice a n k) (.sl ds)):n=ds.length/\n<=k:=by
 cases h with
 |nil=>simp
 |emp=>simp
 |sl=>exact⟨rfl,by assumption⟩
theorem iA {T E ty:TypeId}{i:JF}{z:Value}{ds es:ON D}{a:OK LS}{n b' o' q:Nat}(hR:HR c H w) (hu:P.underlying T=some (.slice E)) (hi:P.info? E=some i) (hz:i.zero=some z) (hzs:z.cells.size=i.size) (hs:R1 c.I c.J w (.slice a n n) (.sl ds)) (hx:∃us,z8 (RV c.I c.J w) us es/\∀(j:Nat) u,(yv us)[j]? = some u->w.cell? ⟨b',o'+j,none⟩=some u) (hF:FA ds es i.size i.bytes) (hb:0<i.bytes) (hne:0<es.length): ci P c H w (J1 #[T,T] ty #[.slice a n n,.slice (some ⟨b',o',none⟩) es.length q]) (.vec H.length (ds++es)) (H++[.vec (ds.length+es.length) i.size]):=by
 obtain⟨a1,a2,a3⟩:=te hF;have hn:=hs.len.1;obtain⟨vs,us,cap,hvs,hus,hcap,hrun⟩:=cg (ty:=ty) hu hi hz hs hx hF hb hne (by omega);have hall:z8 (RV c.I c.J w) (vs++us) (ds++es):=hvs.append hus;have hfl:(yv (vs++us)).length=(ds.length+es.length)*i.size:=by rw[xQ hall a3];simp
 let w1:N4:= { w with drawn:=w.drawn+1 };have hR1:HR c H w1:=hR.drew _;let row:=yv (vs++us)++(FE z.cells (cap - (ds.length+es.length))).toList;have hrow:row.length=cap*i.size:=by simp only[row,Kb,hfl,LI,size_zeroCells,hzs,←Kn];congr 1;omega
 have e1:=IQ c w1 (.cells row.toArray E) cap hR1.ilt hR1.jlt;have hR2:=He hR1 (.cells row.toArray E) cap (.vec (ds.length+es.length) i.size) ⟨row.toArray,E,wf w1 _,by simpa using hrow,hcap⟩;let S:Nat->Nat->Prop:=λb o=>b=w1.heap.size/\o<(ds.length+es.length)*i.size;have hat:(c.grow w1.heap.size cap).ρ[H.length]? = some (some (w1.heap.size,cap)):=by have:(c.grow w1.heap.size cap).ρ=c.ρ++[some (w1.heap.size,cap)]:=rfl;rw[this,←hR.len];simp
 have hS:∀b o,S b o->∃l k:Nat,(c.grow w1.heap.size cap).ρ[l]? = some (some (b,k)):=λb o h=>⟨_,_,(by have h1:=h.1;subst h1;exact hat)⟩;have hR3:=D3 hR2 S hS (λb o h=>by rw[h.1];simp) (λb o l k h hl=>by obtain⟨rfl,ho⟩:=h;have hll:=hR2.inj l H.length _ _ _ hl hat;subst hll;exact⟨_,_,by simp,ho⟩);have e2:=F5 (c.grow w1.heap.size cap) { w1 with heap:=w1.heap.push (.cells row.toArray E) } S hS;have eall:Nw c w ((c.grow w1.heap.size cap).more S) { w1 with heap:=w1.heap.push (.cells row.toArray E) }:=(Nw.drew c w _).trans (e1.trans e2);refine⟨_,_,_,hrun,eall,(JE c H _ cap _ hR.len).trans (Fw _ _ _),hR3,?_⟩;have hread:R1 ((c.grow w1.heap.size cap).more S).I ((c.grow w1.heap.size cap).more S).J { w1 with heap:=w1.heap.push (.cells row.toArray E) } (.slice (some ⟨w1.heap.size,0,none⟩) (ds++es).length cap) (.sl (ds++es)):=by
  refine GH (z8.ext' eall hall) a3 (λj u hj=>⟨.inr ⟨rfl,?_⟩,?_⟩) (by simpa using hcap)
  ·have:j<(yv (vs++us)).length:=by rcases M0 j (yv (vs++us)).length with h' |h';exact h';simp[My h']at hj
   rw[hfl]at this;omega
  ·refine cf ?_;have:j<(yv (vs++us)).length:=by rcases M0 j (yv (vs++us)).length with h' |h';exact h';simp[My h']at hj
   simp only[row];rw[LJ this];exact hj
 have hlen:(ds++es).length=ds.length+es.length:=by simp
 rw[hlen]at hread;refine H4 (n:=ds.length+es.length) (sz:=i.size) hread (by simp) (by simp) (λ_=>.inr ⟨w1.heap.size,rfl,hat⟩)
end
def lN (P:Ng) (H:ON Box) (T:TypeId) (s x:AV):OK (AV×ON Box×Prop) :=match P.underlying T with
 |some (.slice E)=>match P.info? E with
  |some i=>match i.zero with
   |some z =>
    if 0<i.size/\0<i.bytes/\z.cells.size=i.size then
     match avSl x with
     |some es=>match s with
      |.full ds=>some (.vec H.length (ds++es),H++[.vec (ds.length+es.length) i.size],FA ds es i.size i.bytes)
      |.vec l ds=>match H[l]? with
       |some (.vec n sz)=>some (.vec l (ds++es),H.set l (.vec (ds.length+es.length) sz),n=ds.length/\sz=i.size/\FA ds es i.size i.bytes)
       |_=>none
      |_=>none
     |none=>none
    else none
   |none=>none
  |none=>none
 |_=>none
section
variable {P:Ng}{c:Cx}{H:ON Box}{w:N4}
theorem kF {α:Type}{xs:ON α}{x:α}{l:Nat}(h:xs[l]? = some x):xs.set l x=xs:=by
 apply Jc;intro i;by_cases e:l=i
 ·subst e;rw[xy h,h]
 ·rw[zG e]
theorem HR.push_none {n sz:Nat}(hR:HR c H w):HR { c with ρ:=c.ρ++[none] } (H++[.vec n sz]) w/\zp c H { c with ρ:=c.ρ++[none] } (H++[.vec n sz])/\Nw c w { c with ρ:=c.ρ++[none] } w:=by
 have e:Nw c w { c with ρ:=c.ρ++[none] } w:=⟨rfl,rfl,rfl,λ_ _ h=>h,λ_ h=>h,λ_ _ _=>rfl,λ_ _=>rfl,MS _,λ_ _ _=>rfl,λ_ _ h=>.inl h,λ_ h=>.inl h,λl b k h=>by
  rcases zw h with h|⟨_,h⟩
  ·exact .inl ⟨l,k,h⟩
  ·simp at h⟩
 have kp:zp c H { c with ρ:=c.ρ++[none] } (H++[.vec n sz]):=by
  intro l y hy;have hlt:l<H.length:=by rcases M0 l H.length with h' |h';exact h';simp[My h']at hy
  have e1:(H++[Lo n sz])[l]? = some y:=yG hy;have e2:(c.ρ++[none])[l]? = c.ρ[l]? :=sF (by have:=hR.len;omega);cases y<;>simp only[e1,e2]<;>simp
 refine⟨⟨by simp[hR.len],?_,?_,?_,?_,hR.ilt,hR.jlt,?_,?_⟩,kp,e⟩
 ·intro l l' b k k' h1 h2;rcases zw h1 with h1|⟨_,h1⟩<;>rcases zw h2 with h2|⟨_,h2⟩<;>first|(simp at h1;done)|(simp at h2;done)|exact hR.inj l l' b k k' h1 h2
 ·intro l b k x h1 h2;rcases zw h1 with h1|⟨_,h1⟩
  ·rcases zw h2 with h2|⟨e2,h2⟩
   ·exact(hR.box l b k x h1 h2).ext e kp rfl
   ·have:=hR.len;rw[My (by omega)]at h1;simp at h1
  ·simp at h1
 ·intro l x h1 h2;rcases zw h2 with h2|⟨e2,h2⟩
  ·rcases zw h1 with h1|⟨e1,_⟩
   ·exact hR.non l x h1 h2
   ·have:=hR.len;rw[My (by omega)]at h2;simp at h2
  ·exact .inl ⟨_,_,h2⟩
 ·intro l b k h1;rcases zw h1 with h1|⟨_,h1⟩
  ·exact hR.lt l b k h1
  ·simp at h1
 ·intro b o l k hi h1;rcases zw h1 with h1|⟨_,h1⟩
  ·obtain⟨a,s,h3,h4⟩:=hR.iap b o l k hi h1;exact⟨a,s,yG h3,h4⟩
  ·simp at h1
 ·intro r l k hr h1;rcases zw h1 with h1|⟨_,h1⟩
  ·exact hR.jap r l k hr h1
  ·simp at h1
theorem hO {u:Value}{es:ON D}(h:R1 c.I c.J w u (.sl es)):(es=[]/\(u = .slice none 0 0∨ ∃b q,u = .slice (some b) 0 q))∨(0<es.length/\∃b o q,u = .slice (some ⟨b,o,none⟩) es.length q):=by
 cases h with
 |nil=>exact .inl ⟨rfl,.inl rfl⟩
 |emp a cap=>exact .inl ⟨rfl,.inr ⟨_,_,rfl⟩⟩
 |sl b off cap sz ds vals hsz hc hr hcap =>
  rcases Nat.eq_zero_or_pos es.length with h0|h0
  ·have:es=[]:=Ju h0;subst this;exact .inl ⟨rfl,.inr ⟨_,_,rfl⟩⟩
  ·exact .inr ⟨h0,b,off,cap,rfl⟩
theorem WX {T E ty:TypeId}{i:JF}{z:Value}{ds es:ON D}{a:OK LS}{n k l b' o' q:Nat}(hR:HR c H w) (hu:P.underlying T=some (.slice E)) (hi:P.info? E=some i) (hz:i.zero=some z) (hzs:z.cells.size=i.size) (hl:H[l]? = some (.vec ds.length i.size)) (hs:R1 c.I c.J w (.slice a n k) (.sl ds)) (hx:R1 c.I c.J w (.slice (some ⟨b',o',none⟩) es.length q) (.sl es)) (hF:FA ds es i.size i.bytes) (hb:0<i.bytes) (hne:0<es.length) (hg:k<ds.length+es.length): ci P c H w (J1 #[T,T] ty #[.slice a n k,.slice (some ⟨b',o',none⟩) es.length q]) (.vec l (ds++es)) (H.set l (.vec (ds.length+es.length) i.size)):=by
 obtain⟨a1,a2,a3⟩:=te hF;obtain⟨vs,us,cap,hvs,hus,hcap,hrun⟩:=cg (ty:=ty) (q:=q) hu hi hz hs (hx.src a2) hF hb hne hg;have hall:z8 (RV c.I c.J w) (vs++us) (ds++es):=hvs.append hus;have hfl:(yv (vs++us)).length=(ds.length+es.length)*i.size:=by rw[xQ hall a3];simp
 let w1:N4:= { w with drawn:=w.drawn+1 };have hR1:HR c H w1:=hR.drew _;let row:=yv (vs++us)++(FE z.cells (cap - (ds.length+es.length))).toList;have hrow:row.length=cap*i.size:=by simp only[row,Kb,hfl,LI,size_zeroCells,hzs,←Kn];congr 1;omega
 have e1:=Nw.moved (l:=l) (.cells row.toArray E) cap hR1;have hR2:=HR.moved (k:=cap) (n':=ds.length+es.length) (.cells row.toArray E) hR1 hl (by omega) ⟨row.toArray,E,wf w1 _,by simpa using hrow,hcap⟩;let S:Nat->Nat->Prop:=λb o=>b=w1.heap.size/\o<(ds.length+es.length)*i.size;have hlt:l<c.ρ.length:=by rw[hR.len];rcases M0 l H.length with h' |h';exact h';simp[My h']at hl
 have hat:(c.moved l w1.heap.size cap).ρ[l]? = some (some (w1.heap.size,cap)):=by have:(c.moved l w1.heap.size cap).ρ=c.ρ.set l (some (w1.heap.size,cap)):=rfl;rw[this,LQ];simp[hlt]
 have hS:∀b o,S b o->∃m k:Nat,(c.moved l w1.heap.size cap).ρ[m]? = some (some (b,k)):=λb o h=>⟨_,_,(by have h1:=h.1;subst h1;exact hat)⟩;have hR3:=D3 hR2 S hS (λb o h=>by rw[h.1];simp) (λb o m k h hm=>by obtain⟨rfl,ho⟩:=h;have hll:=hR2.inj m l _ _ _ hm hat;subst hll;exact⟨_,_,xy hl,ho⟩);have e2:=F5 (c.moved l w1.heap.size cap) { w1 with heap:=w1.heap.push (.cells row.toArray E) } S hS;have eall:Nw c w ((c.moved l w1.heap.size cap).more S) { w1 with heap:=w1.heap.push (.cells row.toArray E) }:=(Nw.drew c w _).trans (e1.trans e2);have kp:zp c H (c.moved l w1.heap.size cap) (H.set l (.vec (ds.length+es.length) i.size)):=zp.vec hl (by omega) (λm hm=>by have:(c.moved l w1.heap.size cap).ρ=c.ρ.set l (some (w1.heap.size,cap)):=rfl;rw[this];exact zG (KM hm)) (λe=>by omega);refine⟨_,_,_,hrun,eall,kp.trans (Fw _ _ _),hR3,?_⟩;have hread:R1 ((c.moved l w1.heap.size cap).more S).I ((c.moved l w1.heap.size cap).more S).J { w1 with heap:=w1.heap.push (.cells row.toArray E) } (.slice (some ⟨w1.heap.size,0,none⟩) (ds++es).length cap) (.sl (ds++es)):=by
  refine GH (z8.ext' eall hall) a3 (λj u hj=>⟨.inr ⟨rfl,?_⟩,?_⟩) (by simpa using hcap)
  ·have:j<(yv (vs++us)).length:=by rcases M0 j (yv (vs++us)).length with h' |h';exact h';simp[My h']at hj
   rw[hfl]at this;omega
  ·refine cf ?_;have:j<(yv (vs++us)).length:=by rcases M0 j (yv (vs++us)).length with h' |h';exact h';simp[My h']at hj
   simp only[row];rw[LJ this];exact hj
 have hlen:(ds++es).length=ds.length+es.length:=by simp
 rw[hlen]at hread;exact H4 (n:=ds.length+es.length) (sz:=i.size) hread (xy hl) (by simp) (λ_=>.inr ⟨w1.heap.size,rfl,hat⟩)
theorem WW {T E ty:TypeId}{i:JF}{ds es:ON D}{k l b b' o' q:Nat}(hR:HR c H w) (hu:P.underlying T=some (.slice E)) (hi:P.info? E=some i) (hl:H[l]? = some (.vec ds.length i.size)) (hρ:c.ρ[l]? = some (some (b,k))) (hs:R1 c.I c.J w (.slice (some ⟨b,0,none⟩) ds.length k) (.sl ds)) (hx:R1 c.I c.J w (.slice (some ⟨b',o',none⟩) es.length q) (.sl es)) (hF:FA ds es i.size i.bytes) (hg:ds.length+es.length<=k): ci P c H w (J1 #[T,T] ty #[.slice (some ⟨b,0,none⟩) ds.length k,.slice (some ⟨b',o',none⟩) es.length q]) (.vec l (ds++es)) (H.set l (.vec (ds.length+es.length) i.size)):=by
 obtain⟨a1,a2,a3⟩:=te hF;obtain⟨vs,hvs,hcv⟩:=hs.row a1;obtain⟨us,hus,hcu⟩:=hx.row a2;have hl1:(yv vs).length=ds.length*i.size:=xQ hvs a1;have hl2:(yv us).length=es.length*i.size:=xQ hus a2;obtain⟨old,T',hb,hsz,hnk⟩:=hR.box l b k _ hρ hl;have hfit:ds.length*i.size+(yv us).length<=old.size:=by rw[hl2,hsz,←Kn];exact G0 _ hg
 have hrun:=m9 (P:=P) (w:=w) T ty E T' i hu hi b ds.length k old hb ⟨b',o',none⟩ es.length q (yv us) hl2 (λj v hj=>by rw[xS];exact(hcu j v hj).2) (WY hus) hg hfit;let row:=old.toList.take (ds.length*i.size)++yv us++old.toList.drop (ds.length*i.size+(yv us).length);have hrow:row.toArray.size=k*i.size:=by simp only[row,Hr,Kb,Kr,ON.length_drop,LI];omega
 have htk:(old.toList.take (ds.length*i.size)).length=ds.length*i.size:=by simp;omega
 have hlow:∀o,o<ds.length*i.size->row.toArray[o]? = old[o]? :=by intro o ho;simp only[row,IZ];rw[JM,LJ (by omega),Ld,Nf ho];simp
 have hI:∀o,c.I b o->row.toArray[o]? = old[o]? :=by intro o ho;obtain⟨n,sz,h1,h2⟩:=hR.iap b o l k ho hρ;rw[hl]at h1;simp at h1;obtain⟨rfl,rfl⟩:=h1;exact hlow o h2
 have hj:¬ c.J b:=λh=>hR.jap b l k h hρ;have e1:=Nw.setRow (cs:=row.toArray) hb hI hj ⟨l,k,hρ⟩;have hR2:=HR.setRow (cs:=row.toArray) (n':=ds.length+es.length) hR hl hρ hb hI (by omega) hg hrow;let S:Nat->Nat->Prop:=λb1 o=>b1=b/\o<(ds.length+es.length)*i.size;have hS:∀b1 o,S b1 o->∃l k:Nat,c.ρ[l]? = some (some (b1,k)):=λb1 o h=>⟨l,k,(by have h1:=h.1;subst h1;exact hρ)⟩;have hR3:=D3 hR2 S hS (λb1 o h=>by rw[h.1];simp;exact hR.lt l b k hρ) (λb1 o m k1 h hm=>by obtain⟨rfl,ho⟩:=h;have hll:=hR.inj m l _ _ _ hm hρ;subst hll;exact⟨_,_,xy hl,ho⟩);have eall:Nw c w (c.more S) (w.setRow b row.toArray):=e1.trans (F5 _ _ S hS);have kp:zp c H c (H.set l (.vec (ds.length+es.length) i.size)):=zp.vec hl (by omega) (λ_ _=>rfl) (λ_=>rfl);refine⟨_,_,_,hrun,eall,kp.trans (Fw _ _ _),hR3,?_⟩;have hall:z8 (RV c.I c.J w) (vs++us) (ds++es):=hvs.append hus;have hfl:(yv (vs++us)).length=(ds.length+es.length)*i.size:=by rw[xQ hall a3];simp
 have hread:R1 (c.more S).I (c.more S).J (w.setRow b row.toArray) (.slice (some ⟨b,0,none⟩) (ds++es).length k) (.sl (ds++es)):=by
  refine GH (z8.ext' eall hall) a3 (λj u hj=>⟨.inr ⟨rfl,?_⟩,?_⟩) (by simpa using hg)
  ·have:j<(yv (vs++us)).length:=by rcases M0 j (yv (vs++us)).length with h' |h';exact h';simp[My h']at hj
   rw[hfl]at this;omega
  ·simp only[Ko,setRow_heap w b old row.toArray T' (0,0) hb,LP,Jd,LH,if_false];rw[mB]at hj;by_cases hjl:j<(yv vs).length
   ·rw[LJ hjl]at hj;rw[hlow j (by omega)];have:=(hcv j u hj).2;simp only[Ko,hb,LP,Jd,LH,if_false]at this;exact this
   ·have hj':=hj;rw[KT (by omega)]at hj';have hju:j - (yv vs).length<(yv us).length:=by rcases M0 (j - (yv vs).length) (yv us).length with h' |h';exact h';simp[My h']at hj'
    simp only[row,IZ];rw[JM,KT (by omega),LJ (by omega),htk,←hl1];exact hj'
 have hlen:(ds++es).length=ds.length+es.length:=by simp
 rw[hlen]at hread;exact H4 (n:=ds.length+es.length) (sz:=i.size) hread (xy hl) (by simp) (λ_=>.inr ⟨b,rfl,hρ⟩)
theorem iI {T ty:TypeId}{s x a:AV}{sv xv:Value}{H':ON Box}{F:Prop}(hR:HR c H w) (h:lN P H T s x=some (a,H',F)) (hF:F) (hs:RA c H w s sv) (hx:RA c H w x xv): ci P c H w (J1 #[T,T] ty #[sv,xv]) a H':=by
 unfold lN at h;split at h
 ·rename_i E hu;split at h
  ·rename_i i hi;split at h
   ·rename_i z hz;split at h
    ·rename_i hpos;obtain⟨hp1,hp2,hp3⟩:=hpos;split at h
     ·rename_i es hes;obtain⟨_,_,_,hxv,hxr,_⟩:=wG hx hes;split at h
      ·rename_i ds;cases h;cases hs with
       |@full _ a n hs =>
        rcases hO hxr with⟨rfl,hu0⟩|⟨h0,b',o',q,rfl⟩
        ·obtain⟨h1,h2,h3⟩:=HR.push_none (n:=ds.length+([]:ON D).length) (sz:=i.size) hR;refine⟨_,w,_,vK hu hi (MS _) hu0,h3,h2,h1,?_⟩;rw[JL];exact H4 (n:=ds.length+([]:ON D).length) (sz:=i.size) hs (by simp) (by simp) (λ_=>.inl rfl)
        ·exact iA hR hu hi hz hp3 hs (hxr.src (te hF).2.1) hF hp2 h0
      ·rename_i l ds;split at h
       ·rename_i n sz hl;cases h;obtain⟨rfl,rfl,hF⟩:=hF;cases hs with
        |@vec _ n' sz' _ a m k hs hH hn he =>
         obtain⟨hm1,hm2⟩:=hs.len;subst hm1;rcases hO hxr with⟨rfl,hu0⟩|⟨h0,b',o',q,rfl⟩
         ·refine⟨_,w,c,vK hu hi hm2 hu0,L7 _ _,?_,?_,?_⟩
          ·simp only[LZ,Jm];rw[kF hl];exact Md _ _
          ·simp only[LZ,Jm];rw[kF hl];exact hR
          ·simp only[LZ,Jm,JL];rw[kF hl];exact H4 hs hH hn he
         ·rw[hl]at hH;simp at hH;obtain⟨rfl,rfl⟩:=hH;by_cases hg:ds.length+es.length<=k
          ·rcases he rfl with hk|⟨b,rfl,hρ⟩
           ·omega
           ·exact WW hR hu hi hl hρ hs hxr hF hg
          ·exact WX hR hu hi hz hp3 hl hs hxr hF hp2 h0 (by omega)
       ·simp at h
      ·simp at h
     ·simp at h
    ·simp at h
   ·simp at h
  ·simp at h
 ·simp at h
end
open Go.Sx.HR renaming push_none->Gp
def updD:ON (D×D)->D->D->ON (D×D)
 |[],k,x=>[(k,x)]
 |kv::r,k,x=>if beqD k kv.1 then(k,x)::r else kv::updD r k x
def vg (P:Ng) (e:NF->AV) (H:ON Box):Op->OK (AV×ON Box×Prop)
 |.alloc T=>(yo P T).map λz=>(.ptr H.length 0,H++[.cells T (z.cells.toList.map we)],OG)
 |.box T x=>(avCells (e x)).map λcs=>(.ptr H.length 0,H++[.cells T cs],OG)
 |.store T a x =>
  match e a,avCells (e x),xq P T with
  |.ptr l o,some xs,some n=>match H[l]? with
   |some (.cells T' cs)=>if xs.length=n/\o+n<=cs.length then some (.any,H.set l (.cells T' (putL cs o xs)),OG)else none
   |_=>none
  |_,_,_=>none
 |.makeMap _ none=>some (.map H.length,H++[.map []],OG)
 |.mapUpdate T m k x =>
  match e m,Rp (e k),avD (e x),P.underlying T with
  |.map l,some kd,some xd,some (.map K _)=>match H[l]?,P.underlying K with
   |some (.map es),some kk=>if pv P K kk kd then some (.any,H.set l (.map (updD es kd xd)),(es.all λkv=>sameKind kd kv.1)=true)else none
   |_,_=>none
  |_,_,_,_=>none
 |.call { callee:= .builtin .append,args,argTypes } =>
  match args.toList,argTypes.toList with
  |[s,x],[T,T']=>if T=T' then lN P H T (e s) (e x)else none
  |_,_=>none
 |_=>none
section
variable {P:Ng}{c:Cx}{H:ON Box}{w:N4}{e:NF->AV}{r:NF->Value}
theorem g8 {T:TypeId}{vs:ON Value}{cs:ON AV}(hR:HR c H w) (hv:z8 (λv a=>RA c H w a v) vs cs): let w':N4:= { w with heap:=w.heap.push (.cells vs.toArray T) }
  Nw c w (c.grow w.heap.size 0) w'/\zp c H (c.grow w.heap.size 0) (H++[.cells T cs])/\HR (c.grow w.heap.size 0) (H++[.cells T cs]) w' /\
   RA (c.grow w.heap.size 0) (H++[.cells T cs]) w' (.ptr H.length 0) (.pointer (some ⟨w.heap.size,0,none⟩)):=by
 intro w';have e1:=IQ c w (.cells vs.toArray T) 0 hR.ilt hR.jlt;have kp:=JE c H w.heap.size 0 (.cells T cs) hR.len;refine⟨e1,kp,He hR _ 0 _ ⟨vs,wf w _,hv.mono λ_ _ h=>h.ext e1 kp⟩,.ptr (T:=T) (cs:=cs) (k:=0) (by simp) ?_⟩;have:(c.grow w.heap.size 0).ρ=c.ρ++[some (w.heap.size,0)]:=rfl;rw[this,←hR.len];simp
theorem Te (hR:HR c H w): let w':N4:= { w with heap:=w.heap.push (.map #[] 0) }
  Nw c w (c.grow w.heap.size 0) w'/\zp c H (c.grow w.heap.size 0) (H++[.map []])/\HR (c.grow w.heap.size 0) (H++[.map []]) w' /\
   RA (c.grow w.heap.size 0) (H++[.map []]) w' (.map H.length) (.map (some w.heap.size)):=by
 intro w';have e1:=IQ c w (.map #[] 0) 0 hR.ilt hR.jlt;have kp:=JE c H w.heap.size 0 (.map []) hR.len;refine⟨e1,kp,He hR _ 0 _ ⟨#[],0,wf w _,Mh⟩,.map (es:=[]) (k:=0) (by simp) ?_⟩;have:(c.grow w.heap.size 0).ρ=c.ρ++[some (w.heap.size,0)]:=rfl;rw[this,←hR.len];simp
theorem Xk {T T':TypeId}{l o b k:Nat}{cs xs:ON AV}{v:Value}(hR:HR c H w) (hl:H[l]? = some (.cells T' cs)) (hρ:c.ρ[l]? = some (some (b,k))) (hv:z8 (λv a=>RA c H w a v) v.cells.toList xs) (h1:∀u∈v.cells.toList,u.oneCell'=true) (hs:xq P T=some xs.length) (hfit:o+xs.length<=cs.length):∃w',(J6 T (.pointer (some ⟨b,o,none⟩)) v).run P w = .ok () w'/\Nw c w c w'/\zp c H c (H.set l (.cells T' (putL cs o xs)))/\HR c (H.set l (.cells T' (putL cs o xs))) w':=by
 obtain⟨vs,hw,hvs⟩:=hR.box l b k _ hρ hl;have hlen:v.cells.toList.length=xs.length:=hv.1;have hfit':o+0+v.cells.toList.length<=vs.toArray.size:=by have:=hvs.1;simp only[Hr];omega
 have hrun:=run_storeCells_at P b o T' v.cells.toList 0 vs.toArray w hw hfit' h1;simp only[Jm,←lP _ _ _ (show o+v.cells.toList.length<=vs.toArray.toList.length by have:=hvs.1;simp only[LI];omega)]at hrun;let row:=putL vs o v.cells.toList;have hw':(w.setRow b row.toArray).heap[b]? = some (.cells row.toArray T' (0,0)):=setRow_heap w b vs.toArray row.toArray T' (0,0) hw;have hnv:∀n sz,Box.cells T' cs ≠ .vec n sz:=by intro n sz h;cases h
 have e1:Nw c w c (w.setRow b row.toArray):=Gf (l:=l) (b:=b) (k:=k) hρ hR rfl rfl rfl (by simp) (λb' h=>setRow_other w b b' _ h) (by rw[hl];intro n sz h;cases h);have kp:zp c H c (H.set l (.cells T' (putL cs o xs))):=zp.set_cells hl _;refine⟨_,?_,e1,kp,GN hρ hR hl (by simp) (λb' h=>setRow_other w b b' _ h) hnv e1 kp ⟨row,hw',?_⟩⟩
 ·have hsz:¬ v.cells.size≠xs.length:=by have:=hlen;simp only[LI]at this;omega
  simp only[J6,Ms,JZ,MV,Mt,storeVar,yt hs,N2 hsz];exact hrun
 ·exact(z8.putL o (hvs) hv).mono λ_ _ h=>h.ext e1 kp
end
section
variable {P:Ng}{c:Cx}{H:ON Box}{w:N4}{e:NF->AV}{r:NF->Value}
theorem kE {k x:D}{v u:Value}(hs:sameKind k x=true) (hb:beqD k x=true) (hv:R1 c.I c.J w v k) (hu:R1 c.I c.J w u x):IT 10000 u v=true:=by
 cases hv<;>cases hu<;>simp[sameKind]at hs<;>simp[beqD]at hb<;>subst hb<;>(try subst hs)<;>simp[IT]
 rw[beq_toListBytes];simp
theorem mA {kd:KF}{k x:D}{v xv:Value}(hk:keyOk kd k=true) (hv0:RV c.I c.J w v k) (hx:RV c.I c.J w xv x):∀(es:ON (D×D)) (ents:ON Kl) (i:Nat),fU c w ents es->(∀kv∈es,sameKind k kv.1=true)->(∃j u en,KI kd v ents i=some (some (i+j,u))/\ents[j]? = some en/\IT 10000 en.key v=true/\fU c w (ents.modify j λen=>{ en with key:=v,val:=xv }) (updD es k x)) ∨(KI kd v ents i=some none/\updD es k x=es++[(k,x)])
 |[],ents,i,h,_=>by have:=h.nil_right;subst this;right;simp[KI,updD]
 |kv::es,ents,i,h,hs=>by
  obtain⟨en,ens,rfl,⟨h0,h2⟩,h3⟩:=h.cons_right;have hv:=hv0.one (m6 hk);have h1:=h0.one (oV hk (hs kv (by simp)));have hn:=pu (kd:=kd) hk (hs kv (by simp)) hv h1;have ih:=mA hk hv0 hx es ens (i+1) h3 (λx hx=>hs x (by simp[hx]));simp only[KI,hn,updD];cases hb:beqD k kv.1 with
  |true =>
   left;refine⟨0,en.val,en,by simp,by simp,kE (hs kv (by simp)) hb hv h1,?_⟩;simp only[if_true,DZ];exact M8 ⟨hv0,hx⟩ h3
  |false =>
   simp only[LH,if_false];rcases ih with⟨j,u,en',e1,e2,e3,e4⟩|⟨e1,e2⟩
   ·left;refine⟨j+1,u,en',by rw[e1];congr 3;omega,by simpa using e2,e3,?_⟩;simp only[DY];exact M8 ⟨h0,h2⟩ e4
   ·right;exact⟨e1,by rw[e2];rfl⟩
theorem sC {K:TypeId}{k x:D}{v xv:Value}(hk:WZ P K k=true) (hv:RV c.I c.J w v k) (hx:RV c.I c.J w xv x):∀(es:ON (D×D)) (ents:ON Kl) (i:Nat),fU c w ents es->(∀kv∈es,sameKind k kv.1=true)->(∃j u en,(KJ K v ents i).run P w = .ok (some (i+j,u)) w/\ents[j]? = some en/\IT 10000 en.key v=true/\fU c w (ents.modify j λen=>{ en with key:=v,val:=xv }) (updD es k x)) ∨((KJ K v ents i).run P w = .ok none w/\updD es k x=es++[(k,x)])
 |[],ents,i,h,_=>by have:=h.nil_right;subst this;right;simp[KJ,updD]
 |kv::es,ents,i,h,hs=>by
  obtain⟨en,ens,rfl,⟨h1,h2⟩,h3⟩:=h.cons_right;have ih:=sC hk hv hx es ens (i+1) h3 (λx hx=>hs x (by simp[hx]));obtain⟨k1,a,k2,b,E,kk,rfl,hK,hE,hsz⟩:=tf hk;obtain⟨a',b',hkv⟩:=oW (hs kv (by simp));have h1':=h1;rw[hkv]at h1';have e1:=hv.two;have e2:=h1'.two;have hq:=kJ (w:=w) (k1:=k1) (k2:=k2) (a:=a) (b:=b) (a':=a') (b':=b') hK hE hsz;have hb:beqD (.agg [.int k1 a,.int k2 b]) kv.1=(a==a'&&b==b'):=by rw[hkv];rfl
  simp only[updD,hb,KJ,Ms,e1,e2,hq,Mt];cases hc:(a==a'&&b==b')with
  |true =>
   left;simp only[NK,beq_iff_eq]at hc;obtain⟨rfl,rfl⟩:=hc;refine⟨0,en.val,en,by simp,by simp,by rw[e2];simp[IT],?_⟩;simp only[if_true,DZ];rw[e1]at hv;exact M8 ⟨hv,hx⟩ h3
  |false =>
   simp only[LH,if_false];rw[e1]at ih;rcases ih with⟨j,u,en',f1,f2,f3,f4⟩|⟨f1,f2⟩
   ·left;refine⟨j+1,u,en',by rw[f1];congr 3;omega,by simpa using f2,f3,?_⟩;simp only[DY];exact M8 ⟨h1,h2⟩ f4
   ·right;exact⟨f1,by rw[f2];rfl⟩
theorem ce {K:TypeId}{kd:KF}{k x:D}{v xv:Value}{es:ON (D×D)}{ents:ON Kl}(hku:P.underlying K=some kd) (hk:pv P K kd k=true) (hv:RV c.I c.J w v k) (hx:RV c.I c.J w xv x) (h:fU c w ents es) (hs:∀kv∈es,sameKind k kv.1=true):(∃j u en,(KH K v ents).run P w = .ok (some (j,u)) w/\ents[j]? = some en/\IT 10000 en.key v=true/\fU c w (ents.modify j λen=>{ en with key:=v,val:=xv }) (updD es k x)) ∨((KH K v ents).run P w = .ok none w/\updD es k x=es++[(k,x)]):=by
 simp only[pv,L4]at hk;rcases hk with hk|hk
 ·rcases mA (kd:=kd) hk hv hx es ents 0 h hs with⟨j,u,en,e1,e2⟩|⟨e1,e2⟩
  ·left;exact⟨j,u,en,by rw[LP]at e1;simp only[KH,Ms,run_underlying hku,Mt,e1,MV],e2⟩
  ·right;exact⟨by simp only[KH,Ms,run_underlying hku,Mt,e1,MV],e2⟩
 ·have hf:(KH K v ents).run P w=(KJ K v ents 0).run P w:=by
   obtain⟨k1,x1,k2,x2,E,kk,rfl,hK,hE,hsz⟩:=tf hk;have e1:=hv.two;have:kd = .array 2 E:=by rw[hK]at hku;cases hku;rfl
   subst this;simp only[KH,Ms,run_underlying hku,Mt];cases ents with
   |nil=>simp[KI,KJ]
   |cons en ens=>rw[e1];simp[KI,Gv]
  rw[hf];rcases sC hk hv hx es ents 0 h hs with⟨j,u,en,e1,e2⟩|h'
  ·left;rw[LP]at e1;exact⟨j,u,en,e1,e2⟩
  ·exact .inr h'
theorem kD {m:Nat}{o o':Ln}{ents:OC Kl}{clk:Nat}(ho:o = .map ents clk) (hw:w.heap[m]? = some o):(setObj m o').run P w = .ok () { w with heap:=w.heap.setIfInBounds m o' }:=by subst ho;simp[setObj,ID,hw]
theorem lR {T K E:TypeId}{kk:KF}{l b q:Nat}{es:ON (D×D)}{kd xd:D}{kv xv:Value}(hR:HR c H w) (hu:P.underlying T=some (.map K E)) (hku:P.underlying K=some kk) (hko:pv P K kk kd=true) (hl:H[l]? = some (.map es)) (hρ:c.ρ[l]? = some (some (b,q))) (hall:(es.all λkv=>sameKind kd kv.1)=true) (hk:RV c.I c.J w kv kd) (hx:RV c.I c.J w xv xd):∃w',(G9 T (.map (some b)) kv xv).run P w = .ok () w'/\Nw c w c w'/\zp c H c (H.set l (.map (updD es kd xd)))/\HR c (H.set l (.map (updD es kd xd))) w':=by
 obtain⟨ents,clk,hw,hes⟩:=hR.box l b q _ hρ hl;have hall':=ND.1 hall;have hchk:(Jp false 10000 K kv).run P w = .ok () w:=m5 9998 hku hko hk;have hget:(getObj b).run P w = .ok (.map ents clk) w:=by simp[getObj,ID,hw]
 have hblt:b<w.heap.size:=hR.lt l b q hρ;have fin:∀ents':OC Kl,∀clk',fU c w ents'.toList (updD es kd xd) ->
   Nw c w c { w with heap:=w.heap.setIfInBounds b (.map ents' clk') }/\zp c H c (H.set l (.map (updD es kd xd)))/\HR c (H.set l (.map (updD es kd xd))) { w with heap:=w.heap.setIfInBounds b (.map ents' clk') }:=by
  intro ents' clk' hm;have ho:∀b',b'≠b->({ w with heap:=w.heap.setIfInBounds b (.map ents' clk') }:N4).heap[b']? = w.heap[b']? :=by intro b' hb';simp only;rw[Kg];simp[KM hb']
  have hat:({ w with heap:=w.heap.setIfInBounds b (.map ents' clk') }:N4).heap[b]? = some (.map ents' clk'):=by simp only;rw[Kg];simp[hblt]
  have e1:Nw c w c { w with heap:=w.heap.setIfInBounds b (.map ents' clk') }:=Gf (l:=l) (b:=b) (k:=q) hρ hR rfl rfl rfl (by simp) ho (by rw[hl];intro n sz h;cases h);have kp:zp c H c (H.set l (.map (updD es kd xd))):=zp.set_map hl _;exact⟨e1,kp,GN hρ hR hl (by simp) ho (by intro n sz h;cases h) e1 kp ⟨ents',clk',hat,hm.mono λ_ _ h=>⟨h.1.ext e1,h.2.ext e1⟩⟩⟩
 rcases ce hku hko hk hx hes hall' with⟨j,u,en,e1,e2,e3,e4⟩|⟨e1,e2⟩
 ·have hen:ents[j]? = some en:=by simpa using e2
  obtain⟨a1,a2,a3⟩:=fin (ents.modify j λen=>{ en with key:=kv,val:=xv }) clk (by simpa using e4);refine⟨_,?_,a1,a2,a3⟩;simp only[G9,Ms,run_underlying hu,Mt,hget,hchk,e1,MV,hen,Ly,Li,Instr.keyThatStays,e3,if_true];exact kD rfl hw
 ·obtain⟨a1,a2,a3⟩:=fin (ents.push { key:=kv,val:=xv,born:=clk }) (clk+1) (by rw[e2,OC.toList_push];exact z8.append hes (M8 ⟨hk,hx⟩ Mh));refine⟨_,?_,a1,a2,a3⟩;simp only[G9,Ms,run_underlying hu,Mt,hget,hchk,e1,MV];exact kD rfl hw
def pr (P:Ng) (c:Cx) (H:ON Box) (w:N4) (s:NN LK) (a:AV) (H':ON Box):Prop :=∃n v w' c',s.run P w = .ok n w'/\(n = .value v∨(n = .skip/\v=undef))/\Nw c w c' w'/\zp c H c' H'/\HR c' H' w'/\RA c' H' w' a v
theorem xu {s:NN Value}{a:AV}(h:yn P c H w s a):pr P c H w (do pure (GM (←s)):NN LK) a H:=by obtain⟨v,w',c',h1,h2,h3,h4,h5⟩:=h;exact⟨.value v,v,w',c',by simp[h1],.inl rfl,h2,h3,h4,h5⟩
theorem lz {s:NN Value}{a:AV}{H':ON Box}(h:ci P c H w s a H'):pr P c H w (do pure (GM (←s)):NN LK) a H':=by obtain⟨v,w',c',h1,h2,h3,h4,h5⟩:=h;exact⟨.value v,v,w',c',by simp[h1],.inl rfl,h2,h3,h4,h5⟩
theorem aQ {o:Nu}{a:AV}{F:Prop}(hR:HR c H w) (he:∀x,RA c H w (e x) (r x)) (hc:∀y v,y=Gu v->r y=v) (h:xa P e H o.op=some (a,F)) (hF:F):pr P c H w (execOp r o) a H:=by
 have hd:=xu (Xl (ty:=o.type) hR he hc h hF);cases hop:o.op<;>rw[hop]at h hd<;>first
  |(simp[xa]at h;done)
  |(simp only[execOp,hop];exact hd)
  |skip
 case nilCheck x =>
  simp only[execOp,hop];have hx:=he x;simp only[wL]at hd;simp only[xa]at h;split at h
  ·rename_i hxe;rw[hxe]at hx;generalize r x=rx at *;cases hx with
   |ptr=>exact hd
  ·rename_i hxe;rw[hxe]at hx;generalize r x=rx at *;cases hx with
   |iptr=>exact hd
  ·rename_i hxe;rw[hxe]at hx;generalize r x=rx at *;cases hx with
   |clo=>exact hd
  ·rename_i hxe;rw[hxe]at hx;generalize r x=rx at *;cases hx with
   |d h1=>cases h1 with
    |fn=>exact hd
  ·simp at h
 case call cc =>
  obtain⟨callee,args,argTypes⟩:=cc;cases callee with
  |value f=>simp[xa]at h
  |invoke a b=>simp[xa]at h
  |builtin b =>
   cases b<;>first
    |(simp[xa]at h;done)
    |(simp only[execOp,hop,resolve,wL]at hd ⊢;exact hd)
end
def cellsFrom:ON Sh->ON D->Nat->Nat->ON D
 |[],_,_,_=>[]
 |s::r,ds,i,o=>s.norm ((z1 ds i o).getD default)::cellsFrom r ds i (o+1)
def cellsOk:ON Sh->ON D->Nat->Nat->Prop
 |[],_,_,_=>OG
 |s::r,ds,i,o=>z1 ds i o=some (s.norm ((z1 ds i o).getD default))/\cellsOk r ds i (o+1)
def setC:D->Nat->ON D->D
 |.agg cs,o,ys=>.agg (putL cs o ys)
 |d,_,ys=>ys.getD 0 d
def w8 (ds:ON D) (i o:Nat) (ys:ON D):ON D:=ds.modify i λd=>setC d o ys
def pU (P:Ng) (E:TypeId):OK D:=(yo P E).bind valD
def lM (bytes:Nat) (n:Int):Prop:=0<=n/\n<=1000000000/\bytes*n<=281474976710656
def aggCs:AV->OK (ON AV)
 |.agg cs=>some cs
 |.d (.agg cs)=>some (cs.map .d)
 |_=>none
def tB (P:Ng) (e:NF->AV) (H:ON Box):Op->OK (AV×Prop)
 |.load T a =>
  match e a with
  |.eptr l i o=>match H[l]?,vL P 9 T with
   |some (.arr _ ds),some shs=>(u0 P T ((cellsFrom shs ds i o).map OF)).map λr=>(r,cellsOk shs ds i o)
   |_,_=>none
  |_=>none
 |.fieldAddr T x f =>
  match e x with
  |.eptr l i o=>match P.underlying T with
   |some (.struct fs)=>match fs[f]? with
    |some fd=>match xq P fd.type with
     |some (_+1)=>some (.eptr l i (o+fd.offset),OG)
     |_=>none
    |none=>none
   |_=>none
  |_=>none
 |.indexAddr T x i =>
  match e x with
  |.msl l=>match P.underlying T,e i,H[l]? with
   |some (.slice E),.d (.int _ n),some (.arr sz ds)=>if xq P E=some sz then some (.eptr l n.toNat 0,0<=n/\n.toNat<ds.length)else none
   |_,_,_=>none
  |_=>none
 |.call { callee:= .builtin .len,args,argTypes } =>
  match args.toList,argTypes.toList with
  |[x],[T]=>match e x with
   |.msl l=>match P.underlying T,H[l]? with
    |some (.slice _),some (.arr _ ds)=>some (.d (.int .i64 ds.length),OG)
    |_,_=>none
   |.map l=>match P.underlying T,H[l]? with
    |some (.map _ _),some (.map es)=>some (.d (.int .i64 es.length),OG)
    |_,_=>none
   |_=>none
  |_,_=>none
 |.call { callee:= .builtin .min,args,argTypes:=_ } =>
  match args.toList with
  |[x,y]=>match e x,e y with
   |.d (.int k a),.d (.int k' b)=>if k=k' then some (.d (.int k (if b<a then b else a)),OG)else none
   |_,_=>none
  |_=>none
 |.field T x f =>
  match P.underlying T,aggCs (e x)with
  |some (.struct fs),some cs=>match fs[f]? with
   |some fd=>(u0 P fd.type (cs.drop fd.offset)).map λr=>(r,OG)
   |none=>none
  |_,_=>none
 |.makeSlice T x y =>
  match P.underlying T,e x,e y with
  |some (.slice E),.d (.int _ n),.d (.int _ m)=>match P.info? E,pU P E with
   |some i,some z=>if z.cells.length=i.size then some (.full (M4 n.toNat z),m=n/\lM i.bytes n)else none
   |_,_=>none
  |_,_,_=>none
 |.slice T x none (some hi) (some mx) =>
  match e x with
  |.msl l=>match P.underlying T,e hi,e mx with
   |some (.slice E),.d (.int _ h),.d (.int _ m)=>match xq P E with
    |some _=>some (.full [],h=0/\m=0)
    |none=>none
   |_,_,_=>none
  |_=>none
 |_=>none
def aP (P:Ng) (e:NF->AV) (H:ON Box) (o:Op):OK (AV×Prop) :=match tB P e H o with
 |some r=>some r
 |none=>xa P e H o
def Rk (ops:OC Nu) (d:OK Nat):Bool :=match d with
 |some d=>ops.toList.any λo=>match o.op with
  |.assign (.tmp t)=>t==d
  |_=>false
 |none=>false
def WV (P:Ng) (e:NF->AV) (H:ON Box) (ops:OC Nu) (d:OK Nat):Op->OK (AV×ON Box×Prop)
 |.store T a x =>
  match e a with
  |.eptr l i o=>match avCells (e x),xq P T,H[l]? with
   |some xs,some n,some (.arr sz ds)=>match xs.mapM avD1 with
    |some ys=>if ys.length=n/\o+n<=sz then some (.any,H.set l (.arr sz (w8 ds i o ys)),i<ds.length)else none
    |none=>none
   |_,_,_=>none
  |_=>none
 |.makeSlice T x y =>
  if Rk ops d then
   match P.underlying T,e x,e y with
   |some (.slice E),.d (.int _ n),.d (.int _ m)=>match P.info? E,pU P E with
    |some i,some z=>if z.cells.length=i.size then some (.msl H.length,H++[.arr i.size (M4 n.toNat z)],m=n/\lM i.bytes n)else none
    |_,_=>none
   |_,_,_=>none
  else none
 |.call { callee:= .builtin .append,args,argTypes } =>
  match args.toList,argTypes.toList with
  |[s,x],[T,T']=>match e s,e x with
   |.full ds,.msl l=>match P.underlying T with
    |some (.slice E)=>match P.info? E with
     |some i=>match i.zero,H[l]? with
      |some z,some (.arr sz es)=>if T=T'/\0<i.size/\0<i.bytes/\z.cells.size=i.size then some (.vec H.length (ds++es),H++[.vec (ds.length+es.length) i.size],FA ds es i.size i.bytes)else none
      |_,_=>none
     |none=>none
    |_=>none
   |_,_=>none
  |_,_=>none
 |_=>none
section
variable {P:Ng}{c:Cx}{H:ON Box}{w:N4}{e:NF->AV}{r:NF->Value}
theorem cd {sz:Nat}:∀(ds:ON D) (i j:Nat),(∀d∈ds,d.cells.length=sz)->j<sz->(ds.flatMap Mw)[i*sz+j]? = z1 ds i j:=by intro ds i j h hj;have:=tg (ds.map Mw) i j (by intro l hl;obtain⟨d,hd,rfl⟩:=Mj.1 hl;exact h d hd) hj;rw[E2,this,M6];unfold z1;cases ds[i]? <;> rfl
theorem Xj {ds:ON D}{sz i j:Nat}{x:D}(h:∀d∈ds,d.cells.length=sz) (hc:z1 ds i j=some x):i<ds.length/\j<sz:=by
 unfold z1 at hc;cases hi:ds[i]? with
 |none=>rw[hi]at hc;simp at hc
 |some d =>
  rw[hi]at hc;simp only[Iv]at hc;refine⟨?_,?_⟩
  ·rcases M0 i ds.length with h' |h'
   ·exact h'
   ·simp[My h']at hi
  ·have hl:=h d (MX hi);rcases M0 j d.cells.length with h' |h'
   ·omega
   ·simp[My h']at hc
theorem cellsFrom_len:∀(shs:ON Sh) (ds:ON D) (i o:Nat),(cellsFrom shs ds i o).length=shs.length
 |[],_,_,_=>rfl
 |_::r,ds,i,o=>by simp[cellsFrom,cellsFrom_len r]
theorem cellsFrom_get:∀(shs:ON Sh) (ds:ON D) (i o j:Nat) (x:D),cellsOk shs ds i o->(cellsFrom shs ds i o)[j]? = some x->z1 ds i (o+j)=some x
 |[],_,_,_,_,_,_,h=>by simp[cellsFrom]at h
 |s::r,ds,i,o,0,x,hk,h=>by simp[cellsFrom]at h;subst h;exact hk.1
 |s::r,ds,i,o,j+1,x,hk,h=>by simp only[cellsFrom,FY]at h;have:=cellsFrom_get r ds i (o+1) j x hk.2 h;rw[show o+(j+1)=o+1+j by omega];exact this
theorem sB {sz:Nat}:∀(ds:ON D),(∀d∈ds,d.cells.length=sz)->(ds.flatMap Mw).length=ds.length*sz:=by intro ds h;have:=wc (ds.map Mw) (by intro l hl;obtain⟨d,hd,rfl⟩:=Mj.1 hl;exact h d hd);rw[E2,this];simp
theorem tA {I:Nat->Nat->Prop}{J:Nat->Prop}:∀(ds:ON D) (cs:ON Value),z8 (R1 I J w) cs (ds.flatMap Mw)->∃us,z8 (RV I J w) us ds/\yv us=cs
 |[],cs,h=>by have:cs=[]:=h.nil_right;subst this;exact⟨[],Mh,rfl⟩
 |d::ds,cs,h=>by
  rw[IU]at h;have h1:=h.take d.cells.length;have h2:=h.drop d.cells.length;rw[ON.take_left]at h1;rw[ON.drop_left]at h2;obtain⟨us,a1,a2⟩:=tA ds _ h2;have key:∃u:Value,RV I J w u d/\u.cells.toList=cs.take d.cells.length:=by
   cases d with
   |agg xs=>exact⟨.agg (cs.take xs.length).toArray,⟨_,rfl,h1⟩,by simp[LN,Mw]⟩
   |_ =>
    simp only[Mw]at h1 ⊢;obtain⟨v,vs,e1,e2,e3⟩:=h1.cons_right;have:=e3.nil_right;subst this;exact⟨v,e2.rv,by rw[e1];exact e2.single⟩
  obtain⟨u,b1,b2⟩:=key;refine⟨u::us,M8 b1 a1,?_⟩;have:yv (u::us)=u.cells.toList++yv us:=by simp[yv]
  rw[this,a2,b2,HB]
theorem kC {T:TypeId}{l i o:Nat}{sz:Nat}{ds:ON D}{shs:ON Sh}{v:Value}{a:AV}(hR:HR c H w) (hx:RA c H w (.eptr l i o) v) (hl:H[l]? = some (.arr sz ds)) (h:u0 P T ((cellsFrom shs ds i o).map OF)=some a) (hF:cellsOk shs ds i o):yn P c H w (JU T v) a:=by
 cases hx with
 |@eptr _ _ _ b k sz' ds' hH hρ =>
  rw[hl]at hH;cases hH;obtain⟨vs,T',h1,h2,h3⟩:=hR.box l b k _ hρ hl;have hcell:∀(j:Nat) x,(cellsFrom shs ds i o)[j]? = some x->∃u,vs[i*sz+o+j]? = some u/\R1 c.I c.J w u x:=by intro j x hj;have hc:=cellsFrom_get shs ds i o j x hF hj;obtain⟨_,h5⟩:=Xj h2 hc;have:=cd ds i (o+j) h2 h5;rw[hc]at this;obtain⟨u,hu,hr⟩:=h3.get this;exact⟨u,by rw[show i*sz+o+j=i*sz+(o+j) by omega];exact hu,hr⟩
  obtain⟨v,h4,h5⟩:=uQ (P:=P) (c:=c) (H:=H) (w:=w) (b:=b) (o:=i*sz+o) (vs:=(Mq shs.length).map λj=>(vs[i*sz+o+j]?).getD undef) h ⟨by simp[cellsFrom_len],λj u y hu hy=>by
   simp only[M6]at hu hy;cases hxx:(cellsFrom shs ds i o)[j]? with
   |none=>rw[hxx]at hy;simp at hy
   |some x =>
    rw[hxx]at hy;simp at hy;subst hy;have hjl:j<shs.length:=by
     rcases M0 j shs.length with h' |h'
     ·exact h'
     ·rw[My (by rw[cellsFrom_len];exact h')]at hxx;cases hxx
    rw[FQ hjl]at hu;simp at hu;obtain⟨u',hu',hr⟩:=hcell j x hxx;rw[hu']at hu;simp at hu;subst hu;exact .d hr.rv⟩ (λj u hj=>by
   simp only[M6]at hj;have hjl:j<shs.length:=by
    rcases M0 j shs.length with h' |h'
    ·exact h'
    ·rw[My (by simpa using h')]at hj;simp at hj
   rw[FQ hjl]at hj;simp at hj;obtain⟨x,hx⟩:∃x,(cellsFrom shs ds i o)[j]? = some x:=⟨_,LR (by rw[cellsFrom_len];exact hjl)⟩;obtain⟨u',hu',hr⟩:=hcell j x hx;rw[hu']at hj;simp at hj;subst hj;simp only[Ko,h1,Jd,LH,if_false,IZ];exact hu')
  exact Mc hR h4 h5
theorem Yp {E:TypeId}{z:Value}{x:D}(hz:yo P E=some z) (hx:pU P E=some x) {I:Nat->Nat->Prop}{J:Nat->Prop}:RV I J w z x:=by unfold pU at hx;rw[hz]at hx;exact kP hx
theorem Yo {E:TypeId}{x:D}(hx:pU P E=some x):∃z,yo P E=some z:=by
 unfold pU at hx;cases h:yo P E with
 |none=>rw[h]at hx;simp at hx
 |some z=>exact⟨z,rfl⟩
theorem WU {z:Value}{sz:Nat}(hz:z.cells.size=sz) (n:Nat):yv (M4 n z)=(madeCells z.cells (n*sz)).toList:=by
 subst hz;have hall:∀l∈(M4 n z).map (λ(v:Value)=>v.cells.toList),l.length=z.cells.size:=by intro l hl;obtain⟨v,hv,rfl⟩:=Mj.1 hl;rw[Hy hv];simp
 apply Jc;intro k;unfold yv;by_cases hz0:z.cells.size=0
 ·have h1:(((M4 n z).map λ(v:Value)=>v.cells.toList).flatten).length=0:=by rw[wc _ hall,hz0];simp
  rw[My (by omega),My (by simp[size_madeCells,hz0])]
 ·have hk:k=k / z.cells.size*z.cells.size+k % z.cells.size:=by rw[JH];exact(Hm _ _).symm
  have hm:k % z.cells.size<z.cells.size:=IK _ (by omega);rw[hk,tg _ _ _ hall hm,←hk];by_cases hlt:k<n*z.cells.size
  ·have hd:k / z.cells.size<n:=(FV (by omega)).2 hlt;rw[M6,HC,Nf hd];simp only[Ly,Iv];have:(madeCells z.cells (n*z.cells.size)).toList[k]? = some (z.cells[k % z.cells.size]!):=by simp[madeCells,hlt]
   rw[this];simp[getElem!_def,hm]
  ·have hd:¬ k / z.cells.size<n:=λh=>hlt ((FV (by omega)).1 h);rw[M6,HC,N2 hd,My (by simp[size_madeCells];omega)];rfl
theorem z8.rep {α β:Type}{R:α->β->Prop}{x:α}{y:β}(h:R x y):∀n,z8 R (M4 n x) (M4 n y)
 |0=>Mh
 |n+1=>by rw[G2,G2];exact M8 h (z8.rep h n)
theorem g9 {T E:TypeId}{i:JF}{z:Value}{n:Int}{k1 k2:OA}(hu:P.underlying T=some (.slice E)) (hi:P.info? E=some i) (hz:i.zero=some z) (hzs:z.cells.size=i.size) (hF:lM i.bytes n):(C9 T (.int k1 n) (.int k2 n)).run P w = .ok (.slice (some ⟨w.heap.size,0,none⟩) n.toNat n.toNat) { w with heap:=w.heap.push (.cells (yv (M4 n.toNat z)).toArray E) }:=by obtain⟨h0,h1,h2⟩:=hF;have hr:=run_make (P:=P) w T E i z hu hi hz k1 k2 n n h0 (JT _) h2 (by omega);rw[hr,WU hzs,OC.toArray_toList];rfl
theorem Xi {T E:TypeId}{i:JF}{x:D}{n:Int}{k1 k2:OA}(hR:HR c H w) (hu:P.underlying T=some (.slice E)) (hi:P.info? E=some i) (hx:pU P E=some x) (hl:x.cells.length=i.size) (hF:lM i.bytes n): yn P c H w (C9 T (.int k1 n) (.int k2 n)) (.full (M4 n.toNat x)):=by
 obtain⟨z,hz⟩:=Yo hx;have hz':i.zero=some z:=by unfold yo at hz;rw[hi]at hz;simpa using hz
 have hrv:RV c.I c.J w z x:=Yp hz hx;have hzs:z.cells.size=i.size:=by have:=hrv.cells.1;simp only[LI]at this;omega
 have hall:z8 (RV c.I c.J w) (M4 n.toNat z) (M4 n.toNat x):=z8.rep hrv _;have hsz:∀d∈M4 n.toNat x,d.cells.length=i.size:=λd hd=>by rw[Hy hd];exact hl
 have hrun:=g9 (P:=P) (w:=w) (k1:=k1) (k2:=k2) hu hi hz' hzs hF;have hnew:=R1.new_row (T:=E) (fr:=(0,0)) (cap:=n.toNat) hR hall hsz [] (by simp);have e:=Gt c w (.cells (yv (M4 n.toNat z)).toArray E) ((M4 n.toNat x).length*i.size) hR.ilt hR.jlt;refine⟨_,_,_,hrun,e,zp.imm _ _ _ _,hR.push_imm _ _,.full ?_⟩;rw[JL]at hnew;rw[HA]at hnew ⊢;exact hnew
theorem cb {a:AV}{v:Value}{cs:ON AV}(h:RA c H w a v) (hc:aggCs a=some cs):∃vs:ON Value,v = .agg vs.toArray/\z8 (λv a=>RA c H w a v) vs cs:=by
 cases h with
 |@agg aas vs hl h =>
  simp only[aggCs,K0]at hc;subst hc;exact⟨vs,rfl,hl.symm,λi v a hv ha=>h i a v ha hv⟩
 |@d x v h =>
  cases x<;>simp only[aggCs]at hc<;>try (cases hc;done)
  simp only[K0]at hc;subst hc;obtain⟨vs,rfl,hv⟩:=h;refine⟨vs,rfl,by simp[hv.1],λi v a hv' ha=>?_⟩;simp only[M6]at ha;rename_i ds;cases hx:ds[i]? with
  |none=>rw[hx]at ha;simp at ha
  |some y=>rw[hx]at ha;simp at ha;subst ha;exact .d (hv.2 i v y hv' hx).rv
 |_=>simp[aggCs]at hc
theorem cZ {T:TypeId}{f:Nat}{fs:OC I1}{fd:I1}{cs:ON AV}{v:Value}{ax a:AV}(hR:HR c H w) (hx:RA c H w ax v) (hc:aggCs ax=some cs) (hu:P.underlying T=some (.struct fs)) (hf:fs[f]? = some fd) (h:u0 P fd.type (cs.drop fd.offset)=some a): yn P c H w (EP T v f) a:=by
 obtain⟨vs,rfl,hv⟩:=cb hx hc;have hd:=hv.drop fd.offset;have e0:(EP T (.agg vs.toArray) f).run P w=(part fd.type vs.toArray fd.offset).run P w:=by simp[EP,run_underlying hu,hf,asAgg]
 unfold u0 at h;cases hg:uR P fd.type with
 |none=>rw[hg]at h;simp at h
 |some t =>
  rw[hg]at h;cases t with
  |false =>
   simp only at h;generalize hdc:cs.drop fd.offset=dc at *;cases dc with
   |nil=>simp at h
   |cons y ys =>
    simp only[ON.head?_cons,K0]at h;subst h;obtain⟨u,us,h1,h2,_⟩:=hd.cons_right;have hu0:vs[fd.offset]? = some u:=by have:=Mz (λl=>l[0]?) h1;simpa using this
    refine Mc hR (v:=u) ?_ h2;rw[e0];exact yl hg (by simpa using hu0)
  |true =>
   simp only at h;cases hs:xq P fd.type with
   |none=>rw[hs]at h;simp at h
   |some n =>
    rw[hs]at h;simp only at h;split at h
    ·simp only[K0]at h;subst h;have h5:=hd.take n;refine Mc hR (v:= .agg ((vs.drop fd.offset).take n).toArray) ?_ (.agg h5.1.symm λi a v ha hv'=>h5.2 i v a hv' ha);rw[e0];have hex:vs.toArray.extract fd.offset (fd.offset+n)=((vs.drop fd.offset).take n).toArray:=by apply Lm;simp[Cs]
     simp[part,qh hg,yt hs,hex]
    ·simp at h
theorem aO {o:Nu}{a:AV}{F:Prop}(hR:HR c H w) (he:∀x,RA c H w (e x) (r x)) (h:tB P e H o.op=some (a,F)) (hF:F):pr P c H w (execOp r o) a H:=by
 unfold tB at h;split at h
 ·rename_i T x hop;split at h
  ·rename_i l i q hx;split at h
   ·rename_i sz ds shs hl hsh;cases hla:u0 P T ((cellsFrom shs ds i q).map OF)with
    |none=>rw[hla]at h;simp at h
    |some a' =>
     rw[hla]at h;simp only[Ly,K0,J5]at h;obtain⟨rfl,rfl⟩:=h;have hxx:=he x;rw[hx]at hxx;simp only[execOp,hop];exact xu (kC hR hxx hl hla hF)
   ·cases h
  ·cases h
 ·rename_i T x f hop;split at h
  ·rename_i l i q hx;split at h
   ·rename_i fs hu;split at h
    ·rename_i fd hf;split at h
     ·rename_i n hs;cases h;have hxx:=he x;rw[hx]at hxx;simp only[execOp,hop];generalize r x=rx at *;cases hxx with
      |eptr hH hρ =>
       refine xu (Mc hR (sE hu hf hs) ?_);rw[Iq];exact .eptr hH hρ
     ·cases h
    ·cases h
   ·cases h
  ·cases h
 ·rename_i T x i hop;split at h
  ·rename_i l hx;split at h
   ·rename_i E k n sz ds hu hi hl;split at h
    ·rename_i hs;cases h;have hxx:=he x;rw[hx]at hxx;have hiv:=he i;rw[hi]at hiv;simp only[execOp,hop];rw[hiv.int];generalize r x=rx at *;cases hxx with
     |msl hH hρ =>
      rw[hl]at hH;cases hH;refine xu (Mc hR (mE hu hs hF.1 (by omega)) ?_);rw[LP];exact .eptr hl hρ
    ·cases h
   ·cases h
  ·cases h
 ·rename_i args types hop;split at h
  ·rename_i x T ha ht;split at h
   ·rename_i l hx;split at h
    ·rename_i E sz ds hu hl;cases h;have hxx:=he x;rw[hx]at hxx;have e1:args.map r = #[r x]:=by apply Lm;simp[ha]
     have e2:types = #[T]:=by apply Lm;simp[ht]
     simp only[execOp,hop,resolve,e1,e2];generalize r x=rx at *;cases hxx with
     |msl hH hρ =>
      rw[hl]at hH;cases hH;exact xu (Mc hR (pz hu) (.d (KL _ _)))
    ·cases h
   ·rename_i l hx;split at h
    ·rename_i K E es hu hl;cases h;have hxx:=he x;rw[hx]at hxx;have e1:args.map r = #[r x]:=by apply Lm;simp[ha]
     have e2:types = #[T]:=by apply Lm;simp[ht]
     simp only[execOp,hop,resolve,e1,e2];generalize r x=rx at *;cases hxx with
     |@map _ b2 _ _ hH hρ =>
      rw[hl]at hH;cases hH;obtain⟨ents,clk,g1,g2⟩:=hR.box _ _ _ _ hρ hl;have g3:ents.size=es.length:=by have:=g2.1;simpa using this
      have hget:(getObj b2).run P w = .ok (.map ents clk) w:=by simp[getObj,ID,g1]
      have hrun:∀ty,(Ip #[T] ty #[.map (some b2)]).run P w = .ok (.int .i64 es.length) w:=λty=>by rw[←g3];simp[Ip,run_underlying hu,hget,goInt]
      exact xu (Mc hR (hrun _) (.d (KL _ _)))
    ·cases h
   ·cases h
  ·cases h
 ·rename_i args types hop;split at h
  ·rename_i x y ha;split at h
   ·rename_i k a1 k' b1 hx hy;split at h
    ·rename_i hk;subst hk;cases h;have h1:=he x;have h2:=he y;rw[hx]at h1;rw[hy]at h2;have e1:args.map r = #[r x,r y]:=by apply Lm;simp[ha]
     simp only[execOp,hop,resolve,e1];rw[h1.int,h2.int];refine xu (Mc hR (v:= .int k (if b1<a1 then b1 else a1)) ?_ (.d (KL _ _)));simp[MD.min_,MD.min2]
    ·cases h
   ·cases h
  ·cases h
 ·rename_i T x f hop;split at h
  ·rename_i fs cs hu hc;split at h
   ·rename_i fd hf;cases hla:u0 P fd.type (cs.drop fd.offset)with
    |none=>rw[hla]at h;simp at h
    |some a' =>
     rw[hla]at h;simp only[Ly,K0,J5]at h;obtain⟨rfl,_⟩:=h;simp only[execOp,hop];exact xu (cZ hR (he x) hc hu hf hla)
   ·cases h
  ·cases h
 ·rename_i T x y hop;split at h
  ·rename_i E k1 n k2 m hu hx hy;split at h
   ·rename_i i z hi hz;split at h
    ·rename_i hlen;cases h;obtain⟨rfl,hF⟩:=hF;have h1:=he x;have h2:=he y;rw[hx]at h1;rw[hy]at h2;simp only[execOp,hop];rw[h1.int,h2.int];exact xu (Xi hR hu hi hz hlen hF)
    ·cases h
   ·cases h
  ·cases h
 ·rename_i T x hi mx hop;split at h
  ·rename_i l hx;split at h
   ·rename_i E k1 q k2 m hu h1 h2;split at h
    ·rename_i sz hs;cases h;obtain⟨rfl,rfl⟩:=hF;have hxx:=he x;rw[hx]at hxx;have h1':=he hi;have h2':=he mx;rw[h1]at h1';rw[h2]at h2';simp only[execOp,hop,Ly,Kq];rw[h1'.int,h2'.int];generalize r x=rx at *;cases hxx with
     |@msl _ b k sz' ds' hH hρ =>
      refine xu (Mc hR (v:= .slice (some ⟨b,0,none⟩) 0 0) ?_ (.full (HK _ 0)));simp only[Ke,Ms,run_underlying hu,Mt,Im,Iy,MV,if_true];rw[yX (JT _) (by omega)];simp only[Mt];rw[yX (JT _) (by simp)];simp only[Mt,MV,Ms,yt hs,Ee];rfl
    ·cases h
   ·cases h
  ·cases h
 ·cases h
theorem mz {o:Nu}{a:AV}{F:Prop}(hR:HR c H w) (he:∀x,RA c H w (e x) (r x)) (hc:∀y v,y=Gu v->r y=v) (h:aP P e H o.op=some (a,F)) (hF:F):pr P c H w (execOp r o) a H:=by
 unfold aP at h;split at h
 ·rename_i q hq;cases h;exact aO hR he hq hF
 ·exact aQ hR he hc h hF
end
section
variable {P:Ng}{c:Cx}{H:ON Box}{w:N4}{e:NF->AV}{r:NF->Value}
theorem ve {s:NN LK}{v:Value}{w':N4}{c':Cx}{a:AV}{H':ON Box}(h:s.run P w = .ok (.value v) w') (h1:Nw c w c' w') (h2:zp c H c' H') (h3:HR c' H' w') (h4:RA c' H' w' a v):pr P c H w s a H' :=⟨_,v,w',c',h,.inl rfl,h1,h2,h3,h4⟩
theorem pT {s:NN LK}{w':N4}{c':Cx}{H':ON Box}(h:s.run P w = .ok .skip w') (h1:Nw c w c' w') (h2:zp c H c' H') (h3:HR c' H' w'):pr P c H w s .any H' :=⟨_,undef,w',c',h,.inr ⟨rfl,rfl⟩,h1,h2,h3,.any _⟩
theorem kB {o:Nu}{a:AV}{H':ON Box}{F:Prop}(hR:HR c H w) (he:∀x,RA c H w (e x) (r x)) (h:vg P e H o.op=some (a,H',F)) (hF:F):pr P c H w (execOp r o) a H':=by
 cases hop:o.op<;>rw[hop]at h
 case alloc T =>
  simp only[vg]at h;cases hz:yo P T with
  |none=>rw[hz]at h;simp at h
  |some z =>
   rw[hz]at h;cases h;obtain⟨h1,h2,h3,h4⟩:=g8 (T:=T) hR (Ii (c:=c) (H:=H) (w:=w) z.cells.toList);refine ve (c':=c.grow w.heap.size 0) ?_ h1 h2 h3 h4;simp[execOp,hop,Instr.alloc,wH hz,newVar,newRow]
 case box T x =>
  simp only[vg]at h;cases hc:avCells (e x)with
  |none=>rw[hc]at h;simp at h
  |some cs =>
   rw[hc]at h;cases h;obtain⟨h1,h2,h3,h4⟩:=g8 (T:=T) hR (w7 (he x) hc).1;refine ve (c':=c.grow w.heap.size 0) ?_ h1 h2 h3 h4;simp[execOp,hop,Instr.box,newVar,newRow]
 case store T x y =>
  simp only[vg]at h;split at h
  ·rename_i l o xs n hx hc hs;split at h
   ·rename_i T' cs hl;split at h
    ·rename_i hfit;cases h;have hxr:=he x;rw[hx]at hxr;obtain⟨hv,h1⟩:=w7 (he y) hc;have hrun:∀ra,r x=ra->(execOp r ‹Nu›)=(do J6 T ra (r y);pure GE:NN LK):=by intro ra hra;simp only[execOp,hop,hra]
     generalize hrx:r x=rx at *;cases hxr with
     |@ptr _ _ b k _ _ hH hρ =>
      rw[←hfit.1]at hs;obtain⟨w',a1,a2,a3,a4⟩:=Xk (P:=P) (o:=o) hR hl hρ hv h1 hs (by omega);refine pT ?_ a2 a3 a4;rw[hrun _ rfl];simp[a1]
    ·simp at h
   ·simp at h
  ·simp at h
 case makeMap T rs =>
  cases rs with
  |some x=>simp[vg]at h
  |none =>
   simp only[vg]at h;cases h;obtain⟨h1,h2,h3,h4⟩:=Te hR;refine ve (c':=c.grow w.heap.size 0) ?_ h1 h2 h3 h4;simp[execOp,hop,Instr.makeMap]
 case mapUpdate T m k x =>
  simp only[vg]at h;split at h
  ·rename_i l kd xd K E hm hk hx hu;split at h
   ·rename_i es kk hl hku;split at h
    ·rename_i hko;cases h;have hmr:=he m;rw[hm]at hmr;have hrun:∀ra,r m=ra->(execOp r o)=(do G9 T ra (r k) (r x);pure GE:NN LK):=by intro ra hra;simp only[execOp,hop,hra]
     generalize hrm:r m=rm at *;cases hmr with
     |@map _ b q _ hH hρ =>
      obtain⟨w',a1,a2,a3,a4⟩:=lR (P:=P) hR hu hku hko hl hρ hF (m0 (he k) hk) (wj (he x) hx);refine pT ?_ a2 a3 a4;rw[hrun _ rfl];simp[a1]
    ·simp at h
   ·simp at h
  ·simp at h
 case call cc =>
  obtain⟨callee,args,argTypes⟩:=cc;cases callee with
  |value f=>simp[vg]at h
  |invoke a b=>simp[vg]at h
  |builtin b =>
   cases b<;>first
    |(simp[vg]at h;done)
    |skip
   simp only[vg]at h;split at h
   ·rename_i s x T T' hargs htypes;split at h
    ·rename_i hT;subst hT;have ea:args = #[s,x]:=by apply Lm;simpa using hargs
     have et:argTypes = #[T,T]:=by apply Lm;simpa using htypes
     subst ea;subst et;have hd:=lz (iI (ty:=o.type) hR h hF (he s) (he x));have:execOp r o=(do pure (GM (←J1 #[T,T] o.type #[r s,r x])):NN LK):=by
      have em:GI r #[s,x] = #[r s,r x]:=by simp
      simp only[execOp,hop,resolve,em];rfl
     rw[this];exact hd
    ·simp at h
   ·simp at h
 all_goals (simp[vg]at h)
end
theorem kA {α:Type}:∀(ys A X:ON α) (o:Nat),putL (A++X) (A.length+o) ys=A++putL X o ys
 |[],_,_,_=>rfl
 |y::ys,A,X,o=>by simp only[putL];rw[ON.set_append_right _ _ (by omega),show A.length+o - A.length=o by omega,show A.length+o+1=A.length+(o+1) by omega];exact kA ys A _ (o+1)
theorem gz {α:Type}:∀(ys X B:ON α) (o:Nat),o+ys.length<=X.length->putL (X++B) o ys=putL X o ys++B
 |[],_,_,_,_=>rfl
 |y::ys,X,B,o,h=>by simp only[MO]at h;simp only[putL];rw[ON.set_append_left _ _ (by omega)];exact gz ys _ B (o+1) (by simp;omega)
theorem j0 {d:D}{o:Nat}{ys:ON D}(h:o+ys.length<=d.cells.length) (hy:∀y∈ys,y.cells=[y]):(setC d o ys).cells=putL d.cells o ys:=by
 cases d with
 |agg cs=>rfl
 |_ =>
  simp only[Mw,MO,LZ]at h;match ys,h with
  |[],_=>rfl
  |[y],h =>
   have:o=0:=by simp at h;omega
   subst this;show y.cells=[y];exact hy y (by simp)
  |y::z::r,h=>simp at h;omega
theorem Xh {sz i o:Nat}{ys:ON D}:∀{ds:ON D},(∀d∈ds,d.cells.length=sz)->i<ds.length->o+ys.length<=sz->(∀y∈ys,y.cells=[y])->(w8 ds i o ys).flatMap Mw=putL (ds.flatMap Mw) (i*sz+o) ys/\(∀d∈w8 ds i o ys,d.cells.length=sz)/\(w8 ds i o ys).length=ds.length:=by
 intro ds h hi ho hy;refine⟨?_,?_,by simp[w8]⟩
 ·have hsp:ds=ds.take i++ds[i]::ds.drop (i+1):=by rw[←ON.drop_eq_getElem_cons hi,HB]
  have hd:ds[i].cells.length=sz:=h _ (KQ hi);have hput:w8 ds i o ys=ds.take i++setC ds[i] o ys::ds.drop (i+1):=by unfold w8;rw[ON.modify_eq_take_cons_drop hi]
  have hA:((ds.take i).flatMap Mw).length=i*sz:=by rw[sB _ (λd hd'=>h d (Je hd')),Kr];congr 1;omega
  rw[hput,DR,IU,j0 (by omega) hy];conv=>rhs;rw[hsp]
  rw[DR,IU,←hA,kA,gz _ _ _ _ (by omega)]
 ·intro d hd;unfold w8 at hd;obtain⟨k,hk,he⟩:=KS.1 hd;rw[ON.getElem_modify]at he;have hk':k<ds.length:=by simpa using hk
  split at he
  ·rw[←he,j0 (by rw[h _ (KQ hk')];exact ho) hy,sD];exact h _ (KQ hk')
  ·rw[←he];exact h _ (KQ hk')
section
variable {P:Ng}{c:Cx}{H:ON Box}{w:N4}{e:NF->AV}{r:NF->Value}
theorem aN {a:AV}{x:D}(h:avD1 a=some x):x.cells=[x]:=by
 unfold avD1 at h;split at h<;>cases h<;>first
  |rfl
  |skip
 rename_i hx;cases x<;>first|rfl|exact No rfl (hx _)
theorem cY {α β:Type}{f:α->OK β}:∀{l:ON α}{ys:ON β},l.mapM f=some ys->∀y∈ys,∃a∈l,f a=some y
 |[],ys,h,y,hy=>by simp at h;subst h;simp at hy
 |a::l,ys,h,y,hy=>by
  rw[Jq]at h;cases ha:f a with
  |none=>rw[ha]at h;simp at h
  |some x =>
   rw[ha]at h;cases hr:l.mapM f with
   |none=>rw[hr]at h;simp at h
   |some xs =>
    rw[hr]at h;simp at h;subst h;rcases ON.mem_cons.1 hy with rfl|hy
    ·exact⟨a,by simp,ha⟩
    ·obtain⟨b,hb,h2⟩:=cY hr y hy;exact⟨b,by simp[hb],h2⟩
theorem zp.set_arr {l sz:Nat}{ds ds':ON D}(hl:H[l]? = some (.arr sz ds)) (hn:ds'.length=ds.length):zp c H c (H.set l (.arr sz ds')):=by
 intro m y hy;by_cases e:l=m
 ·subst e;rw[hl]at hy;simp at hy;subst hy;exact⟨⟨ds',xy hl,hn⟩,rfl⟩
 ·cases y<;>simp only[zG e,hy]<;>simp
theorem Xg {T:TypeId}{l i o b k sz:Nat}{ds ys:ON D}{v:Value}(hR:HR c H w) (hl:H[l]? = some (.arr sz ds)) (hρ:c.ρ[l]? = some (some (b,k))) (hv:z8 (R1 c.I c.J w) v.cells.toList ys) (h1:∀u∈v.cells.toList,u.oneCell'=true) (hy:∀y∈ys,y.cells=[y]) (hs:xq P T=some ys.length) (ho:o+ys.length<=sz) (hi:i<ds.length):∃w',(J6 T (.pointer (some ⟨b,i*sz+o,none⟩)) v).run P w = .ok () w'/\Nw c w c w'/\zp c H c (H.set l (.arr sz (w8 ds i o ys)))/\HR c (H.set l (.arr sz (w8 ds i o ys))) w':=by
 obtain⟨vs,T',hw,h2,h3⟩:=hR.box l b k _ hρ hl;obtain⟨p1,p2,p3⟩:=Xh h2 hi ho hy;have hlen:v.cells.toList.length=ys.length:=hv.1;have hvl:vs.length=ds.length*sz:=by rw[h3.1,sB _ h2]
 have hfit0:i*sz+o+ys.length<=ds.length*sz:=by have:(i+1)*sz<=ds.length*sz:=G0 _ hi;rw[Kn]at this;omega
 have hfit':i*sz+o+0+v.cells.toList.length<=vs.toArray.size:=by simp only[Hr];omega
 have hrun:=run_storeCells_at P b (i*sz+o) T' v.cells.toList 0 vs.toArray w hw hfit' h1;simp only[Jm,←lP _ _ _ (show i*sz+o+v.cells.toList.length<=vs.toArray.toList.length by simp only[LI,Hr];omega)]at hrun;let row:=putL vs (i*sz+o) v.cells.toList;have hw':(w.setRow b row.toArray).heap[b]? = some (.cells row.toArray T' (0,0)):=setRow_heap w b vs.toArray row.toArray T' (0,0) hw;have e1:Nw c w c (w.setRow b row.toArray):=Gf (l:=l) (b:=b) (k:=k) hρ hR rfl rfl rfl (by simp) (λb' h=>setRow_other w b b' _ h) (by rw[hl];intro n sz h;cases h);have kp:zp c H c (H.set l (.arr sz (w8 ds i o ys))):=zp.set_arr hl p3;refine⟨_,?_,e1,kp,GN hρ hR hl (by simp) (λb' h=>setRow_other w b b' _ h) (by intro n sz h;cases h) e1 kp ⟨row,T',hw',p2,?_⟩⟩
 ·have hsz:¬ v.cells.size≠ys.length:=by have:=hlen;simp only[LI]at this;omega
  simp only[J6,Ms,JZ,MV,Mt,storeVar,yt hs,N2 hsz];exact hrun
 ·rw[p1];exact(z8.putL (i*sz+o) h3 hv).mono λ_ _ h=>h.ext e1
theorem WT (n:Nat) (x:D):(M4 n x).flatMap Mw=(M4 n x.cells).flatten:=by rw[E2,I9]
theorem z8.flatten {α β:Type}{R:α->β->Prop}:∀{xs:ON (ON α)}{ys:ON (ON β)},z8 (z8 R) xs ys->z8 R xs.flatten ys.flatten
 |xs,[],h=>by have:=h.nil_right;subst this;exact Mh
 |xs,y::ys,h=>by obtain⟨x,xs',rfl,h1,h2⟩:=h.cons_right;rw[Hs,Hs];exact h1.append (z8.flatten h2)
theorem Td {E:TypeId}{sz n:Nat}{z:Value}{x:D}(hR:HR c H w) (hzx:RV c.I c.J w z x) (hl:x.cells.length=sz): let w':N4:= { w with heap:=w.heap.push (.cells (yv (M4 n z)).toArray E) }
  Nw c w (c.grow w.heap.size n) w'/\zp c H (c.grow w.heap.size n) (H++[.arr sz (M4 n x)])/\HR (c.grow w.heap.size n) (H++[.arr sz (M4 n x)]) w' /\
   RA (c.grow w.heap.size n) (H++[.arr sz (M4 n x)]) w' (.msl H.length) (.slice (some ⟨w.heap.size,0,none⟩) n n):=by
 intro w';have e1:=IQ c w (.cells (yv (M4 n z)).toArray E) n hR.ilt hR.jlt;have kp:=JE c H w.heap.size n (.arr sz (M4 n x)) hR.len;have hat:(c.grow w.heap.size n).ρ[H.length]? = some (some (w.heap.size,n)):=by have:(c.grow w.heap.size n).ρ=c.ρ++[some (w.heap.size,n)]:=rfl;rw[this,←hR.len];simp
 refine⟨e1,kp,He hR _ n _ ⟨yv (M4 n z),E,wf w _,λd hd=>by rw[Hy hd];exact hl,?_⟩,?_⟩
 ·have hf:yv (M4 n z)=(M4 n z.cells.toList).flatten:=by unfold yv;rw[I9]
  have key:z8 (R1 (c.grow w.heap.size n).I (c.grow w.heap.size n).J w') (M4 n z.cells.toList).flatten ((M4 n x).flatMap Mw):=by rw[WT];exact z8.flatten (z8.rep (hzx.cells.mono λ_ _ h=>h.ext e1) n)
  rw[←hf]at key;exact key
 ·have h1:(H++[Box.arr sz (M4 n x)])[H.length]? = some (.arr sz (M4 n x)):=by simp
  have:=RA.msl (w:=w') h1 hat;rw[HA]at this;exact this
theorem aM {ops:OC Nu}{o:Nu}{a:AV}{H':ON Box}{F:Prop}(hR:HR c H w) (he:∀x,RA c H w (e x) (r x)) (h:WV P e H ops o.dst o.op=some (a,H',F)) (hF:F):pr P c H w (execOp r o) a H':=by
 unfold WV at h;split at h
 ·rename_i T x y hop;split at h
  ·rename_i l i q hx;split at h
   ·rename_i xs n sz ds hc hs hl;split at h
    ·rename_i ys hys;split at h
     ·rename_i hfit;cases h;have hxr:=he x;rw[hx]at hxr;obtain⟨hv,h1⟩:=w7 (he y) hc;have hv':=mapM_avD1 hys hv;have hyn:∀z∈ys,z.cells=[z]:=λz hz=>by obtain⟨a,_,ha⟩:=cY hys z hz;exact aN ha
      have hrun:∀ra,r x=ra->(execOp r o)=(do J6 T ra (r y);pure GE:NN LK):=by intro ra hra;simp only[execOp,hop,hra]
      generalize hrx:r x=rx at *;cases hxr with
      |@eptr _ _ _ b k sz' ds' hH hρ =>
       rw[hl]at hH;cases hH;rw[←hfit.1]at hs;obtain⟨w',a1,a2,a3,a4⟩:=Xg (P:=P) (o:=q) hR hl hρ hv' h1 hyn hs (by omega) hF;refine pT ?_ a2 a3 a4;rw[hrun _ rfl];simp[a1]
     ·cases h
    ·cases h
   ·cases h
  ·cases h
 ·rename_i T x y hop;split at h
  ·split at h
   ·rename_i E k1 n k2 m hu hx hy;split at h
    ·rename_i i z hi hz;split at h
     ·rename_i hlen;cases h;obtain⟨rfl,hF⟩:=hF;have h1:=he x;have h2:=he y;rw[hx]at h1;rw[hy]at h2;obtain⟨zv,hzv⟩:=Yo hz;have hz':i.zero=some zv:=by unfold yo at hzv;rw[hi]at hzv;simpa using hzv
      have hrv:RV c.I c.J w zv z:=Yp hzv hz;have hzs:zv.cells.size=i.size:=by have:=hrv.cells.1;simp only[LI]at this;omega
      obtain⟨b1,b2,b3,b4⟩:=Td (E:=E) (n:=m.toNat) hR hrv hlen;refine ve ?_ b1 b2 b3 b4;simp only[execOp,hop];rw[h1.int,h2.int];simp[g9 (P:=P) (w:=w) (k1:=k1) (k2:=k2) hu hi hz' hzs hF]
     ·cases h
    ·cases h
   ·cases h
  ·cases h
 ·rename_i args types hop;split at h
  ·rename_i s x T T' hargs htypes;split at h
   ·rename_i ds l hs hx;split at h
    ·rename_i E hu;split at h
     ·rename_i i hi;split at h
      ·rename_i z sz es hz hl;split at h
       ·rename_i hpos;obtain⟨rfl,hp1,hp2,hp3⟩:=hpos;cases h;have hsr:=he s;rw[hs]at hsr;have hxr:=he x;rw[hx]at hxr;have ea:args = #[s,x]:=by apply Lm;simpa using hargs
        have et:types = #[T,T]:=by apply Lm;simpa using htypes
        subst ea;subst et;have:execOp r o=(do pure (GM (←J1 #[T,T] o.type #[r s,r x])):NN LK):=by
         have em:GI r #[s,x] = #[r s,r x]:=by simp
         simp only[execOp,hop,resolve,em];rfl
        rw[this];generalize r s=rs at *;generalize r x=rx at *;refine lz ?_;cases hsr with
        |@full _ ad n hsr =>
         cases hxr with
         |@msl _ b k sz' es' hH hρ =>
          rw[hl]at hH;cases hH;by_cases h0:0<es.length
          ·obtain⟨vs,T',g1,g2,g3⟩:=hR.box l b k _ hρ hl;obtain⟨us,u1,u2⟩:=tA es vs g3;refine iA hR hu hi hz hp3 hsr ⟨us,u1,λj u hj=>?_⟩ hF hp2 h0;rw[u2]at hj;simp only[Ko,g1,LP,Jd,LH,if_false,IZ];exact hj
          ·have hes:es=[]:=Ju (by omega);subst hes;obtain⟨h1,h2,h3⟩:=Gp (n:=ds.length+([]:ON D).length) (sz:=i.size) hR;refine⟨_,w,_,vK hu hi (MS _) (.inr ⟨_,_,rfl⟩),h3,h2,h1,?_⟩;rw[JL];exact H4 (n:=ds.length+([]:ON D).length) (sz:=i.size) hsr (by simp) (by simp) (λ_=>.inl rfl)
       ·cases h
      ·cases h
     ·cases h
    ·cases h
   ·cases h
  ·cases h
 ·cases h
end
section
mutual
def AV.under (n:Nat):AV->Bool
 |.ptr l _=>decide (l<n)
 |.vec l _=>decide (l<n)
 |.map l=>decide (l<n)
 |.clo _ a b=>AV.unders n a&&AV.unders n b
 |.tup a=>AV.unders n a
 |.agg a=>AV.unders n a
 |.opt _ _ x=>AV.under n x
 |.yld l=>decide (l<n)
 |.msl l=>decide (l<n)
 |.eptr l _ _=>decide (l<n)
 |_=>true
def AV.unders (n:Nat):ON AV->Bool
 |[]=>true
 |a::aas=>AV.under n a&&AV.unders n aas
end
theorem xi {n:Nat}:∀{aas:ON AV}{i:Nat}{a:AV},AV.unders n aas=true->aas[i]? = some a->a.under n=true
 |[],_,_,_,h=>by simp at h
 |a::aas,0,b,h,hi=>by simp[AV.unders]at h;simp at hi;subst hi;exact h.1
 |a::aas,i+1,b,h,hi=>by simp[AV.unders]at h;simp at hi;exact xi h.2 hi
def Box.under (n:Nat):Box->Bool
 |.cells _ cs=>AV.unders n cs
 |.loop tm _ _ _ _ _=>AV.unders n tm
 |_=>true
def Cx.take (c:Cx) (n:Nat):Cx:= { c with ρ:=c.ρ.take n }
theorem zJ {α:Type}{xs:ON α}{n l:Nat}(h:l<n):(xs.take n)[l]? = xs[l]? :=by rw[Ld,Nf h]
theorem zS {α:Type}{xs:ON α}{n l:Nat}{x:α}(h:(xs.take n)[l]? = some x):l<n/\xs[l]? = some x:=by
 rw[Ld]at h;split at h
 ·exact⟨by assumption,h⟩
 ·simp at h
section
variable {P:Ng}{c:Cx}{H:ON Box}{w:N4}{n:Nat}
theorem RA.take {a:AV}{v:Value}(h:RA c H w a v):a.under n=true->RA (c.take n) (H.take n) w a v:=by
 induction h with
 |d h=>intro _;exact .d h
 |ptr hH h=>intro hb;simp[AV.under]at hb;exact .ptr (by rw[zJ hb];exact hH) (by show(c.ρ.take n)[_]? = _;rw[zJ hb];exact h)
 |iptr h=>intro _;exact .iptr h
 |clo hf hc _ _ ih1 ih2 =>
  intro hb;simp[AV.under]at hb;exact .clo hf hc (λi a v ha hv=>ih1 i a v ha hv (xi hb.1 ha)) (λi a v ha hv=>ih2 i a v ha hv (xi hb.2 ha))
 |full h=>intro _;exact .full h
 |nils=>intro _;exact .nils
 |nilf=>intro _;exact .nilf
 |fsym o=>intro _;exact .fsym o
 |vec h hH hn he =>
  intro hb;simp[AV.under]at hb;refine .vec h (by rw[zJ hb];exact hH) hn (λe=>?_);rcases he e with h1|⟨b,h1,h2⟩
  ·exact .inl h1
  ·exact .inr ⟨b,h1,by show(c.ρ.take n)[_]? = _;rw[zJ hb];exact h2⟩
 |map hH h=>intro hb;simp[AV.under]at hb;exact .map (by rw[zJ hb];exact hH) (by show(c.ρ.take n)[_]? = _;rw[zJ hb];exact h)
 |tup hl _ ih=>intro hb;simp only[AV.under]at hb;exact .tup hl λi a v ha hv=>ih i a v ha hv (xi hb ha)
 |agg hl _ ih=>intro hb;simp only[AV.under]at hb;exact .agg hl λi a v ha hv=>ih i a v ha hv (xi hb ha)
 |any v=>intro _;exact .any v
 |opt g p x v=>intro _;exact .opt g p x v
 |msl hH h=>intro hb;simp[AV.under]at hb;exact .msl (by rw[zJ hb];exact hH) (by show(c.ρ.take n)[_]? = _;rw[zJ hb];exact h)
 |eptr hH h=>intro hb;simp[AV.under]at hb;exact .eptr (by rw[zJ hb];exact hH) (by show(c.ρ.take n)[_]? = _;rw[zJ hb];exact h)
 |yld hH h=>intro hb;simp[AV.under]at hb;exact .yld (by rw[zJ hb];exact hH) (by show(c.ρ.take n)[_]? = _;rw[zJ hb];exact h)
theorem HR.take (hR:HR c H w) (hb:((H.take n).all (Box.under n))=true):HR (c.take n) (H.take n) w where
 len:=by simp[Cx.take,hR.len]
 inj l l' b k k' h1 h2:=hR.inj l l' b k k' (zS h1).2 (zS h2).2
 box l b k x h1 h2:=by
  have h3:=hR.box l b k x (zS h1).2 (zS h2).2;cases x with
  |cells T cs =>
   obtain⟨vs,h4,h5⟩:=h3;have hbb:=ND.1 hb _ (MX h2);exact⟨vs,h4,h5.1,λi v a hv ha=>(h5.2 i v a hv ha).take (xi hbb ha)⟩
  |map es=>exact h3
  |vec m sz=>exact h3
  |dead=>trivial
  |arr sz ds=>exact h3
  |loop tm ps asn bd pend st =>
   obtain⟨r,h4,h5,h6,h7,h8,h9,h10⟩:=h3;have hbb:=ND.1 hb _ (MX h2);exact⟨r,h4,h5,h6,h7,h8,h9,h10.1,λi v a hv ha=>(h10.2 i v a hv ha).take (xi hbb ha)⟩
 non l x h1 h2:=hR.non l x (zS h1).2 (zS h2).2
 lt l b k h1:=hR.lt l b k (zS h1).2
 ilt:=hR.ilt
 jlt:=hR.jlt
 iap b o l k hi h1:=by obtain⟨m,sz,h2,h3⟩:=hR.iap b o l k hi (zS h1).2;exact⟨m,sz,by rw[zJ (zS h1).1];exact h2,h3⟩
 jap r l k hr h1:=hR.jap r l k hr (zS h1).2
theorem Ext.take (c:Cx) (w:N4) (n:Nat):Nw c w (c.take n) w :=⟨rfl,rfl,rfl,λ_ _ h=>h,λ_ h=>h,λ_ _ _=>rfl,λ_ _=>rfl,MS _,λ_ _ _=>rfl,λ_ _ h=>.inl h,λ_ h=>.inl h,λl _ k h=>.inl ⟨l,k,(zS h).2⟩⟩
def yA (c:Cx) (H:ON Box) (w:N4) (tmps:OC Value) (a:AV) (v:Value):Prop :=match a with
 |.opt g p x=>(tmps[g]? = some (.bool p)->RA c H w x v)/\(tmps[g]? ≠ some (.bool p)->v=undef)
 |a=>RA c H w a v
def Tc (c:Cx) (H:ON Box) (w:N4) (tmps:OC Value) (tm:ON AV):Prop:=z8 (λv a=>yA c H w tmps a v) tmps.toList tm
theorem yA.ext {c' H' w' tmps a v} (e:Nw c w c' w') (k:zp c H c' H') (h:yA c H w tmps a v):yA c' H' w' tmps a v:=by
 cases a<;>simp only[yA]at h ⊢ <;> first
  |exact RA.ext e k h
  |exact⟨λhg=>RA.ext e k (h.1 hg),h.2⟩
theorem Tc.ext {c' H' w' tmps tm} (e:Nw c w c' w') (k:zp c H c' H') (h:Tc c H w tmps tm):Tc c' H' w' tmps tm:=h.mono λ_ _ h=>h.ext e k
def wF (rd:OK Nat):Fence:= { GL with round:=rd }
theorem ly {rd:OK Nat}{n:Nat}{f:L8}{args:OC Value}{R:Ending->N4->Prop}(h:Ku P f args w R):CallsIn (wF rd) n P f args w R :=(callsIn_wide (n:=n)).2 h
def mark (m:Nat):I0:= { target:= .collected m,args:= #[] }
def lL (nb:Nat) (c:Cx) (w:N4) (ds:ON I0):Prop :=nb<=w.heap.size/\∃ms:ON Nat,ds=ms.map mark/\ms.Nodup/\∀m∈ms,nb<=m/\w.heap[m]? = some (.deferred (some []))/\(∀l k:Nat,c.ρ[l]? ≠ some (some (m,k)))/\(∀o,¬ c.I m o)/\¬ c.J m
theorem lL.nil {nb:Nat}(h:nb<=w.heap.size):lL nb c w []:=⟨h,[],rfl,ON.nodup_nil,λm h=>by cases h⟩
theorem lK {b:Nat}{o:Ln}(h:w.heap[b]? = some o):b<w.heap.size:=by
 rcases M0 b w.heap.size with h' |h'
 ·exact h'
 ·rw[OC.getElem?_eq_none h']at h;cases h
theorem lL.ext {nb:Nat}{c':Cx}{w':N4}{ds:ON I0}(e:Nw c w c' w') (h:lL nb c w ds):lL nb c' w' ds:=by
 obtain⟨h0,ms,h1,h2,h3⟩:=h;refine⟨KG h0 e.size,ms,h1,h2,λm hm=>?_⟩;obtain⟨a1,a2,a3,a4,a5⟩:=h3 m hm;have hlt:=lK a2;refine⟨a1,by rw[e.frame m hlt a3];exact a2,λl k hl=>?_,λo hi=>?_,λhj=>?_⟩
 ·rcases e.fresh l m k hl with⟨l',k',h'⟩|h'
  ·exact a3 l' k' h'
  ·omega
 ·rcases e.inew m o hi with h' |h' |⟨l,k,h'⟩
  ·exact a4 o h'
  ·omega
  ·exact a3 l k h'
 ·rcases e.jnew m hj with h' |h'
  ·exact a5 h'
  ·omega
structure Rep (G:Nat->OK (ON D)) (nb:Nat) (c:Cx) (H:ON Box) (w:N4) (tm:ON AV) (a:NI):Prop where
 hr:HR c H w
 gr:GR G c w
 tm:Tc c H w a.tmps tm
 df:lL nb c w a.defers
def oR (G:Nat->OK (ON D)) (nb:Nat) (n:Nat) (c:Cx) (H:ON Box) (w:N4) (Q:Me->ON AV->ON Box->Prop) (e:Me) (a:NI) (w':N4):Prop :=∃c' tm' H',Q e tm' H'/\Rep G nb c' H' w' tm' a/\Nw c w c' w'/\zp c (H.take n) c' H'
structure PW (P:Ng) (G:Nat->OK (ON D)) (rd:OK Nat) (n:Nat) (code:Np) (tm:ON AV) (H:ON Box) (Q:Me->ON AV->ON Box->Prop):Prop where
 run:∀nb c a w,Rep G nb c H w tm a->code.wpIn (wF rd) 0 P (oR G nb n c H w Q) a w
def fT (I:Nat->Nat->Prop) (J:Nat->Prop) (w:N4) (v:Value) (rs:ON D):Prop :=match rs with
 |[d]=>RV I J w v d
 |rs=>∃vs:ON Value,v = .tuple vs.toArray/\z8 (RV I J w) vs rs
structure PFn (P:Ng) (G:Nat->OK (ON D)) (f:L8) (ds:ON D) (Q:ON D->Prop):Prop where
 ex:∃rs,Q rs
 run:∀(c:Cx) (w:N4) (vs:ON Value),c.ρ=[]->HR c [] w->GR G c w->z8 (RV c.I c.J w) vs ds ->
  Ku P f vs.toArray w λe w'=>∃v rs c',e = .returned v/\Q rs/\c'.ρ=[]/\Nw c w c' w'/\HR c' [] w'/\fT c'.I c'.J w' v rs
structure PFnF (P:Ng) (G:Nat->OK (ON D)) (f:L8) (ds:ON D) (Q:ON D->Prop):Prop where
 run:∀(c:Cx) (w:N4) (vs:ON Value),c.ρ=[]->HR c [] w->GR G c w->z8 (RV c.I c.J w) vs ds ->
  Ku P f vs.toArray w λe w'=>∃v l c',e = .returned v/\Q l/\c'.ρ=[]/\Nw c w c' w'/\HR c' [] w'/\RA c' [] w' (.full l) v
theorem PFnF.mono {G f ds} {Q Q':ON D->Prop}(h:PFnF P G f ds Q) (hq:∀rs,Q rs->Q' rs):PFnF P G f ds Q' :=⟨λc w vs a b d e=>(h.run c w vs a b d e).mono λ_ _ ⟨v,l,c',e1,e2,e3⟩=>⟨v,l,c',e1,hq _ e2,e3⟩⟩
theorem PFn.mono {G f ds} {Q Q':ON D->Prop}(h:PFn P G f ds Q) (hq:∀rs,Q rs->Q' rs):PFn P G f ds Q':=by obtain⟨⟨rs,h0⟩,h1⟩:=h;refine⟨⟨rs,hq rs h0⟩,λc w vs a b d e=>(h1 c w vs a b d e).mono λen w' h=>?_⟩;obtain⟨v,rs,c',e1,e2,e3⟩:=h;exact⟨v,rs,c',e1,hq rs e2,e3⟩
theorem HR.nil (hR:HR c H w):HR { c with ρ:=[] } [] w where
 len:=rfl
 inj l l' b k k' h:=by simp at h
 box l b k x h:=by simp at h
 non l x h:=by simp at h
 lt l b k h:=by simp at h
 ilt:=hR.ilt
 jlt:=hR.jlt
 iap b o l k hi h:=by simp at h
 jap r l k hr h:=by simp at h
theorem td {c':Cx}{w':N4}(hR:HR c H w) (e:Nw { c with ρ:=[] } w c' w') (hR':HR c' [] w'): let c2:Cx:= { c' with ρ:=c.ρ }
  Nw c w c2 w'/\zp c H c2 H/\HR c2 H w':=by
 intro c2;have e2:Nw c w c2 w':=by
  refine⟨e.os,e.tape,e.output,e.isub,e.jsub,e.icell,e.jobj,e.size,λb hb _=>e.frame b hb (by simp),λb o h=>?_,e.jnew,λl b k h=>.inl ⟨l,k,h⟩⟩;rcases e.inew b o h with h1|h1|⟨l,k,h1⟩
  ·exact .inl h1
  ·exact .inr (.inl h1)
  ·simp at h1
 have kp:zp c H c2 H:=Md c H;refine⟨e2,kp,⟨hR.len,hR.inj,λl b k x h1 h2=>(hR.box l b k x h1 h2).ext e2 kp (e.frame b (hR.lt l b k h1) (by simp)),hR.non,λl b k h1=>MM (hR.lt l b k h1) e.size,hR'.ilt,hR'.jlt,λb o l k hi h1=>?_,λr l k hr h1=>?_⟩⟩
 ·rcases e.inew b o hi with h2|h2|⟨l',k',h2⟩
  ·exact hR.iap b o l k h2 h1
  ·have:=hR.lt l b k h1;omega
  ·simp at h2
 ·rcases e.jnew r hr with h2|h2
  ·exact hR.jap r l k h2 h1
  ·have:=hR.lt l r k h1;omega
end
end
open Go.Sx renaming Rep->M5
open Go.Sx.AV renaming unders->Km
open Go.Sx.Box renaming under->Kd
open Go.Sx.Ext renaming take->Jj
structure PCall (P:Ng) (G:Nat->OK (ON D)) (f:L8) (aas:ON AV) (H:ON Box) (Q:ON D->ON Box->Prop):Prop where
 ex:∃rs H',Q rs H'
 run:∀(c:Cx) (w:N4) (vs:ON Value),HR c H w->GR G c w->z8 (λv a=>RA c H w a v) vs aas ->
  Ku P f vs.toArray w λe w'=>∃v rs c' H',e = .returned v/\Q rs H'/\H'.length=H.length/\Nw c w c' w'/\zp c H c' H'/\HR c' H' w'/\fT c'.I c'.J w' v rs
theorem PCall.mono {P G f aas H} {Q Q':ON D->ON Box->Prop}(h:PCall P G f aas H Q) (hq:∀rs H',Q rs H'->Q' rs H'):PCall P G f aas H Q':=by obtain⟨⟨rs,H',h0⟩,h1⟩:=h;refine⟨⟨rs,H',hq _ _ h0⟩,λc w vs a b d=>(h1 c w vs a b d).mono λen w' h=>?_⟩;obtain⟨v,rs,c',H',e1,e2,e3⟩:=h;exact⟨v,rs,c',H',e1,hq _ _ e2,e3⟩
structure PYield (P:Ng) (G:Nat->OK (ON D)) (l:Nat) (aas:ON AV) (H:ON Box) (Q:ON D->ON Box->Prop):Prop where
 ex:∃rs H',Q rs H'
 run:∀(c:Cx) (w:N4) (vs:ON Value) (b k:Nat),HR c H w->GR G c w->c.ρ[l]? = some (some (b,k))->z8 (λv a=>RA c H w a v) vs aas ->
  ∃f tmps asn bd,(Instr.yield b vs.toArray).run P w = .ok (.round b f tmps asn bd) w/\RoundIn GL 0 P b f tmps asn bd w λe w'=>∃v rs c' H',e = .returned v/\Q rs H'/\H'.length=H.length/\Nw c w c' w'/\zp c H c' H'/\HR c' H' w'/\fT c'.I c'.J w' v rs
theorem PYield.mono {P G l aas H} {Q Q':ON D->ON Box->Prop}(h:PYield P G l aas H Q) (hq:∀rs H',Q rs H'->Q' rs H'):PYield P G l aas H Q':=by obtain⟨⟨rs,H',h0⟩,h1⟩:=h;refine⟨⟨rs,H',hq _ _ h0⟩,λc w vs b k a1 a2 a3 a4=>?_⟩;obtain⟨f,tmps,asn,bd,h2,h3⟩:=h1 c w vs b k a1 a2 a3 a4;refine⟨f,tmps,asn,bd,h2,h3.mono λen w' h=>?_⟩;obtain⟨v,rs,c',H',e1,e2,e3⟩:=h;exact⟨v,rs,c',H',e1,hq _ _ e2,e3⟩
section
variable {c:Cx}{H:ON Box}{w:N4}{n:Nat}
theorem s0 {α:Type}{xs ys:ON α}{l:Nat}(h:l<xs.length):(xs++ys)[l]? = xs[l]? :=LJ h
theorem j2 {α:Type}{xs ys:ON α}{l:Nat}(h:xs.length<=l):(xs++ys)[l]? = ys[l - xs.length]? :=KT h
theorem RA.more {ρ2:ON (OK (Nat×Nat))}{H2:ON Box}(hl:c.ρ.length=H.length) {av:AV}{v:Value}(h:RA c H w av v):RA { c with ρ:=c.ρ++ρ2 } (H++H2) w av v:=by
 have hH:∀(l:Nat) x,H[l]? = some x->(H++H2)[l]? = some x:=λl x hx=>by
  have:l<H.length:=by rcases M0 l H.length with h|h;exact h;rw[My h]at hx;cases hx
  rw[s0 this];exact hx
 have hρ:∀(l:Nat) x,c.ρ[l]? = some x->(c.ρ++ρ2)[l]? = some x:=λl x hx=>by
  have:l<c.ρ.length:=by rcases M0 l c.ρ.length with h|h;exact h;rw[My h]at hx;cases hx
  rw[s0 this];exact hx
 induction h with
 |d h=>exact .d h
 |ptr h1 h2=>exact .ptr (hH _ _ h1) (hρ _ _ h2)
 |iptr h=>exact .iptr h
 |clo hf hc _ _ ih1 ih2=>exact .clo hf hc ih1 ih2
 |full h=>exact .full h
 |nils=>exact .nils
 |nilf=>exact .nilf
 |fsym o=>exact .fsym o
 |vec h h1 hn he =>
  refine .vec h (hH _ _ h1) hn λhl=>?_;rcases he hl with h1|⟨b,h1,h2⟩
  ·exact .inl h1
  ·exact .inr ⟨b,h1,hρ _ _ h2⟩
 |map h1 h2=>exact .map (hH _ _ h1) (hρ _ _ h2)
 |tup hl _ ih=>exact .tup hl ih
 |agg hl _ ih=>exact .agg hl ih
 |any v=>exact .any v
 |opt g p x v=>exact .opt g p x v
 |yld h1 h2=>exact .yld (hH _ _ h1) (hρ _ _ h2)
 |msl h1 h2=>exact .msl (hH _ _ h1) (hρ _ _ h2)
 |eptr h1 h2=>exact .eptr (hH _ _ h1) (hρ _ _ h2)
theorem sG.more {ρ2:ON (OK (Nat×Nat))}{H2:ON Box}(hl:c.ρ.length=H.length) {b k:Nat}{x:Box}(h:sG c H w b k x):sG { c with ρ:=c.ρ++ρ2 } (H++H2) w b k x:=by
 cases x with
 |cells T cs=>obtain⟨vs,h1,h2⟩:=h;exact⟨vs,h1,h2.mono λ_ _ h=>h.more hl⟩
 |map es=>exact h
 |vec n sz=>exact h
 |dead=>trivial
 |arr sz ds=>exact h
 |loop tm ps asn bd pend st=>obtain⟨r,h1,h2,h3,h4,h5,h6,h7⟩:=h;exact⟨r,h1,h2,h3,h4,h5,h6,h7.mono λ_ _ h=>h.more hl⟩
theorem gy (hn:n<=H.length) (hR:HR c H w) {c':Cx}{w':N4}{H1:ON Box}(e:Nw (c.take n) w c' w') (kp:zp (c.take n) (H.take n) c' H1) (hl:H1.length=(H.take n).length) (hR':HR c' H1 w'): let c2:Cx:= { c' with ρ:=c'.ρ++c.ρ.drop n }
  let H2:=H1++H.drop n;Nw c w c2 w'/\zp c H c2 H2/\HR c2 H2 w':=by
 intro c2 H2;have hl1:H1.length=n:=by rw[hl,Kr];omega
 have hl2:c'.ρ.length=n:=by rw[hR'.len,hl1]
 have tk:∀(l:Nat) x,(c.take n).ρ[l]? = some x->l<n/\c.ρ[l]? = some x:=λl x h=>zS h;have glt:∀l,l<n->c2.ρ[l]? = c'.ρ[l]? :=λl h=>s0 (by omega);have gge:∀l,n<=l->c2.ρ[l]? = c.ρ[l]? :=λl h=>by show(c'.ρ++c.ρ.drop n)[l]? = _;rw[j2 (by omega),J0,hl2];congr 1;omega
 have Hlt:∀l,l<n->H2[l]? = H1[l]? :=λl h=>s0 (by omega);have Hge:∀l,n<=l->H2[l]? = H[l]? :=λl h=>by show(H1++H.drop n)[l]? = _;rw[j2 (by omega),J0,hl1];congr 1;omega
 have apart:∀l b k,n<=l->c.ρ[l]? = some (some (b,k))->∀l' k':Nat,(c.take n).ρ[l']? ≠ some (some (b,k')):=by intro l b k hge h l' k' h';obtain⟨h1,h2⟩:=tk _ _ h';have:=hR.inj l l' b k k' h h2;omega
 have e2:Nw c w c2 w':=by
  refine⟨e.os,e.tape,e.output,e.isub,e.jsub,e.icell,e.jobj,e.size,λb hb h=>e.frame b hb λl k h'=>h l k (tk _ _ h').2,λb o h=>?_,e.jnew,λl b k h=>?_⟩
  ·rcases e.inew b o h with h1|h1|⟨l,k,h1⟩
   ·exact .inl h1
   ·exact .inr (.inl h1)
   ·exact .inr (.inr ⟨l,k,(tk _ _ h1).2⟩)
  ·rcases M0 l n with hlt|hge
   ·rw[glt l hlt]at h;rcases e.fresh l b k h with⟨l',k',h1⟩|h1
    ·exact .inl ⟨l',k',(tk _ _ h1).2⟩
    ·exact .inr h1
   ·rw[gge l hge]at h;exact .inl ⟨l,k,h⟩
 have k2:zp c H c2 H2:=by
  intro l x hx;rcases M0 l n with hlt|hge
  ·have h1:=kp l x (by rw[zJ hlt];exact hx);have e3:(c.take n).ρ[l]? = c.ρ[l]? :=by show(c.ρ.take n)[l]? = _;rw[zJ hlt]
   cases x<;>simp only[Hlt l hlt,glt l hlt,←e3]<;>exact h1
  ·cases x<;>simp only[Hge l hge,gge l hge,hx]<;>simp
 refine⟨e2,k2,⟨?_,?_,?_,?_,?_,hR'.ilt,hR'.jlt,?_,?_⟩⟩
 ·show(c'.ρ++c.ρ.drop n).length=(H1++H.drop n).length;simp[hl1,hl2,hR.len]
 ·intro l l' b k k' h h';have mixed:∀l l' k k',l<n->n<=l'->c'.ρ[l]? = some (some (b,k))->c.ρ[l']? = some (some (b,k'))->NL:=by
   intro l l' k k' h1 h2 h3 h4;rcases e.fresh l b k h3 with⟨l'',k'',h5⟩|h5
   ·exact apart l' b k' h2 h4 l'' k'' h5
   ·have:=hR.lt l' b k' h4;omega
  rcases M0 l n with h1|h1<;>rcases M0 l' n with h2|h2
  ·rw[glt l h1]at h;rw[glt l' h2]at h';exact hR'.inj l l' b k k' h h'
  ·rw[glt l h1]at h;rw[gge l' h2]at h';exact(mixed l l' k k' h1 h2 h h').elim
  ·rw[gge l h1]at h;rw[glt l' h2]at h';exact(mixed l' l k' k h2 h1 h' h).elim
  ·rw[gge l h1]at h;rw[gge l' h2]at h';exact hR.inj l l' b k k' h h'
 ·intro l b k x h hx;rcases M0 l n with h1|h1
  ·rw[glt l h1]at h;rw[Hlt l h1]at hx;exact(hR'.box l b k x h hx).more hR'.len
  ·rw[gge l h1]at h;rw[Hge l h1]at hx;exact(hR.box l b k x h hx).ext e2 k2 (e.frame b (hR.lt l b k h) (apart l b k h1 h))
 ·intro l x h hx;rcases M0 l n with h1|h1
  ·rw[glt l h1]at h;rw[Hlt l h1]at hx;exact hR'.non l x h hx
  ·rw[gge l h1]at h;rw[Hge l h1]at hx;exact hR.non l x h hx
 ·intro l b k h;rcases M0 l n with h1|h1
  ·rw[glt l h1]at h;exact hR'.lt l b k h
  ·rw[gge l h1]at h;exact MM (hR.lt l b k h) e.size
 ·intro b o l k hi h;rcases M0 l n with h1|h1
  ·rw[glt l h1]at h;rw[Hlt l h1];exact hR'.iap b o l k hi h
  ·rw[gge l h1]at h;rw[Hge l h1];rcases e.inew b o hi with h2|h2|⟨l',k',h2⟩
   ·exact hR.iap b o l k h2 h
   ·have:=hR.lt l b k h;omega
   ·exact(apart l b k h1 h l' k' h2).elim
 ·intro r l k hr h;rcases M0 l n with h1|h1
  ·rw[glt l h1]at h;exact hR'.jap r l k hr h
  ·rw[gge l h1]at h;rcases e.jnew r hr with h2|h2
   ·exact hR.jap r l k h2 h
   ·have:=hR.lt l r k h;omega
end
mutual
def AV.top:AV->Nat
 |.ptr l _=>l+1
 |.vec l _=>l+1
 |.map l=>l+1
 |.yld l=>l+1
 |.msl l=>l+1
 |.eptr l _ _=>l+1
 |.clo _ a b=>max (AV.tops a) (AV.tops b)
 |.tup a=>AV.tops a
 |.agg a=>AV.tops a
 |.opt _ _ x=>AV.top x
 |_=>0
def AV.tops:ON AV->Nat
 |[]=>0
 |a::aas=>max (AV.top a) (AV.tops aas)
end
def Box.top:Box->Nat
 |.cells _ cs=>AV.tops cs
 |.loop tm _ _ _ _ _=>AV.tops tm
 |_=>0
def topsH:ON Box->Nat
 |[]=>0
 |x::r=>max x.top (topsH r)
def St (H:ON Box):Nat->Nat->Nat
 |0,n=>n
 |f+1,n=>St H f (max n (topsH (H.take n)))
def exAV:AV->(AV->Prop)->Prop
 |.d (.int k _),K=>∃n,K (.d (.int k n))
 |.d (.bool _),K=>∃b,K (.d (.bool b))
 |.d (.str _),K=>∃s,K (.d (.str s))
 |.d (.sl _),K=>∃l,K (.d (.sl l))
 |.full _,K=>∃l,K (.d (.sl l))
 |.vec t _,K=>∃l,K (.vec t l)
 |a,K=>K a
def exAVs:ON AV->(ON AV->Prop)->Prop
 |[],K=>K []
 |a::aas,K=>exAV a λa'=>exAVs aas λaas'=>K (a'::aas')
def exBox:Box->(Box->Prop)->Prop
 |.cells T cs,K=>exAVs cs λcs'=>K (.cells T cs')
 |.map _,K=>∃es,K (.map es)
 |.vec _ sz,K=>∃n,K (.vec n sz)
 |.dead,K=>K .dead
 |.arr sz _,K=>∃ds,K (.arr sz ds)
 |.loop tm ps asn bd _ _,K=>∃pend st,K (.loop tm ps asn bd pend st)
def exH:ON Box->(ON Box->Prop)->Prop
 |[],K=>K []
 |x::r,K=>exBox x λx'=>exH r λr'=>K (x'::r')
theorem Xf {a:AV}{K:AV->Prop}(h:exAV a K):∃x,K x:=by
 unfold exAV at h;split at h<;>first
  |exact⟨_,h⟩
  |(obtain⟨y,h⟩:=h;exact⟨_,h⟩)
theorem exAVs_some:∀{l:ON AV}{K:ON AV->Prop},exAVs l K->∃x,K x
 |[],_,h=>⟨_,h⟩
 |_::_,_,h=>by obtain⟨a,h1⟩:=Xf h;obtain⟨aas,h2⟩:=exAVs_some h1;exact⟨_,h2⟩
theorem aL {x:Box}{K:Box->Prop}(h:exBox x K):∃y,K y:=by
 cases x with
 |cells T cs=>obtain⟨y,h⟩:=exAVs_some h;exact⟨_,h⟩
 |map es=>obtain⟨y,h⟩:=h;exact⟨_,h⟩
 |vec n sz=>obtain⟨y,h⟩:=h;exact⟨_,h⟩
 |dead=>exact⟨_,h⟩
 |arr sz ds=>obtain⟨y,h⟩:=h;exact⟨_,h⟩
 |loop tm ps asn bd pend st=>obtain⟨y,z,h⟩:=h;exact⟨_,h⟩
theorem exH_some:∀{H:ON Box}{K:ON Box->Prop},exH H K->∃H',K H'
 |[],_,h=>⟨_,h⟩
 |_::_,_,h=>by obtain⟨a,h1⟩:=aL h;obtain⟨aas,h2⟩:=exH_some h1;exact⟨_,h2⟩
mutual
def AV.shift (n:Nat):AV->AV
 |.ptr l o=>.ptr (l+n) o
 |.clo f fi ca=>.clo f (AV.shifts n fi) (AV.shifts n ca)
 |.vec l ds=>.vec (l+n) ds
 |.map l=>.map (l+n)
 |.tup vs=>.tup (AV.shifts n vs)
 |.agg cs=>.agg (AV.shifts n cs)
 |.opt _ _ _=>.any
 |.yld _=>.any
 |.msl l=>.msl (l+n)
 |.eptr l i o=>.eptr (l+n) i o
 |x=>x
def AV.shifts (n:Nat):ON AV->ON AV
 |[]=>[]
 |x::r=>AV.shift n x::AV.shifts n r
end
theorem AV.shifts_eq (n:Nat):∀l:ON AV,AV.shifts n l=l.map (AV.shift n)
 |[]=>rfl
 |x::r=>by rw[AV.shifts,AV.shifts_eq n r];rfl
def Box.shift (n:Nat):Box->Box
 |.cells T cs=>.cells T (cs.map (AV.shift n))
 |.loop _ _ _ _ _ _=>.dead
 |x=>x
theorem RA.shift {c c2:Cx}{H H2:ON Box}{w:N4}{n:Nat}(hI:c2.I=c.I) (hJ:c2.J=c.J) (hρ:∀l,c2.ρ[l+n]? = c.ρ[l]?) (hH:∀l,H2[l+n]? = (H[l]?).map (Box.shift n)) {a:AV}{v:Value}(h:RA c H w a v):RA c2 H2 w (AV.shift n a) v:=by
 induction h with
 |d h=>exact .d (by rw[hI,hJ];exact h)
 |ptr h1 h2=>exact .ptr (cs:=_) (by rw[hH,h1];rfl) (by rw[hρ,h2])
 |iptr h=>exact .iptr (by rw[hI,hJ];exact h)
 |clo hf hc _ _ ih1 ih2 =>
  rw[AV.shift,AV.shifts_eq,AV.shifts_eq];refine .clo (by rw[Nv];exact hf) (by rw[Nv];exact hc) (λi a v ha hv=>?_) (λi a v ha hv=>?_)
  ·rw[M6]at ha;obtain⟨a0,h0,rfl⟩:=KB.1 ha;exact ih1 i a0 v h0 hv
  ·rw[M6]at ha;obtain⟨a0,h0,rfl⟩:=KB.1 ha;exact ih2 i a0 v h0 hv
 |full h=>exact .full (by rw[hI,hJ];exact h)
 |vec h1 h2 h3 h4=>exact .vec (by rw[hI,hJ];exact h1) (by rw[hH,h2];rfl) h3 (λe=>by rw[hρ];exact h4 e)
 |map h1 h2=>exact .map (by rw[hH,h1];rfl) (by rw[hρ,h2])
 |tup hl _ ih =>
  rw[AV.shift,AV.shifts_eq];refine .tup (by rw[Nv];exact hl) (λi a v ha hv=>?_);rw[M6]at ha;obtain⟨a0,h0,rfl⟩:=KB.1 ha;exact ih i a0 v h0 hv
 |agg hl _ ih =>
  rw[AV.shift,AV.shifts_eq];refine .agg (by rw[Nv];exact hl) (λi a v ha hv=>?_);rw[M6]at ha;obtain⟨a0,h0,rfl⟩:=KB.1 ha;exact ih i a0 v h0 hv
 |any v=>exact .any v
 |opt=>exact .any _
 |yld=>exact .any _
 |nils=>exact .nils
 |nilf=>exact .nilf
 |fsym o=>exact .fsym o
 |msl h1 h2=>exact .msl (by rw[hH,h1];rfl) (by rw[hρ,h2])
 |eptr h1 h2=>exact .eptr (by rw[hH,h1];rfl) (by rw[hρ,h2])
theorem j3 {α:Type}{a b:ON α}{l:Nat}{x:α}(h:(a++b)[l]? = some x):(l<a.length/\a[l]? = some x)∨(a.length<=l/\b[l - a.length]? = some x):=by
 rcases M0 l a.length with h1|h1
 ·rw[LJ h1]at h;exact .inl ⟨h1,h⟩
 ·rw[KT h1]at h;exact .inr ⟨h1,h⟩
theorem z8.map_right {α β γ:Type}{R:α->β->Prop}{S:α->γ->Prop}(f:β->γ) (h:∀a b,R a b->S a (f b)) {xs:ON α}{ys:ON β}(hx:z8 R xs ys):z8 S xs (ys.map f):=by obtain⟨h1,h2⟩:=hx;refine⟨by rw[Nv];exact h1,λi x y a b=>?_⟩;rw[M6]at b;obtain⟨y0,h0,rfl⟩:=KB.1 b;exact h _ _ (h2 i x y0 a h0)
theorem sG.shift {c c2:Cx}{H H2:ON Box}{w:N4}{n b k:Nat}{x:Box}(hI:c2.I=c.I) (hJ:c2.J=c.J) (hρ:∀l,c2.ρ[l+n]? = c.ρ[l]?) (hH:∀l,H2[l+n]? = (H[l]?).map (Box.shift n)) (h:sG c H w b k x):sG c2 H2 w b k (Box.shift n x):=by
 cases x with
 |cells T cs =>
  obtain⟨vs,h1,h2⟩:=h;exact⟨vs,h1,z8.map_right (AV.shift n) (λv a h=>RA.shift hI hJ hρ hH h) h2⟩
 |map es=>obtain⟨e,k,h1,h2⟩:=h;exact⟨e,k,h1,by rw[hI,hJ];exact h2⟩
 |vec n sz=>exact h
 |dead=>trivial
 |arr sz ds=>obtain⟨vs,T,h1,h2,h3⟩:=h;exact⟨vs,T,h1,h2,by rw[hI,hJ];exact h3⟩
 |loop=>trivial
theorem HR.behind {c c':Cx}{H N:ON Box}{w w':N4}(hR:HR c H w) (e:Nw { c with ρ:=[] } w c' w') (hR':HR c' N w'): let c2:Cx:= { c' with ρ:=c.ρ++c'.ρ }
  let H2:=H++N.map (Box.shift H.length);Nw c w c2 w'/\zp c H c2 H2/\HR c2 H2 w':=by
 intro c2 H2;have hnew:∀l b k:Nat,c'.ρ[l]? = some (some (b,k))->w.heap.size<=b:=λl b k h=>by
  rcases e.fresh l b k h with⟨l',k',h'⟩|h'
  ·simp at h'
  ·exact h'
 have e2:Nw c w c2 w':=by
  refine⟨e.os,e.tape,e.output,e.isub,e.jsub,e.icell,e.jobj,e.size,λb hb _=>e.frame b hb (by simp),λb o h=>?_,e.jnew,λl b k h=>?_⟩
  ·rcases e.inew b o h with h1|h1|⟨l,k,h1⟩
   ·exact .inl h1
   ·exact .inr (.inl h1)
   ·simp at h1
  ·rcases j3 h with⟨_,h1⟩|⟨_,h1⟩
   ·exact .inl ⟨l,k,h1⟩
   ·exact .inr (hnew _ b k h1)
 have hlen:=hR.len;have old:∀(l:Nat) x,H[l]? = some x->H2[l]? = some x/\c2.ρ[l]? = c.ρ[l]? :=λl x h=>by
  have hl:l<H.length:=by
   rcases M0 l H.length with h1|h1
   ·exact h1
   ·rw[My h1]at h;cases h
  exact⟨by show(H++_)[l]? = _;rw[LJ hl,h],by show(c.ρ++c'.ρ)[l]? = _;rw[LJ (by omega)]⟩
 have kp:zp c H c2 H2:=by
  intro l x h;obtain⟨h1,h2⟩:=old l x h;cases x with
  |vec n sz=>exact⟨n,h1,MS _,λ_=>h2⟩
  |dead=>trivial
  |arr sz ds=>exact⟨⟨ds,h1,rfl⟩,h2⟩
  |cells T cs=>exact⟨⟨cs,h1⟩,h2⟩
  |map es=>exact⟨⟨es,h1⟩,h2⟩
  |loop tm ps asn bd pend st=>exact⟨⟨pend,st,h1⟩,h2⟩
 have hρ:∀l,c2.ρ[l+H.length]? = c'.ρ[l]? :=λl=>by show(c.ρ++c'.ρ)[l+H.length]? = _;rw[KT (by omega),hlen,IX]
 have hH:∀l,H2[l+H.length]? = (N[l]?).map (Box.shift H.length):=λl=>by show(H++_)[l+H.length]? = _;rw[KT (by omega),IX,M6]
 have split:∀(l:Nat) y,c2.ρ[l]? = some y->(l<H.length/\c.ρ[l]? = some y)∨ ∃m,l=m+H.length/\c'.ρ[m]? = some y:=λl y h=>by
  rcases j3 h with⟨h1,h2⟩|⟨h1,h2⟩
  ·exact .inl ⟨by omega,h2⟩
  ·exact .inr ⟨l - H.length,by omega,by rw[←hlen];exact h2⟩
 have hold:∀(l:Nat) x,l<H.length->H2[l]? = some x->H[l]? = some x:=λl x hl h=>by have h':(H++N.map (Box.shift H.length))[l]? = some x:=h;rwa [LJ hl]at h'
 refine⟨e2,kp,⟨?_,λl l' b k k' h1 h2=>?_,λl b k x h1 h2=>?_,λl x h1 h2=>?_,λl b k h1=>?_,hR'.ilt,hR'.jlt,λb o l k hi h1=>?_,λr l k hr h1=>?_⟩⟩
 ·show(c.ρ++c'.ρ).length=(H++N.map _).length;rw[Kb,Kb,Nv,hlen,hR'.len]
 ·rcases split l _ h1 with⟨g1,g2⟩|⟨m,rfl,g2⟩<;>rcases split l' _ h2 with⟨g3,g4⟩|⟨m',rfl,g4⟩
  ·exact hR.inj l l' b k k' g2 g4
  ·have:=hR.lt l b k g2;have:=hnew m' b k' g4;omega
  ·have:=hR.lt l' b k' g4;have:=hnew m b k g2;omega
  ·rw[hR'.inj m m' b k k' g2 g4]
 ·rcases split l _ h1 with⟨g1,g2⟩|⟨m,rfl,g2⟩
  ·exact(hR.box l b k x g2 (hold l x g1 h2)).ext e2 kp (e.frame b (hR.lt l b k g2) (by simp))
  ·rw[hH]at h2;obtain⟨y,hy,rfl⟩:=KB.1 h2;exact sG.shift (c:=c') (c2:=c2) rfl rfl hρ hH (hR'.box m b k y g2 hy)
 ·rcases split l _ h1 with⟨g1,g2⟩|⟨m,rfl,g2⟩
  ·exact hR.non l x g2 (hold l x g1 h2)
  ·rw[hH]at h2;obtain⟨y,hy,rfl⟩:=KB.1 h2;rcases hR'.non m y g2 hy with⟨n,sz,rfl⟩|rfl
   ·exact .inl ⟨n,sz,rfl⟩
   ·exact .inr rfl
 ·rcases split l _ h1 with⟨g1,g2⟩|⟨m,rfl,g2⟩
  ·exact MM (hR.lt l b k g2) e.size
  ·exact hR'.lt m b k g2
 ·rcases split l _ h1 with⟨g1,g2⟩|⟨m,rfl,g2⟩
  ·rcases e.inew b o hi with h2|h2|⟨l',k',h2⟩
   ·obtain⟨n,sz,h3,h4⟩:=hR.iap b o l k h2 g2;exact⟨n,sz,(old l _ h3).1,h4⟩
   ·have:=hR.lt l b k g2;omega
   ·simp at h2
  ·obtain⟨n,sz,h3,h4⟩:=hR'.iap b o m k hi g2;exact⟨n,sz,by rw[hH,h3];rfl,h4⟩
 ·rcases split l _ h1 with⟨g1,g2⟩|⟨m,rfl,g2⟩
  ·rcases e.jnew r hr with h2|h2
   ·exact hR.jap r l k h2 g2
   ·have:=hR.lt l r k g2;omega
  ·exact hR'.jap r m k hr g2
structure PFnV (P:Ng) (G:Nat->OK (ON D)) (f:L8) (ds:ON D) (sz:Nat) (Q:ON D->Prop):Prop where
 run:∀(c:Cx) (w:N4) (vs:ON Value),c.ρ=[]->HR c [] w->GR G c w->z8 (RV c.I c.J w) vs ds ->
  Ku P f vs.toArray w λe w'=>∃v l c',e = .returned v/\Q l/\Nw c w c' w'/\HR c' [.vec l.length sz] w'/\RA c' [.vec l.length sz] w' (.vec 0 l) v
theorem PFnV.mono {P G f ds sz} {Q Q':ON D->Prop}(h:PFnV P G f ds sz Q) (hq:∀rs,Q rs->Q' rs):PFnV P G f ds sz Q' :=⟨λc w vs a b d e=>(h.run c w vs a b d e).mono λ_ _ ⟨v,l,c',e1,e2,e3⟩=>⟨v,l,c',e1,hq _ e2,e3⟩⟩
theorem aK {c c':Cx}{H:ON Box}{w w':N4}{l:ON D}{sz:Nat}{v:Value}(hR:HR c H w) (e:Nw { c with ρ:=[] } w c' w') (hR':HR c' [.vec l.length sz] w') (hv:RA c' [.vec l.length sz] w' (.vec 0 l) v): let c2:Cx:= { c' with ρ:=c.ρ++c'.ρ }
  Nw c w c2 w'/\zp c H c2 (H++[.vec l.length sz])/\HR c2 (H++[.vec l.length sz]) w'/\RA c2 (H++[.vec l.length sz]) w' (.vec H.length l) v:=by
 intro c2;obtain⟨h1,h2,h3⟩:=HR.behind hR e hR';refine⟨h1,h2,h3,?_⟩;have hlen:=hR.len;have:=RA.shift (c:=c') (c2:=c2) (H:=[.vec l.length sz]) (H2:=H++[.vec l.length sz]) (n:=H.length) rfl rfl (λm=>by
   show(c.ρ++c'.ρ)[m+H.length]? = _;rw[KT (by omega),hlen,IX]) (λm=>by
   rw[KT (by omega),IX];cases m with
   |zero=>rfl
   |succ m=>rfl) hv
 rw[AV.shift,LP]at this;exact this
structure PMaker (P:Ng) (G:Nat->OK (ON D)) (f:L8) (aas:ON AV) (H:ON Box) (av:AV) (N:ON Box):Prop where
 run:∀(c:Cx) (w:N4) (vs:ON Value),HR c H w->GR G c w->z8 (λv a=>RA c H w a v) vs aas ->
  Ku P f vs.toArray w λe w'=>∃v c',e = .returned v/\Nw c w c' w'/\zp c H c' (H++N)/\HR c' (H++N) w'/\RA c' (H++N) w' av v
def eqAV:AV->AV->Prop
 |.d (.int k a),.d (.int k' b)=>if k=k' then a=b else NL
 |.d (.bool a),.d (.bool b)=>a=b
 |.d (.str a),.d (.str b)=>a=b
 |.d (.sl a),.d (.sl b)=>a=b
 |.full a,.full b=>a=b
 |.vec l a,.vec l' b=>if l=l' then a=b else NL
 |.eptr l i o,.eptr l' i' o'=>if l=l'/\o=o' then i=i' else NL
 |a,b=>a=b
theorem s3 {a b:AV}(h:eqAV a b):a=b:=by
 unfold eqAV at h;split at h
 ·split at h
  ·rename_i hk;subst hk;subst h;rfl
  ·exact h.elim
 ·subst h;rfl
 ·subst h;rfl
 ·subst h;rfl
 ·subst h;rfl
 ·split at h
  ·rename_i hk;subst hk;subst h;rfl
  ·exact h.elim
 ·split at h
  ·rename_i hk;obtain⟨rfl,rfl⟩:=hk;subst h;rfl
  ·exact h.elim
 ·exact h
def eqAVs:ON AV->ON AV->Prop
 |[],[]=>OG
 |a::r,b::s=>eqAV a b/\eqAVs r s
 |_,_=>NL
theorem eqAVs_sound:∀{a b:ON AV},eqAVs a b->a=b
 |[],[],_=>rfl
 |a::r,b::s,h=>by rw[s3 h.1,eqAVs_sound h.2]
 |[],_::_,h=>h.elim
 |_::_,[],h=>h.elim
def eqBox:Box->Box->Prop
 |.cells T cs,.cells T' cs'=>if T=T' then eqAVs cs cs' else NL
 |.map a,.map b=>a=b
 |.vec n sz,.vec n' sz'=>if sz=sz' then n=n' else NL
 |.dead,.dead=>OG
 |.arr sz ds,.arr sz' ds'=>if sz=sz' then ds=ds' else NL
 |.loop tm ps asn bd pend st,.loop tm' ps' asn' bd' pend' st'=>Box.loop tm ps asn bd pend st = .loop tm' ps' asn' bd' pend' st'
 |_,_=>NL
theorem cX {x y:Box}(h:eqBox x y):x=y:=by
 unfold eqBox at h;split at h
 ·split at h
  ·rename_i hk;subst hk;rw[eqAVs_sound h]
  ·exact h.elim
 ·subst h;rfl
 ·split at h
  ·rename_i hk;subst hk;subst h;rfl
  ·exact h.elim
 ·rfl
 ·split at h
  ·rename_i hk;subst hk;subst h;rfl
  ·exact h.elim
 ·exact h
 ·exact h.elim
def lx (p:Nat) (Ht:ON Box):AV->AV->Prop
 |.full a,.vec l b =>
  match Ht[l]? with
  |some (.vec n _)=>a=b/\a.length<=n
  |_=>NL
 |.d x,.d y=>eqAV (.d x) (.d y)
 |a,.d y =>
  match avD a with
  |some x=>eqAV (.d x) (.d y)
  |none=>NL
 |a,b=>if b.under p then eqAV a b else NL
def sA (p:Nat) (Ht:ON Box):ON AV->ON AV->Prop
 |[],[]=>OG
 |a::r,b::s=>lx p Ht a b/\sA p Ht r s
 |_,_=>NL
def r6 (p:Nat) (Ht:ON Box):Box->Box->Prop
 |.cells T cs,.cells T' cs'=>if T=T' then sA p Ht cs cs' else NL
 |x,y=>if y.under p then eqBox x y else NL
def WS (p:Nat) (Ht:ON Box):ON AV->ON AV->Prop
 |[],[]=>OG
 |a::r,b::s =>
  match b with
  |.any=>WS p Ht r s
  |b=>lx p Ht a b/\WS p Ht r s
 |_,_=>NL
def Tb (p:Nat) (Ht:ON Box):ON Box->ON Box->Prop
 |_,[]=>OG
 |x::r,y::s=>r6 p Ht x y/\Tb p Ht r s
 |[],.vec _ _::s=>Tb p Ht [] s
 |[],_::_=>NL
def Wk (n:Nat) (tm:ON AV) (H:ON Box) (tm':ON AV) (H':ON Box):Prop :=if decide (n<=min H.length H'.length)&&(H.take (min H.length H'.length)).all (Kd (min H.length H'.length))then WS (min H.length H'.length) H' tm tm'/\Tb (min H.length H'.length) H' H H' else NL
theorem cV {p:Nat}{Ht:ON Box}{a b:AV}(h:lx p Ht a b):(a=b/\b.under p=true)∨(∃ds l n sz,a = .full ds/\b = .vec l ds/\Ht[l]? = some (.vec n sz)/\ds.length<=n)∨(∃x,b = .d x/\avD a=some x):=by
 unfold lx at h;split at h
 ·split at h
  ·rename_i n sz hn;obtain⟨rfl,h2⟩:=h;exact .inr (.inl ⟨_,_,n,sz,rfl,rfl,hn,h2⟩)
  ·exact h.elim
 ·have:=s3 h;cases this;exact .inl ⟨rfl,rfl⟩
 ·split at h
  ·rename_i x hx;have:=s3 h;cases this;exact .inr (.inr ⟨_,rfl,hx⟩)
  ·exact h.elim
 ·split at h
  ·rename_i hu;exact .inl ⟨s3 h,hu⟩
  ·exact h.elim
theorem lw {p:Nat}{Ht H:ON Box}{c c1:Cx}{w:N4}{a b:AV}{v:Value}(h:lx p Ht a b) (heq:∀a,a.under p=true->RA c H w a v->RA c1 Ht w a v) (hf:∀ds ad m,R1 c.I c.J w (.slice ad m m) (.sl ds)->R1 c1.I c1.J w (.slice ad m m) (.sl ds)) (hr:RA c H w a v):RA c1 Ht w b v:=by
 rcases cV h with⟨rfl,hu⟩|⟨ds,l,n,sz,rfl,rfl,hH,hn⟩|⟨x,rfl,hx⟩
 ·exact heq a hu hr
 ·cases hr with
  |full h=>exact .vec (hf _ _ _ h) hH hn (λ_=>.inl rfl)
 ·exact heq (.d x) rfl (.d (wj hr hx))
theorem pS {p:Nat}{Ht:ON Box}{c c1:Cx}{H:ON Box}{w:N4}{tmps:OC Value}(heq:∀a v,a.under p=true->RA c H w a v->RA c1 Ht w a v) (hf:∀ds ad m,R1 c.I c.J w (.slice ad m m) (.sl ds)->R1 c1.I c1.J w (.slice ad m m) (.sl ds)):∀{vs:ON Value}{tm tm':ON AV},WS p Ht tm tm'->z8 (λv a=>yA c H w tmps a v) vs tm->(∀g p x,AV.opt g p x∉tm')->z8 (λv a=>yA c1 Ht w tmps a v) vs tm'
 |vs,[],[],_,h,_=>by have:=h.nil_right;subst this;exact Mh
 |vs,a::r,b::s,h,h2,hno=>by
  obtain⟨v,vs',rfl,h3,h4⟩:=h2.cons_right;have hno' :∀g p x,AV.opt g p x∉s:=λg p x hx=>hno g p x (by simp[hx]);simp only[WS]at h;split at h
  ·exact M8 (RA.any v) (pS heq hf h h4 hno')
  ·rename_i b' hb;refine M8 ?_ (pS heq hf h.2 h4 hno');have hra:RA c H w a v:=by
    rcases cV h.1 with⟨rfl,_⟩|⟨ds,l,n,sz,rfl,rfl,_,_⟩|⟨x,rfl,hx⟩
    ·cases a<;>first
      |exact h3
      |exact No (IW) (hno _ _ _)
    ·exact h3
    ·cases a<;>first
      |exact h3
      |(simp[avD,avD1]at hx;done)
   have:=lw (c:=c) (H:=H) h.1 (λa hu hr=>heq a v hu hr) hf hra;cases b<;>first
    |exact this
    |exact No (IW) (hno _ _ _)
 |vs,[],_::_,h,_,_=>h.elim
 |vs,_::_,[],h,_,_=>h.elim
theorem oQ {p:Nat}{Ht:ON Box}{c c1:Cx}{H:ON Box}{w:N4}(heq:∀a v,a.under p=true->RA c H w a v->RA c1 Ht w a v) (hf:∀ds ad m,R1 c.I c.J w (.slice ad m m) (.sl ds)->R1 c1.I c1.J w (.slice ad m m) (.sl ds)):∀{vs:ON Value}{aas bs:ON AV},sA p Ht aas bs->z8 (λv a=>RA c H w a v) vs aas->z8 (λv a=>RA c1 Ht w a v) vs bs
 |vs,[],[],_,h=>by have:=h.nil_right;subst this;exact Mh
 |vs,a::r,b::s,h,h2=>by obtain⟨v,vs',rfl,h3,h4⟩:=h2.cons_right;exact M8 (lw h.1 (λa hu hr=>heq a v hu hr) hf h3) (oQ heq hf h.2 h4)
 |vs,[],_::_,h,_=>h.elim
 |vs,_::_,[],h,_=>h.elim
def isVec:Box->Bool
 |.vec _ _=>true
 |_=>false
theorem my {p:Nat}{Ht:ON Box}:∀{H H':ON Box},Tb p Ht H H'->((H'.drop (min H.length H'.length)).all isVec)=true/\∀(i:Nat) x y,H[i]? = some x->H'[i]? = some y->r6 p Ht x y
 |_,[],_=>by simp
 |x::r,y::s,h=>by
  obtain⟨h1,h2⟩:=h;obtain⟨h3,h4⟩:=my h2;refine⟨?_,λi a b ha hb=>?_⟩
  ·have:min (x::r).length (y::s).length=min r.length s.length+1:=by simp only[MO];omega
   rw[this,ON.drop_succ_cons];exact h3
  ·cases i with
   |zero=>simp at ha hb;subst ha;subst hb;exact h1
   |succ i=>simp at ha hb;exact h4 i a b ha hb
 |[],.vec n sz::s,h=>by have h':Tb p Ht [] s:=h;obtain⟨h3,_⟩:=my h';refine⟨?_,λi a b ha hb=>by simp at ha⟩;simp only[LZ,Nat.zero_min,ON.drop_zero]at h3 ⊢;simp[isVec,h3]
 |[],.cells _ _::_,h=>h.elim
 |[],.map _::_,h=>h.elim
 |[],.dead::_,h=>h.elim
 |[],.arr _ _::_,h=>h.elim
 |[],.loop _ _ _ _ _ _::_,h=>h.elim
theorem push_nones:∀(toks:ON Box) {c:Cx}{H:ON Box}{w:N4},(toks.all isVec)=true->HR c H w->HR { c with ρ:=c.ρ++M4 toks.length none } (H++toks) w/\zp c H { c with ρ:=c.ρ++M4 toks.length none } (H++toks)/\Nw c w { c with ρ:=c.ρ++M4 toks.length none } w
 |[],c,H,w,_,h=>by simpa using⟨h,Md c H,L7 c w⟩
 |x::toks,c,H,w,ht,h=>by
  cases x with
  |vec n sz =>
   obtain⟨h1,h2,h3⟩:=Gp (n:=n) (sz:=sz) h;obtain⟨h4,h5,h6⟩:=push_nones toks (by simpa[isVec]using ht) h1;have e1:H++[Lo n sz]++toks=H++(Lo n sz::toks):=by simp
   have e2:c.ρ++[none]++M4 toks.length (none:OK (Nat×Nat))=c.ρ++M4 (Lo n sz::toks).length none:=by rw[JM];rfl
   rw[e1]at h4 h5;simp only[e2]at h4 h5 h6;exact⟨h4,h2.trans h5,h3.trans h6⟩
  |_=>simp[isVec]at ht
def cU (tm:ON AV):Bool:=tm.all λa=>match a with|.opt _ _ _=>false|_=>true
theorem cT {p:Nat}{Ht:ON Box}{x y:Box}(h:r6 p Ht x y):x=y∨ ∃T cs cs',x = .cells T cs/\y = .cells T cs'/\sA p Ht cs cs':=by
 unfold r6 at h;split at h
 ·split at h
  ·rename_i e;subst e;exact .inr ⟨_,_,_,rfl,rfl,h⟩
  ·exact h.elim
 ·split at h
  ·exact .inl (cX h)
  ·exact h.elim
theorem HR.weakenH {c:Cx}{H H':ON Box}{w:N4}(hR:HR c H w) (hund:((H.take (min H.length H'.length)).all (Kd (min H.length H'.length)))=true) (h2:Tb (min H.length H'.length) H' H H'):∃c',HR c' H' w/\Nw c w c' w/\zp c (H.take (min H.length H'.length)) c' H'/\(∀a v,a.under (min H.length H'.length)=true->RA c H w a v->RA c' H' w a v)/\(∀ds ad m,R1 c.I c.J w (.slice ad m m) (.sl ds)->R1 c'.I c'.J w (.slice ad m m) (.sl ds)):=by
 generalize hp:min H.length H'.length=p at *;have hpH:p<=H.length:=by omega
 have hpH':p<=H'.length:=by omega
 obtain⟨h3,h4⟩:=my h2;rw[hp]at h3;have hr0:HR (c.take p) (H.take p) w:=hR.take hund;obtain⟨hr1,kp1,e1⟩:=push_nones (H'.drop p) h3 hr0;generalize hc1:({ c.take p with ρ:=(c.take p).ρ++M4 (H'.drop p).length none }:Cx)=c1 at *;have hI:c1.I=c.I:=by rw[←hc1];rfl
 have hJ:c1.J=c.J:=by rw[←hc1];rfl
 have hlen0:(H.take p).length=p:=by simp;omega
 have hlen1:(H.take p++H'.drop p).length=H'.length:=by simp;omega
 have hbox:∀(l:Nat) y,H'[l]? = some y->∃x,(H.take p++H'.drop p)[l]? = some x/\(x=y∨ ∃T cs cs',x = .cells T cs/\y = .cells T cs'/\sA p H' cs cs'):=by
  intro l y hy;rcases M0 l p with hlt|hge
  ·have hlH:l<H.length:=by omega
   refine⟨H[l],?_,cT (h4 l _ y (by simp[hlH]) hy)⟩;rw[LJ (by omega),zJ hlt];simp[hlH]
  ·refine⟨y,?_,.inl rfl⟩;rw[KT (by omega),hlen0,J0];rw[←hy];congr 1;omega
 have hback:∀(l:Nat) x,(H.take p++H'.drop p)[l]? = some x->∃y,H'[l]? = some y/\(x=y∨ ∃T cs cs',x = .cells T cs/\y = .cells T cs'/\sA p H' cs cs'):=by
  intro l x hx;have hl:l<H'.length:=by
   rcases M0 l H'.length with h' |h'
   ·exact h'
   ·rw[My (by omega)]at hx;cases hx
  obtain⟨x',hx',hrel⟩:=hbox l H'[l] (by simp[hl]);rw[hx]at hx';cases hx';exact⟨H'[l],by simp[hl],hrel⟩
 have kp2:zp c1 (H.take p++H'.drop p) c1 H':=by
  intro l x hx;obtain⟨y,hy,hrel⟩:=hback l x hx;rcases hrel with rfl|⟨T,cs,cs',rfl,rfl,_⟩
  ·cases x<;>simp only[hy]<;>simp
  ·exact⟨⟨cs',hy⟩,rfl⟩
 have heq1:∀a v,RA c1 (H.take p++H'.drop p) w a v->RA c1 H' w a v:=λa v hr=>hr.ext (L7 _ _) kp2;have hr2:HR c1 H' w:=by
  refine⟨by rw[hr1.len,hlen1],hr1.inj,?_,?_,hr1.lt,hr1.ilt,hr1.jlt,?_,hr1.jap⟩
  ·intro l b k y hρ hy;obtain⟨x,hx,hrel⟩:=hbox l y hy;have hb:=hr1.box l b k x hρ hx;rcases hrel with rfl|⟨T,cs,cs',rfl,rfl,hcs⟩
   ·exact hb.ext (L7 _ _) kp2 rfl
   ·obtain⟨vs,g1,g2⟩:=hb;exact⟨vs,g1,oQ (c:=c1) (H:=H.take p++H'.drop p) (λa v _ hr=>heq1 a v hr) (λ_ _ _ h=>h) hcs g2⟩
  ·intro l y hρ hy;obtain⟨x,hx,hrel⟩:=hbox l y hy;have:=hr1.non l x hρ hx;rcases hrel with rfl|⟨T,cs,cs',rfl,rfl,hcs⟩
   ·exact this
   ·rcases this with⟨_,_,h⟩|h<;>cases h
  ·intro b o l k hi hρ;obtain⟨n',sz,g1,g2⟩:=hr1.iap b o l k hi hρ;obtain⟨y,hy,hrel⟩:=hback l _ g1;rcases hrel with rfl|⟨T,cs,cs',h',_,_⟩
   ·exact⟨n',sz,hy,g2⟩
   ·cases h'
 have eAll:Nw c w c1 w:=(Jj c w p).trans e1;refine⟨c1,hr2,eAll,?_,λa v hu hr=>heq1 a v ((hr.take hu).ext e1 kp1),λds ad m h=>by rw[hI,hJ];exact h⟩;have kp0:zp c (H.take p) (c.take p) (H.take p):=by
  intro l x hx;have hk:=(zS hx).1;have e2:(c.take p).ρ[l]? = c.ρ[l]? :=by show(c.ρ.take _)[l]? = _;rw[zJ hk]
  cases x<;>simp only[hx,e2]<;>simp
 exact(kp0.trans kp1).trans kp2
def Yn (P:Ng):Box->OK (TypeId×ON D×Nat)
 |.cells T [.full ds] =>
  match P.underlying T with
  |some (.slice E)=>(xq P E).map λsz=>(T,ds,sz)
  |_=>none
 |_=>none
theorem WR {P:Ng}{x:Box}{T:TypeId}{ds:ON D}{sz:Nat}(h:Yn P x=some (T,ds,sz)):x = .cells T [.full ds]:=by
 unfold Yn at h;split at h
 ·split at h
  ·rename_i E _;cases hs:xq P E with
   |none=>rw[hs]at h;cases h
   |some n=>rw[hs]at h;cases h;rfl
  ·cases h
 ·cases h
def pR (P:Ng):Nat->ON Box->ON Box×ON Box
 |_,[]=>([],[])
 |t,x::r =>
  match Yn P x with
  |some (T,ds,sz)=>(.cells T [.vec t ds]::(pR P (t+1) r).1,.vec ds.length sz::(pR P (t+1) r).2)
  |none=>(x::(pR P t r).1,(pR P t r).2)
def j4 (P:Ng) (H:ON Box):ON Box:=(pR P H.length H).1++(pR P H.length H).2
theorem gx (a:AV):eqAV a a:=by unfold eqAV;split<;>simp_all
theorem eqAVs_refl:∀(l:ON AV),eqAVs l l
 |[]=>trivial
 |a::l=>⟨gx a,eqAVs_refl l⟩
theorem aJ (x:Box):eqBox x x:=by cases x<;>simp[eqBox,eqAVs_refl]
theorem aI {p:Nat}{Ht:ON Box}(x:AV) (hx:x.under p=true):lx p Ht x x:=by cases x<;>simp only[lx,hx,if_true]<;>exact gx _
theorem lv {p:Nat}{Ht:ON Box}:∀{l:ON AV},Km p l=true->sA p Ht l l
 |[],_=>trivial
 |a::l,h=>by simp only[Km,NK]at h;exact⟨aI a h.1,lv h.2⟩
theorem cS {p:Nat}{Ht:ON Box}{x:Box}(h:x.under p=true):r6 p Ht x x:=by
 cases x with
 |cells T cs=>simp only[r6,if_true];exact lv h
 |_=>simp only[r6,h,if_true];exact aJ _
theorem cR (P:Ng):∀(t:Nat) (H:ON Box),(pR P t H).1.length=H.length
 |_,[]=>rfl
 |t,x::r=>by simp only[pR];split<;>simp[cR P _ r]
theorem cQ (P:Ng):∀(t:Nat) (H:ON Box),((pR P t H).2.all isVec)=true
 |_,[]=>rfl
 |t,x::r=>by simp only[pR];split<;>simp[cQ P _ r,isVec]
theorem cP {p:Nat}{Ht:ON Box}:∀(toks:ON Box),(toks.all isVec)=true->Tb p Ht [] toks
 |[],_=>trivial
 |x::toks,h=>by
  cases x with
  |vec n sz=>exact cP toks (by simpa[isVec]using h)
  |_=>simp[isVec]at h
theorem fS {P:Ng}{p:Nat}{Ht:ON Box}(more:ON Box) (hmore:(more.all isVec)=true):∀(t:Nat) (H:ON Box),(H.all (Kd p))=true->(∀(i:Nat) x,(pR P t H).2[i]? = some x->Ht[t+i]? = some x)->Tb p Ht H ((pR P t H).1++more)
 |_,[],_,_=>by simpa[pR]using cP more hmore
 |t,x::r,hu,ht=>by
  simp only[ON.all_cons,NK]at hu;cases hx:Yn P x with
  |none =>
   simp only[pR,hx]at ht ⊢;exact⟨cS hu.1,fS more hmore t r hu.2 ht⟩
  |some q =>
   obtain⟨T,ds,sz⟩:=q;have:=WR hx;subst this;simp only[pR,hx]at ht ⊢;refine⟨?_,fS more hmore (t+1) r hu.2 λi x hx=>?_⟩
   ·have h0:=ht 0 (.vec ds.length sz) (by simp);simp only[Jm]at h0;simp only[r6,if_true,sA,lx];rw[h0];simp
   ·have:=ht (i+1) x (by simpa using hx);rw[←this];congr 1;omega
theorem HR.tok {P:Ng}{c:Cx}{H:ON Box}{w:N4}(hR:HR c H w) (hu:(H.all (Kd H.length))=true):∃c',HR c' (j4 P H) w/\Nw c w c' w/\zp c H c' (j4 P H)/\(∀a v,a.under H.length=true->RA c H w a v->RA c' (j4 P H) w a v):=by
 have hlen:=cR P H.length H;have hmin:min H.length (j4 P H).length=H.length:=by simp only[j4,Kb];omega
 have hw:Tb (min H.length (j4 P H).length) (j4 P H) H (j4 P H):=by rw[hmin];refine fS _ (cQ P _ _) H.length H hu λi x hx=>?_;unfold j4;rw[KT (by omega)];rw[←hx];congr 1;omega
 obtain⟨c',h1,h2,h3,h4,_⟩:=hR.weakenH (by rw[hmin,La];exact hu) hw;rw[hmin,La]at h3;rw[hmin]at h4;exact⟨c',h1,h2,h3,h4⟩
def hasTag:ON (Nat×Bool)->Nat->Bool->Bool
 |[],_,_=>false
 |(g,p)::r,g',p'=>(decide (g=g')&&(p==p'))||hasTag r g' p'
def dull:AV->AV
 |.opt _ _ _=>.any
 |a=>a
def yr (tags:ON (Nat×Bool)) (tm:ON AV) (t:Nat):AV :=match tm.getD t .any with
 |.opt g p x=>if hasTag tags g p then dull x else .any
 |a=>a
def Rj (d:Nat):AV->AV
 |.opt g p x=>if g=d then .any else .opt g p x
 |a=>a
def yk (tm:ON AV) (d:OK Nat) (a:AV):ON AV :=match d with
 |some d=>(tm.map (Rj d)).set d a
 |none=>tm
def za (tm:ON AV):ON AV:=tm.map dull
def exSh:Sh->(D->Prop)->Prop
 |.int k,K=>∃n,K (.int k n)
 |.bool,K=>∃b,K (.bool b)
 |.str,K=>∃s,K (.str s)
 |.sl,K=>∃l,K (.sl l)
 |.fn,K=>∃f,K (.fn f)
def exShs:ON Sh->(ON D->Prop)->Prop
 |[],K=>K []
 |s::r,K=>exSh s λd=>exShs r λds=>K (d::ds)
def Ta (P:Ng) (T:TypeId) (K:D->Prop):Prop :=match vL P 9 T,uR P T with
 |some shs,some ag=>exShs shs λcs=>K (aZ ag cs)
 |_,_=>NL
def oP (P:Ng):ON TypeId->(ON D->Prop)->Prop
 |[],K=>K []
 |T::r,K=>Ta P T λd=>oP P r λds=>K (d::ds)
theorem Xe {s:Sh}{K:D->Prop}(h:exSh s K):∃d,K d:=by cases s<;>obtain⟨x,hx⟩:=h<;>exact⟨_,hx⟩
theorem exShs_some:∀{l:ON Sh}{K:ON D->Prop},exShs l K->∃ds,K ds
 |[],_,h=>⟨[],h⟩
 |s::r,K,h=>by obtain⟨d,hd⟩:=Xe h;obtain⟨ds,hds⟩:=exShs_some hd;exact⟨_,hds⟩
theorem Xd {P T} {K:D->Prop}(h:Ta P T K):∃d,K d:=by
 unfold Ta at h;split at h
 ·obtain⟨ds,hds⟩:=exShs_some h;exact⟨_,hds⟩
 ·exact h.elim
theorem xP {P}:∀{l:ON TypeId}{K:ON D->Prop},oP P l K->∃ds,K ds
 |[],_,h=>⟨[],h⟩
 |T::r,K,h=>by obtain⟨d,hd⟩:=Xd h;obtain⟨ds,hds⟩:=xP hd;exact⟨_,hds⟩
def resAV:ON D->AV
 |[d]=>.d d
 |ds=>.tup (ds.map .d)
def s5 (P:Ng) (f:Nat):Bool :=match P.funcs[f]? with
 |some fn=>!(fn.name == "runtime.NumGoroutine")&&fn.body.isSome
 |none=>false
def aH (P:Ng) (f:Nat):ON TypeId:=((P.funcs[f]?).map λfn=>fn.resultTypes.toList).getD []
def calleeAV:AV->OK (Nat×ON AV×ON AV)
 |.clo f a b=>some (f,a,b)
 |.d (.fn f)=>some (f,[],[])
 |_=>none
def qA (e:NF->AV):Op->Bool
 |.move _=>true
 |.assign _=>true
 |.load _ x=>match e x with
  |.eptr _ _ _=>false
  |_=>true
 |.fieldAddr _ _ _=>true
 |.unOp _ _ _=>true
 |.extract _ _=>true
 |.build _ _=>true
 |.buildSlice _ _ _=>true
 |.makeFunc _ _ _=>true
 |.nilCheck _=>true
 |.convert _ _ _=>true
 |.call _=>true
 |.binOp op _ x _ _=>match op with
  |.quo=>false
  |.rem=>false
  |.shl=>false
  |.shr=>false
  |.add=>match avD (e x)with
   |some (.int _ _)=>true
   |_=>false
  |_=>true
 |_=>false
def htriv:Op->Bool
 |.alloc _=>true
 |.box _ _=>true
 |.store _ _ _=>true
 |.makeMap _ _=>true
 |_=>false
theorem Xc {P op T x y r F} (h:aX P op T x y=some (r,F)) (h1:op ≠ .quo) (h2:op ≠ .rem) (h3:op ≠ .shl) (h4:op ≠ .shr) (h5:op = .add->∃k n,x = .int k n):F:=by
 unfold aX at h;split at h
 ·split at h
  ·exact No rfl h3
  ·exact No rfl h4
  ·split at h
   ·cases op<;>simp only[Tg,Se,Ly,Kq]at h<;>first|exact No rfl h1|exact No rfl h2|(cases h;trivial)|cases h
   ·cases h
 ·cases op<;>simp only[Tf]at h<;>first|(obtain⟨k,n,hk⟩:=h5 rfl;cases hk;done)|(cases h;trivial)|cases h
 ·split at h
  ·cases op<;>simp only[aY]at h<;>first|(cases h;trivial)|cases h
  ·cases h
 ·split at h
  ·rename_i xs ys _;cases hr:yE P xs ys (P.fieldsOf T).toList with
   |none=>rw[hr]at h;cases h
   |some b =>
    rw[hr]at h;simp only[Iv]at h;cases op<;>simp only[aY]at h<;>first|(cases h;trivial)|cases h
  ·cases h
 ·cases h
theorem r7 {α β:Type}{o:OK α}{f:α->β}{b:β}{F:Prop}(h:(o.map λx=>(f x,OG))=some (b,F)):F:=by
 cases o with
 |none=>simp at h
 |some x=>cases h;trivial
theorem Xb {P e H o a F} (h:xa P e H o=some (a,F)) (ht:qA e o=true):F:=by
 cases o with
 |move=>cases h;trivial
 |assign=>cases h;trivial
 |load T x =>
  simp only[xa]at h;split at h
  ·split at h
   ·exact r7 (f:=id) h
   ·cases h
  ·exact r7 (f:=id) h
  ·cases h
 |fieldAddr T x f =>
  simp only[xa]at h;repeat (first|(cases h;trivial)|(cases h;done)|split at h)
 |unOp op T x =>
  cases op<;>simp only[xa]at h
  all_goals (repeat (first|(cases h;trivial)|(cases h;done)|split at h))
 |extract t i =>
  simp only[xa]at h;split at h
  ·exact r7 (f:=id) h
  ·cases h
 |build T parts =>
  simp only[xa]at h;split at h
  ·exact r7 (f:=id) h
  ·cases h
 |buildSlice T n parts =>
  simp only[xa]at h;repeat (first|(cases h;trivial)|(cases h;done)|split at h)
 |makeFunc fn a b =>
  cases fn<;>simp only[xa]at h<;>first|(cases h;trivial)|cases h
 |nilCheck x =>
  simp only[xa]at h;repeat (first|(cases h;trivial)|(cases h;done)|split at h)
 |convert S T x =>
  simp only[xa]at h;repeat (first|(cases h;trivial)|(cases h;done)|split at h)
 |call c =>
  obtain⟨callee,args,types⟩:=c;cases callee with
  |value f=>simp[xa]at h
  |invoke a b=>simp[xa]at h
  |builtin b =>
   cases b<;>first|(simp[xa]at h;done)|skip
   ·simp only[xa]at h;split at h
    ·split at h
     ·cases h;trivial
     ·exact r7 h
     ·cases h
    ·cases h
   ·simp only[xa]at h;repeat (first|(cases h;trivial)|(cases h;done)|split at h)
 |binOp op T x y yT =>
  simp only[xa]at h;split at h
  ·cases h;trivial
  split at h
  ·rename_i p q hx hy;cases hb:aX P op T p q with
   |none=>rw[hb]at h;cases h
   |some r =>
    rw[hb]at h;cases h;refine Xc (r:=r.1) (F:=r.2) hb ?_ ?_ ?_ ?_ ?_
    ·intro e';subst e';simp[qA]at ht
    ·intro e';subst e';simp[qA]at ht
    ·intro e';subst e';simp[qA]at ht
    ·intro e';subst e';simp[qA]at ht
    ·intro e';subst e';simp only[qA,hx]at ht;split at ht
     ·rename_i k n hkn;cases hkn;exact⟨k,n,rfl⟩
     ·simp at ht
  ·cases h
 |_=>simp[qA]at ht
theorem Xa {P e H o a F} (h:tB P e H o=some (a,F)) (ht:qA e o=true):F:=by
 cases o with
 |load T x =>
  simp only[tB]at h;simp only[qA]at ht;split at h
  ·rename_i hx;rw[hx]at ht;cases ht
  ·cases h
 |fieldAddr T x f =>
  simp only[tB]at h;repeat (first|(cases h;trivial)|(cases h;done)|split at h)
 |call cc =>
  obtain⟨callee,args,types⟩:=cc;cases callee with
  |builtin b =>
   cases b<;>first|(simp[tB]at h;done)|skip
   all_goals
    simp only[tB]at h;repeat' (first|(focus (cases h;trivial))|(focus (cases h;done))|split at h)
  |_=>simp[tB]at h
 |slice T x lo hi mx=>simp[qA]at ht
 |indexAddr T x i=>simp[qA]at ht
 |field T x f=>simp[qA]at ht
 |makeSlice T x y=>simp[qA]at ht
 |_=>simp[tB]at h
theorem WQ {P e H o a F} (h:aP P e H o=some (a,F)) (ht:qA e o=true):F:=by
 unfold aP at h;split at h
 ·rename_i q hq;cases h;exact Xa hq ht
 ·exact Xb h ht
theorem XZ {P e H o a H' F} (h:vg P e H o=some (a,H',F)) (ht:htriv o=true):F:=by
 cases o with
 |alloc T =>
  simp only[vg]at h;cases hz:yo P T with
  |none=>rw[hz]at h;cases h
  |some z=>rw[hz]at h;cases h;trivial
 |box T x =>
  simp only[vg]at h;cases hz:avCells (e x)with
  |none=>rw[hz]at h;cases h
  |some z=>rw[hz]at h;cases h;trivial
 |store T x y =>
  simp only[vg]at h;repeat (first|(cases h;trivial)|(cases h;done)|split at h)
 |makeMap T r =>
  cases r<;>simp only[vg]at h<;>first|(cases h;trivial)|cases h
 |_=>simp[htriv]at ht
def r8 (P:Ng) (e:NF->AV) (H:ON Box) (op:Op) (tags:ON (Nat×Bool)) (C:Prop) (K:AV->ON Box->Prop):Prop :=match aP P e H op with
 |some (av,F)=>if qA e op then K av H else
  match tags with
  |[]=>F/\K av H
  |_::_=>(C->F)/\K av H
 |none =>
  match tags with
  |[]=>match vg P e H op with
   |some (av,H',F)=>if htriv op then K av H' else F/\K av H'
   |none=>NL
  |_::_=>NL
def s6 (aas:ON AV) (H:ON Box):Nat:=St H 4 (AV.tops aas)
def gw (n:Nat) (aas:ON AV) (H:ON Box):Bool:=decide (n<=H.length)&&Km n aas&&(H.take n).all (Kd n)
def normA (a:AV):AV :=match avD a with
 |some x=>.d x
 |none=>a
def cO (P:Ng) (G:Nat->OK (ON D)) (k:Nat) (aas:ON AV) (H:ON Box) (K:AV->ON Box->Prop):Prop :=if gw (s6 aas H) aas H then PCall P G k aas (H.take (s6 aas H)) λrs H'=>H'=H.take (s6 aas H)/\oP P (aH P k) λds'=>rs=ds'/\K (resAV ds') H else NL
def WP (P:Ng) (G:Nat->OK (ON D)) (k:Nat) (aas:ON AV) (H:ON Box) (K:AV->ON Box->Prop):Prop :=if gw (s6 aas H) aas H then PCall P G k aas (H.take (s6 aas H)) λrs H'=>oP P (aH P k) λds'=>rs=ds'/\exH (H.take (s6 aas H)) λH''=>H'=H''/\K (resAV ds') (H''++H.drop (s6 aas H))else NL
def WO (P:Ng) (G:Nat->OK (ON D)) (e:NF->AV) (f:NF) (args:OC NF) (T:TypeId) (H:ON Box) (K:AV->ON Box->Prop):Prop :=match e f with
 |.fsym o =>
  match (args.toList.map e).mapM avD with
  |some ds=>∃k,o=some k/\s5 P k=true/\PFn P G k ds λrs=>oP P [T] λds'=>rs=ds'/\K (resAV ds') H
  |none=>NL
 |_=>NL
def pQ (P:Ng) (G:Nat->OK (ON D)) (o:Nu) (tags:ON (Nat×Bool)) (C:Prop) (tm:ON AV) (H:ON Box) (K:AV->ON Box->Prop):Prop :=match o.op with
 |.pick (.tmp g) a b =>
  match yr tags tm g,ev G (yr ((g,true)::tags) tm) a,ev G (yr ((g,false)::tags) tm) b with
  |.d (.bool t),.d (.bool x),.d (.bool y)=>K (.d (.bool (bif t then x else y))) H
  |_,_,_=>NL
 |.call { callee:= .value f,args,argTypes:=_ } =>
  match calleeAV (ev G (yr tags tm) f)with
  |some (k,fi,ca) =>
   if s5 P k then
    match (fi++args.toList.map (ev G (yr tags tm))++ca).mapM avD with
    |some ds=>PFn P G k ds λrs=>oP P (aH P k) λds'=>rs=ds'/\K (resAV ds') H
    |none=>cO P G k ((fi++args.toList.map (ev G (yr tags tm))++ca).map normA) H K
   else NL
  |none=>WO P G (ev G (yr tags tm)) f args o.type H K
 |op=>r8 P (ev G (yr tags tm)) H op tags C K
def WN (P:Ng) (G:Nat->OK (ON D)) (k:Nat) (aas:ON AV) (H:ON Box) (K:AV->ON Box->Prop):Prop :=if H.all (Kd H.length)&&Km H.length aas then WP P G k aas (j4 P H) K else NL
def lJ (e:NF->AV):Op->OK (Nat×ON AV)
 |.call { callee:= .value f,args,argTypes:=_ } =>
  match e f with
  |.yld l=>some (l,(args.toList.map e).map normA)
  |_=>none
 |_=>none
def fR (P:Ng) (G:Nat->OK (ON D)) (l:Nat) (aas:ON AV) (H:ON Box) (K:AV->ON Box->Prop):Prop :=if gw (s6 (.yld l::aas) H) (.yld l::aas) H then PYield P G l aas (H.take (s6 (.yld l::aas) H)) λrs H'=>∃b,rs=[.bool b]/\exH (H.take (s6 (.yld l::aas) H)) λH''=>H'=H''/\K (.d (.bool b)) (H''++H.drop (s6 (.yld l::aas) H))else NL
def argA (e:NF->AV):NF->AV
 |.const (.slice none 0 0)=>.nils
 |x=>normA (e x)
def WM (P:Ng) (e:NF->AV) (op:Op):OK (Nat×ON AV) :=match op with
 |.call { callee:= .value f,args,argTypes:=_ } =>
  match calleeAV (e f)with
  |some (k,fi,ca) =>
   if s5 P k then
    match (fi++args.toList.map e++ca).mapM avD with
    |some _=>none
    |none=>some (k,fi.map normA++args.toList.map (argA e)++ca.map normA)
   else none
  |none=>none
 |_=>none
open Go.Sx renaming argA->GK,normA->B6
section
variable {P:Ng}{G:Nat->OK (ON D)}{nb:Nat}{rd:OK Nat}{c:Cx}{H:ON Box}{w:N4}{tm:ON AV}{a:NI}
def uo (tmps:OC Value) (tags:ON (Nat×Bool)):Prop:= ∀g p,hasTag tags g p=true->tmps[g]? = some (.bool p)
theorem uo.cons {tmps:OC Value}{tags:ON (Nat×Bool)}{g:Nat}{p:Bool}(h:uo tmps tags) (hg:tmps[g]? = some (.bool p)):uo tmps ((g,p)::tags):=by
 intro g' p' h';simp only[hasTag,L4,NK,NR,beq_iff_eq]at h';rcases h' with⟨rfl,rfl⟩|h'
 ·exact hg
 ·exact h g' p' h'
theorem RA.dull {x:AV}{v:Value}(h:RA c H w x v):RA c H w (dull x) v:=by cases x<;>first|exact h|exact .any v
theorem s7 {tags:ON (Nat×Bool)}(hR:M5 G nb c H w tm a) (ht:uo a.tmps tags) (t:Nat):RA c H w (yr tags tm t) (a.tmps.getD t undef):=by
 unfold yr;rw[LB];cases hx:tm[t]? with
 |none=>simp;exact .any _
 |some x =>
  obtain⟨v,hv,hs⟩:=hR.tm.get hx;have hv':a.tmps.getD t undef=v:=by simp only[KA]at hv;simp[Lk,hv]
  rw[hv'];simp only[Li];cases x<;>simp only[yA]at hs<;>first
   |exact hs
   |skip
  rename_i g p y;simp only;split
  ·rename_i htag;exact(hs.1 (ht g p htag)).dull
  ·exact .any _
theorem yW {tags:ON (Nat×Bool)}(hR:M5 G nb c H w tm a) (ht:uo a.tmps tags) (x:NF):RA c H w (ev G (yr tags tm) x) (a.eval x):=by
 cases x with
 |tmp t=>exact s7 hR ht t
 |const v =>
  simp only[ev,F6];split
  ·exact .full .nil
  ·exact .nilf
  ·split
   ·rename_i y hy;exact .d (kP hy)
   ·exact .any _
 |global g =>
  simp only[ev,F6];split
  ·rename_i cs hg;exact .iptr λj y hy=>by simpa using hR.gr g cs hg j y hy
  ·exact .any _
 |func f=>exact .d (R1.fn f)
theorem mapM_avD:∀{aas:ON AV}{ds:ON D}{vs:ON Value},aas.mapM avD=some ds->z8 (λv a=>RA c H w a v) vs aas->z8 (RV c.I c.J w) vs ds
 |[],ds,vs,h,h2=>by simp at h;subst h;have:=h2.nil_right;subst this;exact Mh
 |a::aas,ds,vs,h,h2=>by
  rw[Jq]at h;cases ha:avD a with
  |none=>rw[ha]at h;simp at h
  |some x =>
   rw[ha]at h;cases hr:aas.mapM avD with
   |none=>rw[hr]at h;simp at h
   |some xs =>
    rw[hr]at h;simp at h;subst h;obtain⟨v,vs',rfl,h3,h4⟩:=h2.cons_right;exact M8 (wj h3 ha) (mapM_avD hr h4)
theorem z8.map_ev {e:NF->AV}{r:NF->Value}(he:∀x,RA c H w (e x) (r x)):∀(l:ON NF),z8 (λv a=>RA c H w a v) (l.map r) (l.map e)
 |[]=>Mh
 |x::l=>M8 (he x) (z8.map_ev he l)
theorem wZ {r:NF->Value}{f:NF}{args:OC NF}{types:OC TypeId}{o:Nu}{k:Nat}{fv cv:ON Value}(ho:o.op = .call { callee:= .value f,args,argTypes:=types }) (hf:r f = .func (.func k) fv.toArray cv.toArray) (hok:s5 P k=true):(execOp r o).run P w = .ok (.enter k (fv++args.toList.map r++cv).toArray) w:=by
 unfold s5 at hok;cases hfn:P.funcs[k]? with
 |none=>rw[hfn]at hok;simp at hok
 |some fn =>
  rw[hfn]at hok;simp only[NK,Bool.not_eq_true']at hok;obtain⟨h1,h2⟩:=hok;have h3:fn.body.isNone=false:=by cases hb:fn.body with
   |none=>rw[hb]at h2;simp at h2
   |some b=>rfl
  have ha:fv.toArray++args.map r++cv.toArray=(fv++args.toList.map r++cv).toArray:=by apply Lm;simp
  simp only[execOp,ho,resolve,Ms,hf,E3,MV,Mt,invoke,callFunc,run_program,hfn,h1,LH,if_false,h3];rw[ha]
theorem lI {c':Cx}{H':ON Box}{w':N4}{v:Value}{rs:ON D}(h:fT c'.I c'.J w' v rs):RA c' H' w' (resAV rs) v:=by
 match rs with
 |[d]=>exact .d h
 |[] =>
  obtain⟨vs,rfl,h2⟩:=h;exact .tup (by simpa using h2.1.symm) (λi a v ha hv=>by simp at ha)
 |d1::d2::r =>
  obtain⟨vs,rfl,h2⟩:=h;refine .tup (by simpa using h2.1.symm) (λi a v ha hv=>?_);simp only[M6]at ha;cases hx:(d1::d2::r)[i]? with
  |none=>rw[hx]at ha;simp at ha
  |some y=>rw[hx]at ha;simp at ha;subst ha;exact .d (h2.2 i v y hv hx)
theorem xO {tags:ON (Nat×Bool)}{f:NF}{args:OC NF}{k:Nat}{fi ca:ON AV}(he:∀x,RA c H w (ev G (yr tags tm) x) (a.eval x)) (hcal:calleeAV (ev G (yr tags tm) f)=some (k,fi,ca)):∃fv cv:ON Value,a.eval f = .func (.func k) fv.toArray cv.toArray/\z8 (λv a=>RA c H w a v) (fv++args.toList.map a.eval++cv) (fi++args.toList.map (ev G (yr tags tm))++ca):=by
 have hf:=he f;obtain⟨fv,cv,hfv,hfi,hca⟩:∃fv cv:ON Value,a.eval f = .func (.func k) fv.toArray cv.toArray/\z8 (λv a=>RA c H w a v) fv fi/\z8 (λv a=>RA c H w a v) cv ca:=by
  generalize a.eval f=vf at *;generalize ev G (yr tags tm) f=ef at *;cases hf with
  |@clo f' fi' ca' fv cv hl1 hl2 h1 h2 =>
   simp[calleeAV]at hcal;obtain⟨rfl,rfl,rfl⟩:=hcal;exact⟨fv,cv,rfl,⟨hl1.symm,λi v a hv ha=>h1 i a v ha hv⟩,⟨hl2.symm,λi v a hv ha=>h2 i a v ha hv⟩⟩
  |@d y _ hy =>
   cases y<;>simp[calleeAV]at hcal
   obtain⟨rfl,rfl,rfl⟩:=hcal;cases hy;exact⟨[],[],rfl,Mh,Mh⟩
  |_=>simp[calleeAV]at hcal
 exact⟨fv,cv,hfv,(hfi.append (z8.map_ev (e:=ev G (yr tags tm)) (r:=a.eval) he args.toList)).append hca⟩
theorem RA.normA {x:AV}{v:Value}(h:RA c H w x v):RA c H w (normA x) v:=by
 unfold B6;split
 ·rename_i d hd;exact .d (wj h hd)
 ·exact h
theorem z8.normA {aas:ON AV}{vs:ON Value}(h:z8 (λv a=>RA c H w a v) vs aas):z8 (λv a=>RA c H w a v) vs (aas.map B6):=by
 refine⟨by simp[h.1],λi v a hv ha=>?_⟩;simp only[M6]at ha;cases hx:aas[i]? with
 |none=>rw[hx]at ha;cases ha
 |some y=>rw[hx]at ha;cases ha;exact(h.2 i v y hv hx).normA
theorem j5 {n:Nat}{aas:ON AV}{vs:ON Value}(hu:Km n aas=true) (h:z8 (λv a=>RA c H w a v) vs aas):z8 (λv a=>RA (c.take n) (H.take n) w a v) vs aas :=⟨h.1,λi v a hv ha=>(h.2 i v a hv ha).take (xi hu ha)⟩
theorem gu {k:Nat}{aas:ON AV}{vs:ON Value}{Q:ON D->ON Box->Prop}{next:Value->N4->Prop}(hok:gw (s6 aas H) aas H=true) (hr:HR c H w) (hg:GR G c w) (hvs:z8 (λv a=>RA c H w a v) vs aas) (h:PCall P G k aas (H.take (s6 aas H)) Q) (hn:∀v w' c' rs H1,Q rs H1->Nw c w c' w'->zp c H c' (H1++H.drop (s6 aas H))->HR c' (H1++H.drop (s6 aas H)) w'->RA c' (H1++H.drop (s6 aas H)) w' (resAV rs) v->next v w'): Ku P k vs.toArray w λe w'=>∃v,e = .returned v/\next v w':=by unfold gw at hok;simp only[NK,NR]at hok;obtain⟨⟨h1,h2⟩,h3⟩:=hok;refine(h.run (c.take (s6 aas H)) w vs (hr.take h3) (hg.ext (Jj c w _)) (j5 h2 hvs)).mono λen w' hen=>?_;obtain⟨v,rs,c',H1,rfl,hq,hl,hext,hk,hhr,hres⟩:=hen;obtain⟨e2,k2,hr2⟩:=gy h1 hr hext hk hl hhr;exact⟨v,rfl,hn v w' _ rs H1 hq e2 k2 hr2 (lI (c':= { c' with ρ:=c'.ρ++c.ρ.drop (s6 aas H) }) hres)⟩
def aG (c:Cx) (H:ON Box) (w:N4) (a:NI) (o:Nu) (K:AV->ON Box->Prop) (next:NI->N4->Prop):Prop :=∀v w' c' av H',K av H'->Nw c w c' w'->zp c H c' H'->HR c' H' w'->RA c' H' w' av v->next (a.put o.dst v) w'
theorem xh {o:Nu}{k:Nat}{args:OC Value}{next:NI->N4->Prop}{Q:Me->NI->N4->Prop}(hnd:∀d,o.op ≠ .defer d) (h:(execOp a.eval o).run P w = .ok (.enter k args) w) (hc:Ku P k args w λe w'=>∃v,e = .returned v/\next (a.put o.dst v) w'):o.wpIn (wF rd) 0 P a w next Q:=by refine⟨λ_ _=>trivial,?_⟩;rw[KO _ _ _ hnd,h];refine⟨λh=>(by cases h),ly (hc.mono λe w' he=>?_)⟩;obtain⟨v,rfl,hx⟩:=he;exact hx
theorem un {o:Nu}{av:AV}{H':ON Box}{K:AV->ON Box->Prop}{next:NI->N4->Prop}{Q:Me->NI->N4->Prop}(hnd:∀d,o.op ≠ .defer d) (hg:pr P c H w (execOp a.eval o) av H') (hk:K av H') (hn:aG c H w a o K next):o.wpIn (wF rd) 0 P a w next Q:=by
 obtain⟨n,v,w',c',h1,h2,h3,h4,h5,h6⟩:=hg;refine⟨λ_ _=>trivial,?_⟩;rw[KO _ _ _ hnd,h1];rcases h2 with rfl|⟨rfl,rfl⟩
 ·exact hn v w' c' av H' hk h3 h4 h5 h6
 ·exact hn undef w' c' av H' hk h3 h4 h5 h6
theorem aF {e:NF->AV}{o:Op}{r:AV×Prop}(h:aP P e H o=some r):∀d,o ≠ .defer d:=by rintro d rfl;simp[aP,tB,xa]at h
theorem Ym {e:NF->AV}{o:Op}{r:AV×ON Box×Prop}(h:vg P e H o=some r):∀d,o ≠ .defer d:=by rintro d rfl;simp[vg]at h
theorem tc {o:Nu}{tags:ON (Nat×Bool)}{C:Prop}{K:AV->ON Box->Prop}{next:NI->N4->Prop}{Q:Me->NI->N4->Prop}(hR:M5 G nb c H w tm a) (ht:uo a.tmps tags) (hC:C) (h:pQ P G o tags C tm H K) (hn:aG c H w a o K next):o.wpIn (wF rd) 0 P a w next Q:=by
 have he:=yW hR ht;unfold pQ at h;split at h
 ·rename_i g x y hop;split at h
  ·rename_i t p q hg hx hy;have h1:=s7 hR ht g;rw[hg]at h1;have hgb:a.tmps.getD g undef = .bool t:=h1.bool;have hgs:a.tmps[g]? = some (.bool t):=by
    rw[Lk]at hgb;cases ht':a.tmps[g]? with
    |none=>rw[ht']at hgb;simp[undef]at hgb
    |some z=>rw[ht']at hgb;simp at hgb;rw[hgb]
   refine un (av:= .d (.bool (bif t then p else q))) (by rw[hop];intro d hd;cases hd) ?_ h hn;refine ve (v:= .bool (bif t then p else q)) (c':=c) ?_ (L7 _ _) (Md _ _) hR.hr (.d (Kk _));have hev:a.eval (.tmp g) = .bool t:=hgb;cases t with
   |true =>
    have:=yW hR (ht.cons hgs) x;rw[hx]at this;simp[execOp,hop,hev,asBool,this.bool]
   |false =>
    have:=yW hR (ht.cons hgs) y;rw[hy]at this;simp[execOp,hop,hev,asBool,this.bool]
  ·exact h.elim
 ·rename_i f args types hop;split at h
  ·rename_i k fi ca hcal;split at h
   ·rename_i hok;split at h
    ·rename_i ds hds;obtain⟨fv,cv,hfv,hargs⟩:=xO (args:=args) he hcal;have hrv:=mapM_avD hds hargs;refine xh (by rw[hop];intro d hd;cases hd) (wZ hop hfv hok) ?_;have hnil:HR { c with ρ:=[] } [] w:=hR.hr.nil;refine(h.2 { c with ρ:=[] } w _ rfl hnil hR.gr hrv).mono λen w' hen=>?_;obtain⟨v,rs,c',rfl,hq,hρ,hext,hhr,hres⟩:=hen;obtain⟨ds',rfl,hk⟩:=xP hq;obtain⟨e2,k2,h2⟩:=td hR.hr hext hhr;exact⟨v,rfl,hn v w' _ (resAV rs) H hk e2 k2 h2 (lI (c':= { c' with ρ:=c.ρ }) hres)⟩
    ·obtain⟨fv,cv,hfv,hargs⟩:=xO (args:=args) he hcal;unfold cO at h;split at h
     ·rename_i hsee;refine xh (by rw[hop];intro d hd;cases hd) (wZ hop hfv hok) ?_;refine(gu (next:=λv w'=>next (a.put o.dst v) w') hsee hR.hr hR.gr hargs.normA h ?_).mono λen w' hen=>hen
      ·intro v w' c' rs H1 hq e2 k2 hr2 hra;obtain⟨rfl,hq⟩:=hq;obtain⟨ds',rfl,hk⟩:=xP hq;rw[HB]at k2 hr2 hra;exact hn v w' c' (resAV rs) H hk e2 k2 hr2 hra
     ·exact h.elim
   ·exact h.elim
  ·unfold WO at h;split at h
   ·rename_i fo hfs;split at h
    ·rename_i ds hds;obtain⟨k,rfl,hok,h⟩:=h;have hf:=he f;rw[hfs]at hf;have hfv:a.eval f = .func (.func k) ([]:ON Value).toArray ([]:ON Value).toArray:=by generalize a.eval f=fv at hf;cases hf;rfl
     have hargs:=z8.map_ev he args.toList;have hrv:=mapM_avD hds hargs;refine xh (by rw[hop];intro d hd;cases hd) (wZ hop hfv hok) ?_;have hnil:HR { c with ρ:=[] } [] w:=hR.hr.nil;have hrv':z8 (RV c.I c.J w) (([]:ON Value)++args.toList.map a.eval++[]) ds:=by simpa using hrv
     refine(h.2 { c with ρ:=[] } w _ rfl hnil hR.gr hrv').mono λen w' hen=>?_;obtain⟨v,rs,c',rfl,hq,hρ,hext,hhr,hres⟩:=hen;obtain⟨ds',rfl,hk⟩:=xP hq;obtain⟨e2,k2,h2⟩:=td hR.hr hext hhr;exact⟨v,rfl,hn v w' _ (resAV rs) H hk e2 k2 h2 (lI (c':= { c' with ρ:=c.ρ }) hres)⟩
    ·exact h.elim
   ·exact h.elim
 ·unfold r8 at h;split at h
  ·rename_i av F hf;split at h
   ·rename_i htr;exact un (aF hf) (mz hR.hr he (λ_ _ e=>by subst e;rfl) hf (WQ hf htr)) h hn
   ·split at h
    ·exact un (aF hf) (mz hR.hr he (λ_ _ e=>by subst e;rfl) hf h.1) h.2 hn
    ·exact un (aF hf) (mz hR.hr he (λ_ _ e=>by subst e;rfl) hf (h.1 hC)) h.2 hn
  ·split at h
   ·split at h
    ·rename_i av H' F hf;split at h
     ·rename_i htr;exact un (Ym hf) (kB hR.hr he hf (XZ hf htr)) h hn
     ·exact un (Ym hf) (kB hR.hr he hf h.1) h.2 hn
    ·exact h.elim
   ·exact h.elim
theorem RA.argA {e:NF->AV}(he:∀x,RA c H w (e x) (a.eval x)) (x:NF):RA c H w (GK e x) (a.eval x):=by
 unfold GK;split
 ·exact .nils
 ·exact(he x).normA
theorem z8.argA {e:NF->AV}(he:∀x,RA c H w (e x) (a.eval x)) (l:ON NF):z8 (λv a=>RA c H w a v) (l.map a.eval) (l.map (GK e)):=by refine⟨by simp,λi v x hv hx=>?_⟩;rw[M6,KB]at hv hx;obtain⟨y,hy,rfl⟩:=hv;obtain⟨z,hz,rfl⟩:=hx;rw[hy]at hz;cases hz;exact RA.argA he y
theorem fQ {f:NF}{args:OC NF}{k:Nat}{fi ca:ON AV}(he:∀x,RA c H w (ev G (yr [] tm) x) (a.eval x)) (hcal:calleeAV (ev G (yr [] tm) f)=some (k,fi,ca)):∃fv cv:ON Value,a.eval f = .func (.func k) fv.toArray cv.toArray/\z8 (λv a=>RA c H w a v) (fv++args.toList.map a.eval++cv) (fi.map normA++args.toList.map (GK (ev G (yr [] tm)))++ca.map normA):=by
 have hf:=he f;obtain⟨fv,cv,hfv,hfi,hca⟩:∃fv cv:ON Value,a.eval f = .func (.func k) fv.toArray cv.toArray/\z8 (λv a=>RA c H w a v) fv fi/\z8 (λv a=>RA c H w a v) cv ca:=by
  generalize a.eval f=vf at *;generalize ev G (yr [] tm) f=ef at *;cases hf with
  |@clo f' fi' ca' fv cv hl1 hl2 h1 h2 =>
   simp[calleeAV]at hcal;obtain⟨rfl,rfl,rfl⟩:=hcal;exact⟨fv,cv,rfl,⟨hl1.symm,λi v a hv ha=>h1 i a v ha hv⟩,⟨hl2.symm,λi v a hv ha=>h2 i a v ha hv⟩⟩
  |@d y _ hy =>
   cases y<;>simp[calleeAV]at hcal
   obtain⟨rfl,rfl,rfl⟩:=hcal;cases hy;exact⟨[],[],rfl,Mh,Mh⟩
  |_=>simp[calleeAV]at hcal
 exact⟨fv,cv,hfv,(hfi.normA.append (z8.argA he args.toList)).append hca.normA⟩
theorem cM {o:Nu}{k:Nat}{aas:ON AV}{K:AV->ON Box->Prop}{next:NI->N4->Prop}{Q:Me->NI->N4->Prop}(hR:M5 G nb c H w tm a) (hh:WM P (ev G (yr [] tm)) o.op=some (k,aas)) (h:WN P G k aas H K) (hn:aG c H w a o K next):o.wpIn (wF rd) 0 P a w next Q:=by
 have he:=yW (tags:=[]) hR (λg p h=>by simp[hasTag]at h);unfold WM at hh;split at hh
 ·rename_i f args types hop;split at hh
  ·rename_i k' fi ca hcal;split at hh
   ·rename_i hok;split at hh
    ·cases hh
    ·simp only[K0,J5]at hh;obtain⟨rfl,rfl⟩:=hh;obtain⟨fv,cv,hfv,hargsA⟩:=fQ (args:=args) he hcal;unfold WN at h;split at h
     ·rename_i hun;simp only[NK]at hun;obtain⟨c9,hr9,e9,k9,t9⟩:=hR.hr.tok (P:=P) hun.1;have hargs9:z8 (λv a=>RA c9 (j4 P H) w a v) (fv++args.toList.map a.eval++cv) (fi.map normA++args.toList.map (argA (ev G (yr [] tm)))++ca.map normA) :=
       ⟨hargsA.1,λi v a hv ha=>t9 a v (xi hun.2 ha) (hargsA.2 i v a hv ha)⟩
      unfold WP at h;split at h
      ·rename_i hsee;refine xh (by rw[hop];intro d hd;cases hd) (wZ hop hfv hok) ?_;refine(gu (next:=λv w'=>next (a.put o.dst v) w') hsee hr9 (hR.gr.ext e9) hargs9 h ?_).mono λen w' hen=>hen;intro v w' c' rs H1 hq e2 k2 hr2 hra;obtain⟨ds',rfl,hq⟩:=xP hq;obtain⟨H'',rfl,hk⟩:=exH_some hq;exact hn v w' c' (resAV rs) _ hk (e9.trans e2) (k9.trans k2) hr2 hra
      ·exact h.elim
     ·exact h.elim
   ·cases hh
  ·cases hh
 ·cases hh
theorem lu {o:Nu}{tags:ON (Nat×Bool)}{l:Nat}{aas:ON AV}{K:AV->ON Box->Prop}{next:NI->N4->Prop}{Q:Me->NI->N4->Prop}(hR:M5 G nb c H w tm a) (htg:uo a.tmps tags) (hh:lJ (ev G (yr tags tm)) o.op=some (l,aas)) (h:fR P G l aas H K) (hn:aG c H w a o K next):o.wpIn (wF rd) 0 P a w next Q:=by
 have he:=yW (tags:=tags) hR htg;unfold lJ at hh;split at hh
 ·rename_i f args types hop;split at hh
  ·rename_i l' hl';simp only[K0,J5]at hh;obtain⟨rfl,rfl⟩:=hh;have hf:=he f;rw[hl']at hf;generalize hfv:a.eval f=fv at hf;cases hf with
   |@yld _ b k tm' ps asn bd pend st hH hρ =>
   unfold fR at h;split at h
   ·rename_i hsee;generalize hn':s6 (.yld l'::(args.toList.map (ev G (yr tags tm))).map normA) H=n at h hsee;unfold gw at hsee;simp only[NK,NR,Km,AV.under]at hsee;obtain⟨⟨h1,h2,h2'⟩,h3⟩:=hsee;have hargs:z8 (λv a=>RA (c.take n) (H.take n) w a v) (args.toList.map a.eval) ((args.toList.map (ev G (yr tags tm))).map normA):=j5 h2' (z8.map_ev he args.toList).normA;have hρ':(c.take n).ρ[l']? = some (some (b,k)):=by show(c.ρ.take n)[l']? = _;rw[zJ h2];exact hρ
    obtain⟨f2,tmps,asn2,bd2,h4,h5⟩:=h.run (c.take n) w (args.toList.map a.eval) b k (hR.hr.take h3) (hR.gr.ext (Jj c w _)) hρ' hargs;refine⟨λ_ _=>trivial,?_⟩;have hrun:(execOp a.eval o).run P w = .ok (.round b f2 tmps asn2 bd2) w:=by
     have e1:args.map a.eval=(args.toList.map a.eval).toArray:=by apply Lm;simp
     simp only[execOp,hop,resolve,Ms,hfv,E3,MV,Mt,invoke];rw[←h4,e1];simp
    rw[KO _ _ _ (by rw[hop];intro d hd;cases hd),hrun];refine⟨λh=>(by cases h),?_⟩;refine RoundIn.mono (F:=GL) h5 λen w' hen=>?_;obtain⟨v,rs,c',H1,rfl,⟨bb,rfl,hq⟩,hl,hext,hk,hhr,hres⟩:=hen;obtain⟨H'',rfl,hk2⟩:=exH_some hq;obtain⟨e2,k2,hr2⟩:=gy h1 hR.hr hext hk hl hhr;exact hn v w' _ (.d (.bool bb)) _ hk2 e2 k2 hr2 (lI (c':= { c' with ρ:=c'.ρ++c.ρ.drop n }) (rs:=[.bool bb]) hres)
   ·exact h.elim
  ·cases hh
 ·cases hh
theorem cL {o:Nu}{tags:ON (Nat×Bool)}{C:Prop}{K:AV->ON Box->Prop}(h:pQ P G o tags C tm H K) (hne:tags≠[]):∃av,K av H:=by
 unfold pQ at h;split at h
 ·split at h
  ·exact⟨_,h⟩
  ·exact h.elim
 ·split at h
  ·split at h
   ·split at h
    ·obtain⟨rs,hrs⟩:=h.1;obtain⟨ds',_,hk⟩:=xP hrs;exact⟨_,hk⟩
    ·unfold cO at h;split at h
     ·obtain⟨rs,H',_,hrs⟩:=h.1;obtain⟨ds',_,hk⟩:=xP hrs;exact⟨_,hk⟩
     ·exact h.elim
   ·exact h.elim
  ·unfold WO at h;split at h
   ·split at h
    ·obtain⟨k,_,_,h⟩:=h;obtain⟨rs,hrs⟩:=h.1;obtain⟨ds',_,hk⟩:=xP hrs;exact⟨_,hk⟩
    ·exact h.elim
   ·exact h.elim
 ·unfold r8 at h;split at h
  ·split at h
   ·exact⟨_,h⟩
   ·split at h
    ·exact No rfl hne
    ·exact⟨_,h.2⟩
  ·split at h
   ·exact No rfl hne
   ·exact h.elim
end
def chain:Nat->ON AV->Nat->Bool->OK (ON (Nat×Bool)×Prop)
 |0,_,_,_=>none
 |n+1,tm,g,p =>
  match tm.getD g .any with
  |.d (.bool b)=>some ([(g,p)],b=p)
  |.opt g' p' (.d (.bool b)) =>
   match chain n tm g' p' with
   |some (tags,C)=>some ((g,p)::tags,C/\b=p)
   |none=>none
  |_=>none
def cuts:Np->Bool
 |.region _ ops _=>ops.toList.any λo=>match o.op with
  |.slice _ _ none (some _) (some _)=>true
  |_=>false
 |.seq a b=>cuts a||cuts b
 |_=>false
def aE (P:Ng) (e:NF->AV) (op:Op):OK (Nat×ON D) :=match op with
 |.call { callee:= .value f,args,argTypes:=_ } =>
  match calleeAV (e f)with
  |some (k,fi,ca) =>
   match P.funcs[k]? with
   |some fn =>
    match fn.resultTypes.toList with
    |[T] =>
     match P.underlying T with
     |some (.slice _) =>
      match fn.body with
      |some code =>
       if cuts code&&s5 P k then
        match (fi++args.toList.map e++ca).mapM avD with
        |some ds=>some (k,ds)
        |none=>none
       else none
      |none=>none
     |_=>none
    |_=>none
   |none=>none
  |none=>none
 |_=>none
def noLoop:Np->Bool
 |.loop _=>false
 |.rangeFunc _ _ _ _=>false
 |.seq a b=>noLoop a&&noLoop b
 |.cond _ a b=>noLoop a&&noLoop b
 |.block _ c=>noLoop c
 |.scope c=>noLoop c
 |_=>true
def grows:Np->Bool
 |.region _ ops _=>(ops.toList.any λo=>match o.op with
  |.buildSlice _ 0 _=>true
  |_=>false)&&ops.toList.any λo=>match o.op with
  |.call { callee:= .builtin .append,args:=_,argTypes:=_ }=>true
  |_=>false
 |.seq a b=>grows a||grows b
 |.cond _ a b=>grows a||grows b
 |.block _ c=>grows c
 |_=>false
def WL (P:Ng) (e:NF->AV) (op:Op):OK (Nat×ON D×Nat) :=match op with
 |.call { callee:= .value f,args,argTypes:=_ } =>
  match calleeAV (e f)with
  |some (k,fi,ca) =>
   match P.funcs[k]? with
   |some fn =>
    match fn.resultTypes.toList with
    |[T] =>
     match P.underlying T with
     |some (.slice E) =>
      match P.info? E with
      |some i =>
       match fn.body with
       |some code =>
        if noLoop code&&grows code&&s5 P k then
         match (fi++args.toList.map e++ca).mapM avD with
         |some ds=>some (k,ds,i.size)
         |none=>none
        else none
       |none=>none
      |none=>none
     |_=>none
    |_=>none
   |none=>none
  |none=>none
 |_=>none
def j6 (P:Ng) (G:Nat->OK (ON D)):ON Nu->ON AV->ON Box->OK (ON AV×ON Box)
 |[],tm,H=>some (tm,H)
 |o::r,tm,H =>
  match vg P (ev G (yr [] tm)) H o.op with
  |some (av,H',_)=>j6 P G r (yk tm o.dst (dull av)) H'
  |none=>match aP P (ev G (yr [] tm)) H o.op with
   |some (av,_)=>j6 P G r (yk tm o.dst (dull av)) H
   |none=>none
def WK (P:Ng) (G:Nat->OK (ON D)):Np->ON AV->ON Box->OK (ON AV×ON Box)
 |.region _ ops false,tm,H=>j6 P G ops.toList tm H
 |.seq a b,tm,H=>match WK P G a tm H with
  |some (tm',H')=>WK P G b tm' H'
  |none=>none
 |.ret,tm,H=>some (tm,H)
 |.skip,tm,H=>some (tm,H)
 |_,_,_=>none
def Yl (P:Ng) (fn:Func):Bool :=match fn.resultTypes.toList with
 |[T]=>match P.underlying T with
  |some (.func _ _ _)=>true
  |_=>false
 |_=>false
def fP (P:Ng) (G:Nat->OK (ON D)) (e:NF->AV) (H:ON Box) (op:Op):OK (Nat×ON AV×AV×ON Box) :=match op with
 |.call { callee:= .value (.func k),args,argTypes:=_ } =>
  match P.funcs[k]? with
  |some fn =>
   if Yl P fn&&s5 P k then
    match fn.body,fn.results.toList with
    |some code,[.tmp t] =>
     match WK P G code (args.toList.map e++M4 (fn.ntmps - args.size) .any) H with
     |some (tm',H')=>some (k,args.toList.map e,yr [] tm' t,H'.drop H.length)
     |none=>none
    |_,_=>none
   else none
  |none=>none
 |_=>none
def gt (P:Ng) (G:Nat->OK (ON D)) (ops:OC Nu) (o:Nu) (tm:ON AV) (H:ON Box) (K:ON AV->ON Box->Prop):Prop :=match o.guard with
 |none =>
  match lJ (ev G (yr [] tm)) o.op with
  |some (l,aas)=>fR P G l aas H λav H'=>K (yk tm o.dst (dull av)) H'
  |none =>
  match fP P G (ev G (yr [] tm)) H o.op with
  |some (k,aas,av,N)=>PMaker P G k aas H av N/\K (yk tm o.dst (dull av)) (H++N)
  |none =>
  match WL P (ev G (yr [] tm)) o.op with
  |some (k,ds,sz)=>PFnV P G k ds sz λl=>K (yk tm o.dst (.vec H.length l)) (H++[.vec l.length sz])
  |none =>
  match aE P (ev G (yr [] tm)) o.op with
  |some (k,ds)=>PFnF P G k ds λl=>K (yk tm o.dst (.full l)) H
  |none =>
  match WM P (ev G (yr [] tm)) o.op with
  |some (k,aas)=>WN P G k aas H λav H'=>K (yk tm o.dst (dull av)) H'
  |none =>
  match WV P (ev G (yr [] tm)) H ops o.dst o.op with
  |some (av,H',F)=>F/\K (yk tm o.dst (dull av)) H'
  |none=>pQ P G o [] OG tm H λav H'=>K (yk tm o.dst (dull av)) H'
 |some (j,p) =>
  match (ops[j]?).bind (·.dst)with
  |some g =>
   if o.dst=some g then NL else
   match chain 9 tm g p with
   |some (tags,C) =>
    match lJ (ev G (yr tags tm)) o.op with
    |some (l,aas)=>(C->fR P G l aas H λav H'=>K (yk tm o.dst (.opt g p (dull av))) H')/\(C∨K (yk tm o.dst (.opt g p (.d (.bool true)))) H)
    |none=>pQ P G o tags C tm H λav H'=>K (yk tm o.dst (.opt g p (dull av))) H'
   |none=>NL
  |none=>NL
def t8 (P:Ng) (G:Nat->OK (ON D)) (ops:OC Nu):ON Nu->ON AV->ON Box->(ON AV->ON Box->Prop)->Prop
 |[],tm,H,K=>K tm H
 |o::rest,tm,H,K=>gt P G ops o tm H λtm' H'=>t8 P G ops rest tm' H' K
section
variable {P:Ng}{G:Nat->OK (ON D)}{nb:Nat}{rd:OK Nat}{c:Cx}{H:ON Box}{w:N4}{tm:ON AV}{a:NI}
theorem gq {g:Nat}{b:Bool}(hR:M5 G nb c H w tm a) (hg:tm.getD g .any = .d (.bool b)):a.tmps[g]? = some (.bool b):=by
 rw[LB]at hg;cases hx:tm[g]? with
 |none=>rw[hx]at hg;simp at hg
 |some x =>
  rw[hx]at hg;simp at hg;subst hg;obtain⟨v,hv,hs⟩:=hR.tm.get hx;simp only[yA]at hs;have:=hs.bool;subst this;simpa using hv
theorem r9 (hR:M5 G nb c H w tm a):∀(n g:Nat) (p:Bool) (tags:ON (Nat×Bool)) (C:Prop),a.tmps[g]? = some (.bool p)->chain n tm g p=some (tags,C)->C/\uo a.tmps tags/\tags≠[]
 |0,_,_,_,_,_,h=>by simp[chain]at h
 |n+1,g,p,tags,C,hg,h=>by
  simp only[chain]at h;split at h
  ·rename_i b hb;cases h;have h1:=gq hR hb;rw[hg]at h1;simp at h1;refine⟨h1.symm,?_,by simp⟩;exact uo.cons (λg p h=>by simp[hasTag]at h) hg
  ·rename_i g' p' b hb;cases hc:chain n tm g' p' with
   |none=>rw[hc]at h;cases h
   |some q =>
    obtain⟨tags',C'⟩:=q;rw[hc]at h;cases h;rw[LB]at hb;cases hx:tm[g]? with
    |none=>rw[hx]at hb;simp at hb
    |some x =>
     rw[hx]at hb;simp at hb;subst hb;obtain⟨v,hv,hs⟩:=hR.tm.get hx;have hv':v = .bool p:=by simp only[KA]at hv;rw[hg]at hv;simpa using hv.symm
     simp only[yA]at hs;have hg':a.tmps[g']? = some (.bool p'):=by
      rcases KN (a.tmps[g']? = some (.bool p'))with h1|h1
      ·exact h1
      ·have:=hs.2 h1;rw[hv']at this;simp[undef]at this
     obtain⟨h1,h2,h3⟩:=r9 hR n g' p' tags' C' hg' hc;have hbp:b=p:=by have:=(hs.1 hg').bool;rw[hv']at this;simpa using this.symm
     exact⟨⟨h1,hbp⟩,h2.cons hg,by simp⟩
  ·cases h
theorem yV (a:NI) (d:Nat) (v:Value):(a.put (some d) v).tmps=a.tmps.setIfInBounds d v:=rfl
theorem Rep.put {c':Cx}{H':ON Box}{w':N4}{v:Value}{av:AV}(hR:M5 G nb c H w tm a) (e:Nw c w c' w') (k:zp c H c' H') (hr:HR c' H' w') (d:OK Nat) (hv:yA c' H' w' (a.put d v).tmps av v):M5 G nb c' H' w' (yk tm d av) (a.put d v):=by
 cases d with
 |none=>exact⟨hr,hR.gr.ext e,hR.tm.ext e k,hR.df.ext e⟩
 |some d =>
  refine⟨hr,hR.gr.ext e,?_,hR.df.ext e⟩;have htm:=hR.tm.ext e k;refine⟨by simp only[yV,yk];simp;have:=htm.1;simpa using this,λt u x hu hx=>?_⟩;simp only[yV,OC.toList_setIfInBounds]at hu;simp only[yk]at hx;rw[LQ]at hu hx;by_cases htd:d=t
  ·subst htd;simp only[if_true]at hu hx;split at hu
   ·rename_i h1;split at hx
    ·simp at hu hx;subst hu;subst hx;exact hv
    ·simp at hx
   ·simp at hu
  ·rw[N2 htd]at hu hx;simp only[M6]at hx;cases hy:tm[t]? with
   |none=>rw[hy]at hx;simp at hx
   |some y =>
    rw[hy]at hx;simp at hx;have hs:=htm.2 t u y hu hy;subst hx;cases y<;>simp only[Rj]<;>first
     |exact hs
     |skip
    rename_i g p z;split
    ·exact RA.any _
    ·rename_i hgd;simp only[yA]at hs ⊢;have:(a.put (some d) v).tmps[g]? = a.tmps[g]? :=by rw[yV,Kg];simp[KM hgd]
     rw[this];exact hs
theorem xp {tmps:OC Value}{av:AV}{v:Value}(h:RA c H w av v):yA c H w tmps (dull av) v:=by have:=h.dull;cases av<;>exact this
theorem TZ {e:NF->AV}{ops:OC Nu}{d:OK Nat}{o:Op}{r:AV×ON Box×Prop}(h:WV P e H ops d o=some r):∀x,o ≠ .defer x:=by rintro x rfl;simp[WV]at h
theorem aD {o:Nu}{k:Nat}{ds:ON D}{K:AV->ON Box->Prop}{next:NI->N4->Prop}{Q:Me->NI->N4->Prop}(hR:M5 G nb c H w tm a) (hh:aE P (ev G (yr [] tm)) o.op=some (k,ds)) (h:PFnF P G k ds λl=>K (.full l) H) (hn:aG c H w a o K next):o.wpIn (wF rd) 0 P a w next Q:=by
 have he:=yW (tags:=[]) hR (λg p h=>by simp[hasTag]at h);unfold aE at hh;split at hh
 ·rename_i f args types hop;split at hh
  ·rename_i k' fi ca hcal;split at hh
   ·split at hh
    ·split at hh
     ·split at hh
      ·split at hh
       ·rename_i hok;simp only[NK]at hok;split at hh
        ·rename_i ds' hds;cases hh;obtain⟨fv,cv,hfv,hargs⟩:=xO (args:=args) he hcal;have hrv:=mapM_avD hds hargs;refine xh (by rw[hop];intro d hd;cases hd) (wZ hop hfv hok.2) ?_;have hnil:HR { c with ρ:=[] } [] w:=hR.hr.nil;refine(h.run { c with ρ:=[] } w _ rfl hnil hR.gr hrv).mono λen w' hen=>?_;obtain⟨v,l,c',rfl,hk,hρ,hext,hhr,hres⟩:=hen;obtain⟨e2,k2,h2⟩:=td hR.hr hext hhr;refine⟨v,rfl,hn v w' _ (.full l) H hk e2 k2 h2 ?_⟩;cases hres with
         |full h=>exact .full h
        ·cases hh
       ·cases hh
      ·cases hh
     ·cases hh
    ·cases hh
   ·cases hh
  ·cases hh
 ·cases hh
theorem cK {o:Nu}{k:Nat}{aas:ON AV}{av:AV}{N:ON Box}{K:AV->ON Box->Prop}{next:NI->N4->Prop}{Q:Me->NI->N4->Prop}(hR:M5 G nb c H w tm a) (hh:fP P G (ev G (yr [] tm)) H o.op=some (k,aas,av,N)) (h:PMaker P G k aas H av N) (hk:K av (H++N)) (hn:aG c H w a o K next):o.wpIn (wF rd) 0 P a w next Q:=by
 have he:=yW (tags:=[]) hR (λg p h=>by simp[hasTag]at h);unfold fP at hh;split at hh
 ·rename_i k' args types hop;split at hh
  ·split at hh
   ·rename_i hok;simp only[NK]at hok;split at hh
    ·split at hh
     ·cases hh;have hcal:calleeAV (ev G (yr [] tm) (.func k))=some (k,[],[]):=rfl;obtain⟨fv,cv,hfv,hargs⟩:=xO (args:=args) he hcal;refine xh (by rw[hop];intro d hd;cases hd) (wZ hop hfv hok.2) ?_;have hargs':z8 (λv a=>RA c H w a v) (fv++args.toList.map a.eval++cv) (args.toList.map (ev G (yr [] tm))):=by simpa using hargs
      refine(h.run c w _ hR.hr hR.gr hargs').mono λen w' hen=>?_;obtain⟨v,c',rfl,e2,k2,h2,hra⟩:=hen;exact⟨v,rfl,hn v w' c' _ _ hk e2 k2 h2 hra⟩
     ·cases hh
    ·cases hh
   ·cases hh
  ·cases hh
 ·cases hh
theorem XY {o:Nu}{k sz:Nat}{ds:ON D}{K:AV->ON Box->Prop}{next:NI->N4->Prop}{Q:Me->NI->N4->Prop}(hR:M5 G nb c H w tm a) (hh:WL P (ev G (yr [] tm)) o.op=some (k,ds,sz)) (h:PFnV P G k ds sz λl=>K (.vec H.length l) (H++[.vec l.length sz])) (hn:aG c H w a o K next):o.wpIn (wF rd) 0 P a w next Q:=by
 have he:=yW (tags:=[]) hR (λg p h=>by simp[hasTag]at h);unfold WL at hh;split at hh
 ·rename_i f args types hop;split at hh
  ·rename_i k' fi ca hcal;split at hh
   ·split at hh
    ·split at hh
     ·split at hh
      ·split at hh
       ·split at hh
        ·rename_i hok;simp only[NK]at hok;split at hh
         ·rename_i ds' hds;cases hh;obtain⟨fv,cv,hfv,hargs⟩:=xO (args:=args) he hcal;have hrv:=mapM_avD hds hargs;refine xh (by rw[hop];intro d hd;cases hd) (wZ hop hfv hok.2) ?_;have hnil:HR { c with ρ:=[] } [] w:=hR.hr.nil;refine(h.run { c with ρ:=[] } w _ rfl hnil hR.gr hrv).mono λen w' hen=>?_;obtain⟨v,l,c',rfl,hk,hext,hhr,hres⟩:=hen;obtain⟨e2,k2,h2,hra⟩:=aK hR.hr hext hhr hres;exact⟨v,rfl,hn v w' _ (.vec H.length l) _ hk e2 k2 h2 hra⟩
         ·cases hh
        ·cases hh
       ·cases hh
      ·cases hh
     ·cases hh
    ·cases hh
   ·cases hh
  ·cases hh
 ·cases hh
theorem j7 (hR:M5 G nb c H w tm a):∀(n g:Nat) (p:Bool) (tags:ON (Nat×Bool)) (C:Prop),chain n tm g p=some (tags,C)->C->a.tmps[g]? = some (.bool p)
 |0,g,p,tags,C,h,_=>by simp[chain]at h
 |n+1,g,p,tags,C,h,hC=>by
  unfold chain at h;split at h
  ·rename_i b hb;cases h;rw[←hC];exact gq hR hb
  ·rename_i g' p' b hb;split at h
   ·rename_i tags' C' hch;cases h;obtain⟨h1,h2⟩:=hC;have h3:=j7 hR n g' p' tags' C' hch h1;have hx:tm[g]? = some (.opt g' p' (.d (.bool b))):=by
     rw[LB]at hb;cases hq:tm[g]? with
     |none=>rw[hq]at hb;cases hb
     |some y=>rw[hq]at hb;exact Mz some hb
    obtain⟨v,hv,hs⟩:=hR.tm.get hx;have:=(hs.1 h3).bool;subst this;rw[←h2];simpa using hv
   ·cases h
  ·cases h
theorem j8 {ops:OC Nu}{o:Nu}{i:Nat}{next:NI->N4->Prop}{K:ON AV->ON Box->Prop}{Q:Me->NI->N4->Prop}(ho:ops[i]? = some o) (hR:M5 G nb c H w tm a) (h:gt P G ops o tm H K) (hn:∀a' w' c' tm' H',K tm' H'->M5 G nb c' H' w' tm' a'->Nw c w c' w'->zp c H c' H'->next a' w'):wpOpIn (wF rd) 0 P ops Q i next a w:=by
 simp only[wpOpIn,ho];unfold gt at h;split at h
 ·rename_i hg;have hw:L5 o (yielded ops a.tmps)=true:=by simp[L5,hg]
  rw[Nf hw];split at h
  ·rename_i l aas hh;refine lu hR (λg p h=>by simp[hasTag]at h) hh h ?_;intro v w' c' av H' hk e k hr hra;exact hn _ w' c' _ H' hk (hR.put e k hr o.dst (xp hra)) e k
  split at h
  ·rename_i k aas av N hh;refine cK (K:=λav H'=>K (yk tm o.dst (dull av)) H') hR hh h.1 h.2 ?_;intro v w' c' av H' hk e k hr hra;exact hn _ w' c' _ H' hk (hR.put e k hr o.dst (xp hra)) e k
  split at h
  ·rename_i k ds sz hh;refine XY (K:=λav H'=>K (yk tm o.dst (dull av)) H') hR hh h ?_;intro v w' c' av H' hk e k hr hra;exact hn _ w' c' _ H' hk (hR.put e k hr o.dst (xp hra)) e k
  split at h
  ·rename_i k ds hh;refine aD (K:=λav H'=>K (yk tm o.dst (dull av)) H') hR hh h ?_;intro v w' c' av H' hk e k hr hra;exact hn _ w' c' _ H' hk (hR.put e k hr o.dst (xp hra)) e k
  split at h
  ·rename_i k aas hh;refine cM hR hh h ?_;intro v w' c' av H' hk e k hr hra;exact hn _ w' c' _ H' hk (hR.put e k hr o.dst (xp hra)) e k
  split at h
  ·rename_i av H' F hh;refine un (K:=λav2 H2=>av2=av/\H2=H') (TZ hh) (aM hR.hr (yW hR (λg p h=>by simp[hasTag]at h)) hh h.1) ⟨rfl,rfl⟩ ?_;intro v w' c' av2 H2 hk e k hr hra;obtain⟨rfl,rfl⟩:=hk;exact hn _ w' c' _ _ h.2 (hR.put e k hr o.dst (xp hra)) e k
  ·refine tc hR (λg p h=>by simp[hasTag]at h) trivial h ?_;intro v w' c' av H' hk e k hr hra;exact hn _ w' c' _ H' hk (hR.put e k hr o.dst (xp hra)) e k
 ·rename_i j p hg;split at h
  ·rename_i g hgd;split at h
   ·exact h.elim
   ·rename_i hne;split at h
    ·rename_i tags C hch;have hyield:yielded ops a.tmps j=match a.tmps[g]? with|some (.bool b)=>some b|_=>none:=by unfold yielded;rw[hgd];rfl
     have hgp:∀v,(a.put o.dst v).tmps[g]? = a.tmps[g]? :=by
      intro v;cases hd:o.dst with
      |none=>rfl
      |some d =>
       rw[yV,Kg];have:d≠g:=λe=>hne (by rw[hd,e]);simp[this]
     by_cases hw:L5 o (yielded ops a.tmps)=true
     ·rw[Nf hw];have hgt:a.tmps[g]? = some (.bool p):=by
       simp only[L5,hg,hyield]at hw;split at hw
       ·rename_i b hb;simp at hw;subst hw;exact hb
       ·simp at hw
      obtain⟨hC,htags,_⟩:=r9 hR 9 g p tags C hgt hch;split at h
      ·rename_i l aas hh;refine lu hR htags hh (h.1 hC) ?_;intro v w' c' av H' hk e k hr hra;refine hn _ w' c' _ H' hk (hR.put e k hr o.dst ?_) e k;refine⟨λ_=>hra.dull,λhno=>?_⟩;rw[hgp]at hno;exact No hgt hno
      refine tc hR htags hC h ?_;intro v w' c' av H' hk e k hr hra;refine hn _ w' c' _ H' hk (hR.put e k hr o.dst ?_) e k;refine⟨λ_=>hra.dull,λhno=>?_⟩;rw[hgp]at hno;exact No hgt hno
     ·rw[N2 hw];refine⟨λ_ _=>trivial,?_⟩;have hne':tags≠[]:=by
       intro h0;subst h0;revert hch;generalize tm=tm';intro hch;simp only[chain]at hch;split at hch
       ·cases hch
       ·split at hch
        ·cases hch
        ·cases hch
       ·cases hch
      split at h
      ·have hk:=h.2.resolve_left λhC=>by have hyes:=j7 hR 9 g p tags C hch hC;exact No (by simp[L5,hg,hyield,hyes]) hw
       refine hn _ w c _ H hk (hR.put (L7 _ _) (Md _ _) hR.hr o.dst ?_) (L7 _ _) (Md _ _);refine⟨λhyes=>?_,λ_=>rfl⟩;rw[hgp]at hyes;exact No (by simp[L5,hg,hyield,hyes]) hw
      obtain⟨av,hk⟩:=cL h hne';refine hn _ w c _ H hk (hR.put (L7 _ _) (Md _ _) hR.hr o.dst ?_) (L7 _ _) (Md _ _);refine⟨λhyes=>?_,λ_=>rfl⟩;rw[hgp]at hyes;exact No (by simp[L5,hg,hyield,hyes]) hw
    ·exact h.elim
  ·exact h.elim
theorem rz {ops:OC Nu}{o:Nu}{i:Nat}{rest:ON Nat}{K:ON AV->ON Box->Prop}{Q:Me->NI->N4->Prop}(ho:ops[i]? = some o) (hR:M5 G nb c H w tm a) (h:gt P G ops o tm H K) (hn:∀a' w' c' tm' H',K tm' H'->M5 G nb c' H' w' tm' a'->Nw c w c' w'->zp c H c' H'->wpOpsIn (wF rd) 0 P ops Q rest a' w'):wpOpsIn (wF rd) 0 P ops Q (i::rest) a w:=by rw[wpOpsIn_cons];exact j8 ho hR h hn
theorem j9 {ops:OC Nu}{K:ON AV->ON Box->Prop}{Q:Me->NI->N4->Prop}:∀(l:ON Nu) (i:Nat) (c:Cx) (H:ON Box) (w:N4) (tm:ON AV) (a:NI),ops.toList.drop i=l->M5 G nb c H w tm a->t8 P G ops l tm H K->(∀a' w' c' tm' H',K tm' H'->M5 G nb c' H' w' tm' a'->Nw c w c' w'->zp c H c' H'->Q .normal a' w')->wpOpsIn (wF rd) 0 P ops Q (J8 i l.length) a w
 |[],i,c,H,w,tm,a,_,hR,h,hq=>hq a w c tm H h hR (L7 _ _) (Md _ _)
 |o::l,i,c,H,w,tm,a,hl,hR,h,hq=>by
  have ho:ops[i]? = some o:=by have:=Mz (λx=>x[0]?) hl;simpa using this
  have hl':ops.toList.drop (i+1)=l:=by have:=Mz ON.tail hl;simpa using this
  rw[MO,ON.range'_succ];refine rz ho hR h ?_;intro a' w' c' tm' H' hk hR' e k;exact j9 l (i+1) c' H' w' tm' a' hl' hR' hk λa2 w2 c2 tm2 H2 hk2 hR2 e2 k2=>hq a2 w2 c2 tm2 H2 hk2 hR2 (e.trans e2) (k.trans k2)
theorem Rep.clear (hR:M5 G nb c H w tm a):M5 G nb c H w (za tm) a:=by
 refine⟨hR.hr,hR.gr,⟨by simp[za];have:=hR.tm.1;simpa using this,λt v x hv hx=>?_⟩,hR.df⟩;simp only[za,M6]at hx;cases hy:tm[t]? with
 |none=>rw[hy]at hx;simp at hx
 |some y =>
  rw[hy]at hx;simp at hx;subst hx;have hs:=hR.tm.2 t v y hv hy;cases y<;>first
   |exact hs
   |exact RA.any _
end
def vd (acc:ON Nat) (o:Nu):Nat :=o.after.toList.foldl (λs e=>if Kp .any e then(s|||2 ^ e.on)|||acc.getD e.on 0 else s) 0
def masksFrom:ON Nu->ON Nat->ON Nat
 |[],acc=>acc
 |o::r,acc=>masksFrom r (acc++[vd acc o])
def oO (ops:OC Nu):ON Nat:=masksFrom ops.toList []
def xr (ops:OC Nu) (j i:Nat):Bool:=((oO ops).getD j 0).testBit i
theorem fO {acc:ON Nat}{o:Nu}{i:Nat}(h:(vd acc o).testBit i=true):∃e∈o.after.toList,Kp .any e=true/\(i=e.on∨(acc.getD e.on 0).testBit i=true):=by
 unfold vd at h;have key:∀(es:ON Edge) (s:Nat),(es.foldl (λs e=>if Kp .any e then(s|||2 ^ e.on)|||acc.getD e.on 0 else s) s).testBit i=true ->
   s.testBit i=true∨ ∃e∈es,Kp .any e=true/\(i=e.on∨(acc.getD e.on 0).testBit i=true):=by
  intro es;induction es with
  |nil=>intro s h;exact .inl h
  |cons e es ih =>
   intro s h;simp only[It]at h;rcases ih _ h with h1|⟨e',he',h2⟩
   ·split at h1
    ·rename_i hb;rw[Cq,Cq,L4,L4]at h1;rcases h1 with (h1|h1)|h1
     ·exact .inl h1
     ·right;refine⟨e,by simp,hb,.inl ?_⟩;rw[Nat.testBit_two_pow]at h1;simpa using (of_decide_eq_true h1).symm
     ·exact .inr ⟨e,by simp,hb,.inr h1⟩
    ·exact .inl h1
   ·exact .inr ⟨e',by simp[he'],h2⟩
 rcases key _ 0 h with h1|h1
 ·simp at h1
 ·exact h1
theorem masksFrom_get:∀(l:ON Nu) (acc:ON Nat) (j:Nat),(masksFrom l acc).length=acc.length+l.length/\(j<acc.length->(masksFrom l acc)[j]? = acc[j]?)/\(∀o,acc.length<=j->l[j - acc.length]? = some o->(masksFrom l acc)[j]? = some (vd ((masksFrom l acc).take j) o))
 |[],acc,j=>by simp[masksFrom]
 |o::l,acc,j=>by
  obtain⟨h1,h2,h3⟩:=masksFrom_get l (acc++[vd acc o]) j;simp only[masksFrom];refine⟨by rw[h1];simp;omega,λhj=>?_,λp hj hp=>?_⟩
  ·rw[h2 (by simp;omega),LJ hj]
  ·by_cases he:j=acc.length
   ·subst he;simp at hp;subst hp;have e1:=h2 (by simp);rw[e1];have htake:(masksFrom l (acc++[vd acc o])).take acc.length=acc:=by
     apply Jc;intro i;by_cases hi:i<acc.length
     ·rw[Ld,Nf hi,(masksFrom_get l (acc++[vd acc o]) i).2.1 (by simp;omega),LJ hi]
     ·rw[Ld,N2 hi,My (by omega)]
    rw[htake];simp
   ·have:j - acc.length=(j - (acc++[vd acc o]).length)+1:=by simp;omega
    rw[this]at hp;simp only[FY]at hp;exact h3 p (by simp;omega) hp
theorem jz {ops:OC Nu}{j i:Nat}{o:Nu}(ho:ops[j]? = some o) (h:xr ops j i=true):∃e∈o.after.toList,Kp .any e=true/\(i=e.on∨(e.on<j/\xr ops e.on i=true)):=by
 have ho':ops.toList[j]? = some o:=by simpa using ho
 have hg:=(masksFrom_get ops.toList [] j).2.2 o (by simp) (by simpa using ho');unfold xr at h;rw[LB]at h;unfold oO at h;rw[hg]at h;simp only[Li]at h;obtain⟨e,he,hb,h1⟩:=fO h;refine⟨e,he,hb,?_⟩;rcases h1 with h1|h1
 ·exact .inl h1
 ·right;rw[LB,Ld]at h1;split at h1
  ·rename_i hlt;exact⟨hlt,by unfold xr oO;rw[LB];exact h1⟩
  ·simp at h1
def xt (ops:OC Nu) (listed:OC Bool):Prop:= ∀j i,listed.getD j false=true->xr ops j i=true->listed.getD i false=true
theorem wr {ops:OC Nu}{listed:OC Bool}{j:Nat}{o:Nu}(hc:xt ops listed) (ho:ops[j]? = some o) (hr:j∈K8 .any ops listed):∀i,xr ops j i=true->listed.getD i false=true:=by
 intro i hi;simp only[K8,ON.mem_filter,ho,Ly,Li,NK]at hr;obtain⟨e,he,hb,h1⟩:=jz ho hi;have he':e∈o.after:=by simpa using he
 have h2:=(OC.all_eq_true_iff_forall_mem.1 hr.2.2) e he';simp only[hb,Bool.not_true,Bool.false_or]at h2;rcases h1 with rfl|⟨_,h1⟩
 ·exact h2
 ·exact hc _ _ h2 h1
def isCallV:Op->Bool
 |.call { callee:= .value _,.. }=>true
 |_=>false
def isAllocO:Op->Bool
 |.alloc _=>true
 |_=>false
def isTail:Op->Bool
 |.store _ _ _=>true
 |.mapUpdate _ _ _ _=>true
 |.insert _ _ _ _=>true
 |.box _ _=>true
 |.makeMap _ _=>true
 |.call { callee:= .builtin .append,.. }=>true
 |_=>false
def zl (ops:OC Nu):Nat:=ops.toList.findIdx λo=>isTail o.op
def zq (ops:OC Nu) (i:Nat):Nu:=ops.getD i default
def vc (m:Nat):ON Nu->Nat->ON AV->ON AV
 |[],_,tm=>tm
 |o::r,k,tm =>
  let tm':=vc m r (k+1) tm;match o.dst with
  |some d=>if m.testBit k&& !isAllocO o.op then tm' else tm'.set d .any
  |none=>tm'
def mw (ops:OC Nu) (j:Nat) (tm:ON AV):ON AV:=vc ((oO ops).getD j 0) ops.toList 0 tm
def xI (tm:ON AV) (d:OK Nat) (a:AV):ON AV :=match d with
 |some d=>tm.set d a
 |none=>tm
def Yk (ops:OC Nu):Nat->ON Nat->ON Nat->ON Nat
 |0,_,done=>done
 |n+1,todo,done =>
  match todo.find? λi=>!isCallV (zq ops i).op&&(todo.all λk=>!xr ops i k)with
  |some i=>Yk ops n (todo.erase i) (done++[i])
  |none=>match todo.find? λi=>(todo.all λk=>!xr ops i k)with
   |some i=>Yk ops n (todo.erase i) (done++[i])
   |none=>done
def tZ (ops:OC Nu):ON Nat:=(Mq (zl ops)).filter λi=>!isAllocO (zq ops i).op
def pp (ops:OC Nu):ON Nat:=Yk ops (zl ops) (tZ ops) []
def nodupB:ON Nat->Bool
 |[]=>true
 |x::r=>!r.contains x&&nodupB r
def wK (ops:OC Nu) (hs:ON Nat):ON Nat->ON Nat->Bool
 |[],done=>hs.all λi=>done.contains i
 |i::r,done=>hs.contains i&& !done.contains i&&(hs.all λk=>!xr ops i k||done.contains k) &&
   (!isCallV (zq ops i).op||r.all λk=>xr ops k i)&&wK ops hs r (done++[i])
def mv (ops:OC Nu):Bool :=nodupB (ops.toList.filterMap (·.dst)) && ((Mq ops.size).all λj=>(zq ops j).after.toList.all λe=>!Kp .any e||decide (e.on<j)) && ((Mq ops.size).all λj=>decide (j<zl ops)||(Mq j).all λi=>xr ops j i) && ((Mq (zl ops)).all λj=>!isAllocO (zq ops j).op||((zq ops j).guard.isNone&&(zq ops j).dst.isSome)) && wK ops (tZ ops) (pp ops) []
def w9 (P:Ng) (G:Nat->OK (ON D)) (ops:OC Nu) (i:Nat) (tv:ON AV) (H:ON Box) (K:AV->AV->ON Box->Prop):Prop :=match (zq ops i).guard with
 |none=>pQ P G (zq ops i) [] OG tv H λav H'=>K av (dull av) H'
 |some (j,p) =>
  match (ops[j]?).bind (·.dst)with
  |some g =>
   if(zq ops i).dst=some g then NL else
   match chain 9 tv g p with
   |some (tags,C)=>pQ P G (zq ops i) tags C tv H λav H'=>K av (.opt g p (dull av)) H'
   |none=>NL
  |none=>NL
def jy (P:Ng) (G:Nat->OK (ON D)) (ops:OC Nu):ON Nat->ON AV->ON Box->(ON AV->Prop)->Prop
 |[],tm,_,K=>K tm
 |i::r,tm,H,K=>w9 P G ops i (mw ops i tm) H λ_ a _=>jy P G ops r (xI tm (zq ops i).dst a) H K
def tz (ops:OC Nu) (C:Nat->TypeId->OK (ON AV)):ON Nat->ON AV->ON Box->(ON AV->ON Box->Prop)->Prop
 |[],tm,H,K=>K tm H
 |i::r,tm,H,K =>
  match (zq ops i).op with
  |.alloc T=>match C i T with
   |some cs=>tz ops C r (xI tm (zq ops i).dst (.ptr H.length 0)) (H++[.cells T cs]) K
   |none=>NL
  |_=>NL
def oN (P:Ng) (T:TypeId):OK (ON AV):=(yo P T).map λz=>z.cells.toList.map we
abbrev x7 (P:Ng) (ops:OC Nu):ON Nat->ON AV->ON Box->(ON AV->ON Box->Prop)->Prop:=tz ops λ_ T=>oN P T
def zU (ops:OC Nu):ON Nat:=(Mq (zl ops)).filter λi=>isAllocO (zq ops i).op
def noOptB:AV->Bool
 |.opt _ _ _=>false
 |_=>true
def Yj (P:Ng) (G:Nat->OK (ON D)) (ops:OC Nu) (tm:ON AV) (H:ON Box) (K:ON AV->ON Box->Prop):Prop :=if mv ops&&tm.all noOptB&&(ops.toList.all λo=>match o.dst with|some d=>decide (d<tm.length)|none=>true)&&(ops.toList.all λo=>match o.op with|.alloc T=>(yo P T).isSome|_=>true)then jy P G ops (pp ops) tm H λtm1=>x7 P ops (zU ops) (za tm1) H λtm2 H2=>t8 P G ops (ops.toList.drop (zl ops)) tm2 H2 K else NL
section
variable {P:Ng}{G:Nat->OK (ON D)}{nb:Nat}{rd:OK Nat}{c:Cx}{H:ON Box}{w:N4}{tm:ON AV}{a:NI}{ops:OC Nu}
theorem gp {e:NF->AV}{o:Op}(h1:isTail o=false) (h2:isAllocO o=false):vg P e H o=none:=by
 cases o with
 |call cc =>
  obtain⟨callee,args,types⟩:=cc;cases callee with
  |builtin b=>cases b<;>first|rfl|(simp[isTail]at h1)
  |_=>rfl
 |_=>first|rfl|(simp[isTail]at h1;done)|(simp[isAllocO]at h2;done)
theorem exTys_mono:∀(l:ON TypeId) (K1 K2:ON D->Prop),(∀ds,K1 ds->K2 ds)->oP P l K1->oP P l K2:=by
 have kS:∀(s:Sh) (K1 K2:D->Prop),(∀d,K1 d->K2 d)->exSh s K1->exSh s K2:=by intro s K1 K2 hk h;cases s<;>(obtain⟨x,hx⟩:=h;exact⟨x,hk _ hx⟩)
 have kSs:∀(l:ON Sh) (K1 K2:ON D->Prop),(∀d,K1 d->K2 d)->exShs l K1->exShs l K2:=by
  intro l;induction l with
  |nil=>intro K1 K2 hk h;exact hk _ h
  |cons s l ih=>intro K1 K2 hk h;exact kS s _ _ (λd hd=>ih _ _ (λds hds=>hk _ hds) hd) h
 intro l;induction l with
 |nil=>intro K1 K2 hk h;exact hk _ h
 |cons T l ih =>
  intro K1 K2 hk h;simp only[oP,Ta]at h ⊢;split at h
  ·exact kSs _ _ _ (λcs hcs=>ih _ _ (λds hds=>hk _ hds) hcs) h
  ·exact h.elim
theorem um {o:Nu}{tags:ON (Nat×Bool)}{C:Prop}{K:AV->ON Box->Prop}(h1:isTail o.op=false) (h2:isAllocO o.op=false) (h:pQ P G o tags C tm H K):(∃av,K av H/\∀K2:AV->ON Box->Prop,K2 av H->pQ P G o tags C tm H K2) ∨(isCallV o.op=true/\∀K2:AV->ON Box->Prop,(∀av,K av H->K2 av H)->pQ P G o tags C tm H K2):=by
 unfold pQ at h;split at h
 ·rename_i g x y hop;split at h
  ·rename_i t p q hg hx hy;refine .inl ⟨_,h,λK2 hk=>?_⟩;unfold pQ;rw[hop];simp only[hg,hx,hy];exact hk
  ·exact h.elim
 ·rename_i f args types hop;right;refine⟨by rw[hop];rfl,λK2 hk=>?_⟩;unfold pQ;rw[hop];split at h
  ·rename_i k fi ca hcal;simp only[hcal];split at h
   ·rename_i hok;rw[Nf hok];split at h
    ·rename_i ds hds;exact h.mono λrs hrs=>exTys_mono _ _ _ (λds hd=>⟨hd.1,hk _ hd.2⟩) hrs
    ·unfold cO at h ⊢;split at h
     ·rename_i hsee;rw[Nf hsee];exact h.mono λrs H' hrs=>⟨hrs.1,exTys_mono _ _ _ (λds hd=>⟨hd.1,hk _ hd.2⟩) hrs.2⟩
     ·exact h.elim
   ·exact h.elim
  ·rename_i hcal;simp only[hcal];unfold WO at h ⊢;split at h
   ·split at h
    ·obtain⟨k,h3,h4,h5⟩:=h;exact⟨k,h3,h4,h5.mono λrs hrs=>exTys_mono _ _ _ (λds hd=>⟨hd.1,hk _ hd.2⟩) hrs⟩
    ·exact h.elim
   ·exact h.elim
 ·rename_i op hp hc;left;have e:∀K2:AV->ON Box->Prop,pQ P G o tags C tm H K2=r8 P (ev G (yr tags tm)) H o.op tags C K2:=by
   intro K2;unfold pQ;split
   ·rename_i h3;exact No h3 (hp _ _ _)
   ·rename_i h3;exact No h3 (hc _ _ _)
   ·rfl
  unfold r8 at h;cases hf:aP P (ev G (yr tags tm)) H o.op with
  |none =>
   rw[hf]at h;simp only[gp h1 h2]at h;cases tags<;>exact h.elim
  |some q =>
   obtain⟨av,F⟩:=q;rw[hf]at h;simp only at h;cases htr:qA (ev G (yr tags tm)) o.op with
   |true =>
    rw[htr]at h;refine⟨av,by simpa using h,λK2 hk=>?_⟩;rw[e];unfold r8;rw[hf];simp only[htr,if_true];exact hk
   |false =>
    rw[htr]at h;simp only[LH,if_false]at h;have h3:K av H:=by cases tags<;>exact h.2
    refine⟨av,h3,λK2 hk=>?_⟩;rw[e];unfold r8;rw[hf];simp only[htr,LH,if_false];cases tags<;>exact⟨h.1,hk⟩
theorem cJ {o:Nu}{tags:ON (Nat×Bool)}{C:Prop}{K:AV->ON Box->Prop}(h1:isTail o.op=false) (h2:isAllocO o.op=false) (h:pQ P G o tags C tm H K):pQ P G o tags C tm H λav H'=>H'=H/\K av H':=by
 rcases um h1 h2 h with⟨av,h3,h4⟩|⟨_,h4⟩
 ·exact h4 _ ⟨rfl,h3⟩
 ·exact h4 _ λav h=>⟨rfl,h⟩
theorem mu {i:Nat}{tv:ON AV}{K:AV->AV->ON Box->Prop}(h0:isCallV (zq ops i).op=false) (h1:isTail (zq ops i).op=false) (h2:isAllocO (zq ops i).op=false) (h:w9 P G ops i tv H K):∃av a',K av a' H/\w9 P G ops i tv H λ_ a2 H2=>H2=H/\a2=a':=by
 unfold w9 at h;split at h
 ·rename_i hg;rcases um h1 h2 h with⟨av,h3,h4⟩|⟨h4,_⟩
  ·refine⟨av,dull av,h3,?_⟩;unfold w9;rw[hg];exact h4 _ ⟨rfl,rfl⟩
  ·rw[h0]at h4;cases h4
 ·rename_i j p hg;split at h
  ·rename_i g hgd;split at h
   ·exact h.elim
   ·rename_i hne;split at h
    ·rename_i tags C hch;rcases um h1 h2 h with⟨av,h3,h4⟩|⟨h4,_⟩
     ·refine⟨av,.opt g p (dull av),h3,?_⟩;unfold w9;rw[hg];simp only[hgd,N2 hne,hch];exact h4 _ ⟨rfl,rfl⟩
     ·rw[h0]at h4;cases h4
    ·exact h.elim
  ·exact h.elim
theorem vZ {i:Nat}{o:Nu}{tv:ON AV}{K:AV->AV->ON Box->Prop}{Q:Me->NI->N4->Prop}{next:NI->N4->Prop}(ho:ops[i]? = some o) (hR:M5 G nb c H w tv a) (h1:isTail o.op=false) (h2:isAllocO o.op=false) (h:w9 P G ops i tv H K) (hn:∀v w' c' av a',K av a' H->Nw c w c' w'->zp c H c' H->HR c' H w'->yA c' H w' (a.put o.dst v).tmps a' v->next (a.put o.dst v) w'): wpOpIn (wF rd) 0 P ops Q i next a w:=by
 have hoa:zq ops i=o:=by simp[zq,Lk,ho]
 unfold w9 at h;rw[hoa]at h;unfold wpOpIn;rw[ho];simp only;split at h
 ·rename_i hg;have hw:L5 o (yielded ops a.tmps)=true:=by simp[L5,hg]
  rw[Nf hw];refine tc hR (λg p h=>by simp[hasTag]at h) trivial (cJ h1 h2 h) ?_;intro v w' c' av H' hk e k hr hra;obtain⟨rfl,hk⟩:=hk;exact hn v w' c' av _ hk e k hr (xp hra)
 ·rename_i j p hg;split at h
  ·rename_i g hgd;split at h
   ·exact h.elim
   ·rename_i hne;split at h
    ·rename_i tags C hch;have hyield:yielded ops a.tmps j=match a.tmps[g]? with|some (.bool b)=>some b|_=>none:=by unfold yielded;rw[hgd];rfl
     have hgp:∀v,(a.put o.dst v).tmps[g]? = a.tmps[g]? :=by
      intro v;cases hd:o.dst with
      |none=>rfl
      |some d =>
       rw[yV,Kg];have:d≠g:=λe=>hne (by rw[hd,e]);simp[this]
     by_cases hw:L5 o (yielded ops a.tmps)=true
     ·rw[Nf hw];have hgt:a.tmps[g]? = some (.bool p):=by
       simp only[L5,hg,hyield]at hw;split at hw
       ·rename_i b hb;simp at hw;subst hw;exact hb
       ·simp at hw
      obtain⟨hC,htags,_⟩:=r9 hR 9 g p tags C hgt hch;refine tc hR htags hC (cJ h1 h2 h) ?_;intro v w' c' av H' hk e k hr hra;obtain⟨rfl,hk⟩:=hk;refine hn v w' c' av _ hk e k hr ⟨λ_=>hra.dull,λhno=>?_⟩;rw[hgp]at hno;exact No hgt hno
     ·rw[N2 hw];refine⟨λ_ _=>trivial,?_⟩;have hne':tags≠[]:=by
       intro h0;subst h0;simp only[chain]at hch;split at hch
       ·cases hch
       ·split at hch
        ·cases hch
        ·cases hch
       ·cases hch
      obtain⟨av,hk⟩:=cL h hne';refine hn undef w c av _ hk (L7 _ _) (Md _ _) hR.hr ⟨λhyes=>?_,λ_=>rfl⟩;rw[hgp]at hyes;exact No (by simp[L5,hg,hyield,hyes]) hw
    ·exact h.elim
  ·exact h.elim
end
end Go.Sx
