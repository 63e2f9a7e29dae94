/- Joined texts: the walk by computed conditions, the contracts of the functions, the plain laws. -/
import Derived.Calls
import Derived.OrdersIn
import Derived.KernelRfl
import Derived.Laws.Sem
import Derived.Laws.Cells
import Derived.Laws.CopyRow
import Derived.Laws.Strings
import Derived.Laws.StructEq
import Derived.Laws.Cover3
import Derived.Laws.AppendOwn
import Derived.Laws.MakeOwn
set_option linter.unusedVariables false
set_option linter.unusedSimpArgs false
set_option maxRecDepth 100000
set_option maxHeartbeats 0
noncomputable section
open Array renaming ext'->FP,foldl_toList->zzA,getD_eq_getD_getElem?->FN,getElem?_push_size->zxY,getElem?_setIfInBounds->EW,getElem?_toList->Du,length_toList->Ey,map->zzu,range->zyJ,toList_zipIdx->zxP
open BitVec renaming ofInt->Cz
open Bool renaming and_eq_true->HC,false_eq_true->FU,or_eq_true->F9
open Classical renaming em->EA
open Go renaming Act->HA,Addr->E2,BinOp->EK,Builtin->Fy,Calls->Ef,Code->He,Deferred->Co,Exit->GW,Field->Cn,FuncId->Fp,IntKind->IF,MapEntry->Ea,Next->E9,Obj->FV,Oper->Hp,Operand->G1,Program->HP,Sem->HG,TypeDesc->Dz,TypeInfo->Cv,World->H5
open Go.Addr renaming add->zzk
open Go.Builtin renaming append_->Dq,lenOf->zwp,len_->CU,max_->zwj,zeroCells->zy4
open Go.Deferred renaming ofValue->zyz
open Go.Fence renaming wide->zz9
open Go.Instr renaming build->AJ,buildSlice->BU,checkKey->Da,extract->C9,field->zyI,fieldAt->zyd,fill->zz5,findAsking->D4,findKey->D7,findNow->D6,index->zyK,indexAt->CW,loadAt->DH,lookup->DY,makeSlice->zwy,mapUpdate->Ag,sameBits->B3,sameNow->AZ,slice->CS,sliceAt->EU,sliceBound->zw4,sliceBounds->Cc,storeAt->Dl,sureAddr->DL
open Go.IntKind renaming i64->Ho
open Go.Next renaming skip->zzr,value->zz8
open Go.Obj renaming cells->zyA
open Go.Op renaming bytesLess->AU,eqFields->AK,equal->BA,equalIn->zz6,intArith->zwH,maxDepth->zwF,stringOp->zwG,unary->zx5
open Go.Oper renaming semAt_eq->EC
open Go.Operand renaming const->AX
open Go.Region renaming binds->Ed,ready->Ek,wanted->Fr
open Go.Result renaming andThen_ok->Gm
open Go.Sem renaming run->Bs,run_bind->Gk,run_pure->GF
open Go.Value renaming cells->E7
open Go.World renaming cell?->Ec
open Int renaming le_refl->DG
open List renaming all_eq_true->G3,append_assoc->DN,append_nil->D5,drop_eq_nil_of_le->Fx,drop_nil->zwq,drop_take->Ab,eq_nil_of_length_eq_zero->Df,eq_of_mem_replicate->Bg,ext_getElem?->DO,find?_cons->EQ,flatMap_append->Al,flatMap_cons->CA,flatMap_def->zy9,flatten_cons->BY,foldl_cons->CY,getD_eq_getElem?_getD->Es,getElem?_append->zxU,getElem?_append_left->Ez,getElem?_append_right->EG,getElem?_cons_succ->zzH,getElem?_drop->Ds,getElem?_eq_getElem->Ff,getElem?_eq_none->Gt,getElem?_map->G5,getElem?_range->An,getElem?_replicate->Ar,getElem?_set->E4,getElem?_take->Fa,getElem?_toArray->CE,getElem?_zipIdx->zxT,getElem_map->zw3,getElem_mem->ED,length->IR,length_append->FG,length_cons->F2,length_map->H4,length_nil->FL,length_replicate->Aq,length_take->FS,mapM_cons->Db,map_cons->Gb,map_nil->FQ,map_replicate->Cg,map_toArray->zy8,mem_cons_self->Ak,mem_iff_getElem->EF,mem_map->Gd,mem_of_getElem?->GS,mem_of_mem_take->De,modify_succ_cons->zxV,modify_zero_cons->zxW,nil_append->BR,range'->Dk,range->Gp,replicate->G8,replicate_succ->Am,size_toArray->BX,take_append_drop->CD,take_length->FR,take_nil->AY,zipIdx_cons->zw2
open List.cons renaming injEq->EP
open Nat renaming add_assoc->CV,add_mul->FC,add_sub_cancel->CC,add_zero->DX,div_add_mod->BQ,div_lt_iff_lt_mul->zzE,le_refl->GE,le_trans->EN,lt_of_lt_of_le->F4,lt_or_ge->G4,mod_lt->By,mul_comm->Cy,mul_le_mul_right->Be,mul_one->B8,sub_zero->zyX,testBit_or->zwu,zero_add->E6,zero_mul->AT
open Ne renaming symm->D0
open Option renaming bind_some->CZ,getD_some->FT,isSome_none->DP,isSome_some->Dd,map->BF,map_eq_some_iff->Dv,map_none->Ee,map_some->Fi
open Option.some renaming injEq->Er
open Prod.mk renaming injEq->Dm
open _root_ renaming Array->IG,ByteArray->HT,False->HD,List->IU,Option->IQ,True->IN,absurd->Hu,congrArg->Gv,decide_eq_true_eq->HS,if_neg->IE,if_pos->Hv
namespace Go.Sx
open Go
inductive D where
 |int (k:IF) (n:Int)
 |bool (b:Bool)
 |str (s:IU UInt8)
 |sl (ds:IU D)
 |agg (cs:IU D)
 |fn (f:Nat)
 |gmap (es:IU (D×D))
instance:Inhabited D:=⟨.bool false⟩
def D.cells:D->IU D
 |.agg cs=>cs
 |d=>[d]
def z1 (ds:IU D) (i j:Nat):IQ D:=(ds[i]?).bind λd=>d.cells[j]?
inductive R1 (I:Nat->Nat->Prop) (J:Nat->Prop) (w:H5):Value->D->Prop
 |int (k:IF) (n:Int):R1 I J w (.int k n) (.int k n)
 |bool (b:Bool):R1 I J w (.bool b) (.bool b)
 |str (s:IU UInt8):R1 I J w (.string ⟨s.toArray⟩) (.str s)
 |fn (f:Nat):R1 I J w (.func (.func f) #[] #[]) (.fn f)
 |nil:R1 I J w (.slice none 0 0) (.sl [])
 |emp (a:E2) (cap:Nat):R1 I J w (.slice (some a) 0 cap) (.sl [])
 |sl (b off cap sz:Nat) (ds:IU D) (vals:Nat->Nat->Value)
   (hsz:∀d∈ds,d.cells.length=sz)
   (hc:∀i j d,z1 ds i j=some d->I b (off+i*sz+j)/\w.cell? ⟨b,off+i*sz+j,none⟩=some (vals i j))
   (hr:∀i j d,z1 ds i j=some d->R1 I J w (vals i j) d)
   (hcap:ds.length<=cap):R1 I J w (.slice (some ⟨b,off,none⟩) ds.length cap) (.sl ds)
 |gmap (r:Nat) (ents:IG Ea) (clk:Nat) (es:IU (D×D)) (hJ:J r) (hw:w.heap[r]? = some (.map ents clk))
   (hlen:ents.size=es.length)
   (hk:∀(i:Nat) kv,es[i]? = some kv->R1 I J w (ents.getD i default).key kv.1)
   (hv:∀(i:Nat) kv,es[i]? = some kv->R1 I J w (ents.getD i default).val kv.2):R1 I J w (.map (some r)) (.gmap es)
def zy {α β:Type}(R:α->β->Prop) (xs:IU α) (ys:IU β):Prop :=xs.length=ys.length/\∀(i:Nat) x y,xs[i]? = some x->ys[i]? = some y->R x y
theorem zy.nil {α β:Type}{R:α->β->Prop}:zy R [] []:=⟨rfl,by simp⟩
theorem zy.cons {α β:Type}{R:α->β->Prop}{x:α}{y:β}{xs:IU α}{ys:IU β}(h:R x y) (hs:zy R xs ys):zy R (x::xs) (y::ys):=by
 refine⟨by simp[hs.1],λi a b ha hb=>?_⟩;cases i with
 |zero=>simp at ha hb;subst ha;subst hb;exact h
 |succ i=>simp at ha hb;exact hs.2 i a b ha hb
theorem zy.nil_right {α β:Type}{R:α->β->Prop}{xs:IU α}(h:zy R xs []):xs=[]:=by have:=h.1;simpa using this
theorem zy.cons_right {α β:Type}{R:α->β->Prop}{y:β}{xs:IU α}{ys:IU β}(h:zy R xs (y::ys)):∃x xs',xs=x::xs'/\R x y/\zy R xs' ys:=by
 cases xs with
 |nil=>have:=h.1;simp at this
 |cons x xs =>
  refine⟨x,xs,rfl,h.2 0 x y rfl rfl,by have:=h.1;simpa using this,λi a b ha hb=>h.2 (i+1) a b (by simpa using ha) (by simpa using hb)⟩
theorem zy.mono {α β:Type}{R R':α->β->Prop}{xs:IU α}{ys:IU β}(h:zy R xs ys) (hr:∀x y,R x y->R' x y):zy R' xs ys :=⟨h.1,λi x y hx hy=>hr _ _ (h.2 i x y hx hy)⟩
theorem zy.append {α β:Type}{R:α->β->Prop}{xs xs':IU α}{ys ys':IU β}(h:zy R xs ys) (h':zy R xs' ys'):zy R (xs++xs') (ys++ys'):=by
 refine⟨by simp[h.1,h'.1],λi a b ha hb=>?_⟩;rw[zxU]at ha hb;rw[h.1]at ha;split at ha
 ·rename_i hlt;rw[Hv hlt]at hb;exact h.2 i a b ha hb
 ·rename_i hlt;rw[IE hlt]at hb;exact h'.2 _ a b ha hb
theorem zy.set {α β:Type}{R:α->β->Prop}{xs:IU α}{ys:IU β}(h:zy R xs ys) (i:Nat) {x:α}{y:β}(hr:R x y):zy R (xs.set i x) (ys.set i y):=by
 refine⟨by simp[h.1],λj a b ha hb=>?_⟩;rw[E4]at ha hb;rw[h.1]at ha;split at ha
 ·rename_i e;subst e;simp only[if_true]at hb;split at ha
  ·rename_i hlt;simp only[hlt,if_true]at hb;simp at ha hb;subst ha;subst hb;exact hr
  ·simp at ha
 ·rename_i e;rw[IE e]at hb;exact h.2 j a b ha hb
theorem zy.get {α β:Type}{R:α->β->Prop}{xs:IU α}{ys:IU β}(h:zy R xs ys) {i:Nat}{y:β}(hy:ys[i]? = some y):∃x,xs[i]? = some x/\R x y:=by
 have hlt:i<ys.length:=by rcases G4 i ys.length with h|h;exact h;simp[Gt h]at hy
 have hx:i<xs.length:=by rw[h.1];exact hlt
 exact⟨xs[i],by simp[hx],h.2 i _ y (by simp[hx]) hy⟩
theorem zy.drop {α β:Type}{R:α->β->Prop}{xs:IU α}{ys:IU β}(h:zy R xs ys) (n:Nat):zy R (xs.drop n) (ys.drop n) :=⟨by simp[h.1],λi a b ha hb=>h.2 (n+i) a b (by simpa using ha) (by simpa using hb)⟩
theorem zy.take {α β:Type}{R:α->β->Prop}{xs:IU α}{ys:IU β}(h:zy R xs ys) (n:Nat):zy R (xs.take n) (ys.take n):=by
 refine⟨by simp[h.1],λi a b ha hb=>?_⟩;rw[Fa]at ha hb;split at ha
 ·rename_i hlt;rw[Hv hlt]at hb;exact h.2 i a b ha hb
 ·simp at ha
def RV (I:Nat->Nat->Prop) (J:Nat->Prop) (w:H5) (v:Value) (x:D):Prop :=match x with
 |.agg cs=>∃vs:IU Value,v = .agg vs.toArray/\zy (R1 I J w) vs cs
 |x=>R1 I J w v x
theorem RV.cells {I J w v x} (h:RV I J w v x):zy (R1 I J w) v.cells.toList x.cells:=by
 cases x<;>simp only[RV]at h<;>first
  |(obtain⟨vs,rfl,hv⟩:=h;simpa[E7,D.cells]using hv)
  |exact(by have h':=h;cases h<;>exact zy.cons h' zy.nil)
inductive AV where
 |d (x:D)
 |ptr (l o:Nat)
 |iptr (cs:IU D)
 |clo (f:Nat) (first cap:IU AV)
 |full (ds:IU D)
 |vec (l:Nat) (ds:IU D)
 |map (l:Nat)
 |tup (vs:IU AV)
 |agg (cs:IU AV)
 |any
 |opt (g:Nat) (pol:Bool) (x:AV)
 |yld (l:Nat)
 |nils
 |nilf
 |fsym (o:IQ Nat)
 |msl (l:Nat)
 |eptr (l i o:Nat)
instance:Inhabited AV:=⟨.any⟩
inductive Box where
 |cells (T:TypeId) (cs:IU AV)
 |map (es:IU (D×D))
 |vec (n sz:Nat)
 |dead
 |arr (sz:Nat) (ds:IU D)
 |loop (tm:IU AV) (ps:IU Nat) (asn bd:He) (pend:IQ He) (st:LoopState)
structure Cx where
 ρ:IU (IQ (Nat×Nat))
 I:Nat->Nat->Prop
 J:Nat->Prop
inductive RA (c:Cx) (H:IU Box) (w:H5):AV->Value->Prop
 |d {x:D}{v:Value}(h:RV c.I c.J w v x):RA c H w (.d x) v
 |ptr {l o b k:Nat}{T:TypeId}{cs:IU AV}(hH:H[l]? = some (.cells T cs)) (h:c.ρ[l]? = some (some (b,k))):RA c H w (.ptr l o) (.pointer (some ⟨b,o,none⟩))
 |iptr {cs:IU D}{b o:Nat}(h:∀(j:Nat) x,cs[j]? = some x->c.I b (o+j)/\∃v,w.cell? ⟨b,o+j,none⟩=some v/\R1 c.I c.J w v x) :
   RA c H w (.iptr cs) (.pointer (some ⟨b,o,none⟩))
 |clo {f:Nat}{fi ca:IU AV}{fv cv:IU Value}(hf:fi.length=fv.length) (hc:ca.length=cv.length)
   (h1:∀(i:Nat) a v,fi[i]? = some a->fv[i]? = some v->RA c H w a v) (h2:∀(i:Nat) a v,ca[i]? = some a->cv[i]? = some v->RA c H w a v) :
   RA c H w (.clo f fi ca) (.func (.func f) fv.toArray cv.toArray)
 |full {ds:IU D}{a:IQ E2}{n:Nat}(h:R1 c.I c.J w (.slice a n n) (.sl ds)):RA c H w (.full ds) (.slice a n n)
 |vec {l n sz:Nat}{ds:IU D}{a:IQ E2}{m k:Nat}(h:R1 c.I c.J w (.slice a m k) (.sl ds)) (hH:H[l]? = some (.vec n sz)) (hn:ds.length<=n)
   (he:ds.length=n->k=m∨ ∃b,a=some ⟨b,0,none⟩/\c.ρ[l]? = some (some (b,k))):RA c H w (.vec l ds) (.slice a m k)
 |map {l b k:Nat}{es:IU (D×D)}(hH:H[l]? = some (.map es)) (h:c.ρ[l]? = some (some (b,k))):RA c H w (.map l) (.map (some b))
 |tup {aas:IU AV}{vs:IU Value}(hl:aas.length=vs.length) (h:∀(i:Nat) a v,aas[i]? = some a->vs[i]? = some v->RA c H w a v) :
   RA c H w (.tup aas) (.tuple vs.toArray)
 |agg {aas:IU AV}{vs:IU Value}(hl:aas.length=vs.length) (h:∀(i:Nat) a v,aas[i]? = some a->vs[i]? = some v->RA c H w a v) :
   RA c H w (.agg aas) (.agg vs.toArray)
 |any (v:Value):RA c H w .any v
 |opt (g:Nat) (pol:Bool) (x:AV) (v:Value):RA c H w (.opt g pol x) v
 |yld {l b k:Nat}{tm:IU AV}{ps:IU Nat}{asn bd:He}{pend:IQ He}{st:LoopState}(hH:H[l]? = some (.loop tm ps asn bd pend st)) (h:c.ρ[l]? = some (some (b,k))):RA c H w (.yld l) (.func (.yield b) #[] #[])
 |nils:RA c H w .nils (.slice none 0 0)
 |nilf:RA c H w .nilf .nilFunc
 |fsym (o:IQ Nat):RA c H w (.fsym o) (match o with|some n=>.func (.func n) #[] #[]|none=>.nilFunc)
 |msl {l b k sz:Nat}{ds:IU D}(hH:H[l]? = some (.arr sz ds)) (h:c.ρ[l]? = some (some (b,k))):RA c H w (.msl l) (.slice (some ⟨b,0,none⟩) ds.length ds.length)
 |eptr {l i o b k sz:Nat}{ds:IU D}(hH:H[l]? = some (.arr sz ds)) (h:c.ρ[l]? = some (some (b,k))):RA c H w (.eptr l i o) (.pointer (some ⟨b,i*sz+o,none⟩))
def qW (c:Cx) (H:IU Box) (w:H5) (b k:Nat):Box->Prop
 |.cells T cs=>∃vs:IU Value,w.heap[b]? = some (.cells vs.toArray T (0,0))/\zy (λv a=>RA c H w a v) vs cs
 |.map es=>∃ents clk,w.heap[b]? = some (.map ents clk)/\zy (λ(e:Ea) (kv:D×D)=>RV c.I c.J w e.key kv.1/\RV c.I c.J w e.val kv.2) ents.toList es
 |.vec n sz=>∃vs T,w.heap[b]? = some (.cells vs T (0,0))/\vs.size=k*sz/\n<=k
 |.dead=>IN
 |.arr sz ds=>∃(vs:IU Value) (T:TypeId),w.heap[b]? = some (.cells vs.toArray T (0,0))/\(∀d∈ds,d.cells.length=sz)/\zy (R1 c.I c.J w) vs (ds.flatMap D.cells)
 |.loop tm ps asn bd pend st=>∃r:Loop,w.heap[b]? = some (.loop r)/\r.params.toList=ps/\r.assign=asn/\r.body=bd/\r.pending=pend/\r.state=st/\zy (λv a=>RA c H w a v) r.tmps.toList tm
structure HR (c:Cx) (H:IU Box) (w:H5):Prop where
 len:c.ρ.length=H.length
 inj:∀l l' b k k':Nat,c.ρ[l]? = some (some (b,k))->c.ρ[l']? = some (some (b,k'))->l=l'
 box:∀(l b k:Nat) x,c.ρ[l]? = some (some (b,k))->H[l]? = some x->qW c H w b k x
 non:∀(l:Nat) x,c.ρ[l]? = some none->H[l]? = some x->(∃n sz,x = .vec n sz)∨x = .dead
 lt:∀l b k:Nat,c.ρ[l]? = some (some (b,k))->b<w.heap.size
 ilt:∀b o,c.I b o->b<w.heap.size
 jlt:∀r,c.J r->r<w.heap.size
 iap:∀b o l k:Nat,c.I b o->c.ρ[l]? = some (some (b,k))->∃n sz,H[l]? = some (.vec n sz)/\o<n*sz
 jap:∀r l k:Nat,c.J r->c.ρ[l]? ≠ some (some (r,k))
structure Ext (c:Cx) (w:H5) (c':Cx) (w':H5):Prop where
 os:w'.os=w.os
 tape:w'.tape=w.tape
 output:w'.output=w.output
 isub:∀b o,c.I b o->c'.I b o
 jsub:∀r,c.J r->c'.J r
 icell:∀b o,c.I b o->w'.cell? ⟨b,o,none⟩=w.cell? ⟨b,o,none⟩
 jobj:∀r,c.J r->w'.heap[r]? = w.heap[r]?
 size:w.heap.size<=w'.heap.size
 frame:∀b,b<w.heap.size->(∀l k:Nat,c.ρ[l]? ≠ some (some (b,k)))->w'.heap[b]? = w.heap[b]?
 inew:∀b o:Nat,c'.I b o->c.I b o∨w.heap.size<=b∨ ∃l k:Nat,c.ρ[l]? = some (some (b,k))
 jnew:∀r:Nat,c'.J r->c.J r∨w.heap.size<=r
 fresh:∀l b k:Nat,c'.ρ[l]? = some (some (b,k))->(∃l' k':Nat,c.ρ[l']? = some (some (b,k')))∨w.heap.size<=b
theorem Ext.refl (c:Cx) (w:H5):Ext c w c w :=⟨rfl,rfl,rfl,λ_ _ h=>h,λ_ h=>h,λ_ _ _=>rfl,λ_ _=>rfl,GE _,λ_ _ _=>rfl,λ_ _ h=>.inl h,λ_ h=>.inl h,λl _ k h=>.inl ⟨l,k,h⟩⟩
theorem Ext.trans {c w c' w' c'' w''} (h:Ext c w c' w') (h':Ext c' w' c'' w''):Ext c w c'' w'' where
 os:=h'.os.trans h.os
 tape:=h'.tape.trans h.tape
 output:=h'.output.trans h.output
 isub b o x:=h'.isub b o (h.isub b o x)
 jsub r x:=h'.jsub r (h.jsub r x)
 icell b o x:=by rw[h'.icell b o (h.isub b o x),h.icell b o x]
 jobj r x:=by rw[h'.jobj r (h.jsub r x),h.jobj r x]
 size:=EN h.size h'.size
 frame b hb hn:=by
  rw[h'.frame b (F4 hb h.size) (λl k hl=>?_),h.frame b hb hn];rcases h.fresh l b k hl with⟨l',k',hl'⟩|hge
  ·exact hn l' k' hl'
  ·omega
 inew b o hi:=by
  rcases h'.inew b o hi with h1|h1|⟨l,k,h1⟩
  ·exact h.inew b o h1
  ·exact .inr (.inl (EN h.size h1))
  ·rcases h.fresh l b k h1 with⟨l',k',h2⟩|h2
   ·exact .inr (.inr ⟨l',k',h2⟩)
   ·exact .inr (.inl h2)
 jnew r hr:=by
  rcases h'.jnew r hr with h1|h1
  ·exact h.jnew r h1
  ·exact .inr (EN h.size h1)
 fresh l b k hl:=by
  rcases h'.fresh l b k hl with⟨l',k',hl'⟩|hge
  ·exact h.fresh l' b k' hl'
  ·exact .inr (EN h.size hge)
def zl (c:Cx) (H:IU Box) (c':Cx) (H':IU Box):Prop :=∀(l:Nat) x,H[l]? = some x->match x with
  |.vec n sz=>∃n',H'[l]? = some (.vec n' sz)/\n<=n'/\(n=n'->c'.ρ[l]? = c.ρ[l]?)
  |.dead=>IN
  |.arr sz ds=>(∃ds',H'[l]? = some (.arr sz ds')/\ds'.length=ds.length)/\c'.ρ[l]? = c.ρ[l]?
  |.cells T _=>(∃cs',H'[l]? = some (.cells T cs'))/\c'.ρ[l]? = c.ρ[l]?
  |.map _=>(∃es',H'[l]? = some (.map es'))/\c'.ρ[l]? = c.ρ[l]?
  |.loop tm ps asn bd _ _=>(∃pend' st',H'[l]? = some (.loop tm ps asn bd pend' st'))/\c'.ρ[l]? = c.ρ[l]?
theorem zl.refl (c:Cx) (H:IU Box):zl c H c H:=by intro l x h;cases x<;>simp_all
theorem zl.trans {c H c' H' c'' H''} (h:zl c H c' H') (h':zl c' H' c'' H''):zl c H c'' H'':=by
 intro l x hx;have h1:=h l x hx;cases x with
 |vec n sz =>
  obtain⟨n',a,b,e⟩:=h1;obtain⟨n'',a',b',e'⟩:=h' l _ a;exact⟨n'',a',EN b b',λhe=>by
   have e1:n=n':=by omega
   have e2:n'=n'':=by omega
   rw[e' e2,e e1]⟩
 |dead=>trivial
 |arr sz ds =>
  obtain⟨⟨ds',a,n⟩,e⟩:=h1;obtain⟨⟨ds'',a',n'⟩,e'⟩:=h' l _ a;exact⟨⟨ds'',a',n'.trans n⟩,by rw[e',e]⟩
 |cells T cs =>
  obtain⟨⟨cs',a⟩,e⟩:=h1;obtain⟨⟨cs'',a'⟩,e'⟩:=h' l _ a;exact⟨⟨cs'',a'⟩,by rw[e',e]⟩
 |map es =>
  obtain⟨⟨cs',a⟩,e⟩:=h1;obtain⟨⟨cs'',a'⟩,e'⟩:=h' l _ a;exact⟨⟨cs'',a'⟩,by rw[e',e]⟩
 |loop tm ps asn bd pend st =>
  obtain⟨⟨p1,s1,a⟩,e⟩:=h1;obtain⟨⟨p2,s2,a'⟩,e'⟩:=h' l _ a;exact⟨⟨p2,s2,a'⟩,by rw[e',e]⟩
theorem R1.ext {c w c' w'} (e:Ext c w c' w') {v x} (h:R1 c.I c.J w v x):R1 c'.I c'.J w' v x:=by
 induction h with
 |int k n=>exact .int k n
 |bool b=>exact .bool b
 |str s=>exact .str s
 |fn f=>exact .fn f
 |nil=>exact .nil
 |emp a cap=>exact .emp a cap
 |sl b off cap sz ds vals hsz hc hr hcap ih =>
  exact .sl b off cap sz ds vals hsz (λi j d hd=>⟨e.isub _ _ (hc i j d hd).1,by rw[e.icell _ _ (hc i j d hd).1];exact(hc i j d hd).2⟩) ih hcap
 |gmap r ents clk es hJ hw hlen hk hv ihk ihv=>exact .gmap r ents clk es (e.jsub _ hJ) (by rw[e.jobj _ hJ];exact hw) hlen ihk ihv
theorem RV.ext {c w c' w'} (e:Ext c w c' w') {v x} (h:RV c.I c.J w v x):RV c'.I c'.J w' v x:=by
 cases x<;>simp only[RV]at h ⊢ <;> first
  |exact R1.ext e h
  |(obtain⟨vs,rfl,hv⟩:=h;exact⟨vs,rfl,hv.mono λ_ _=>R1.ext e⟩)
theorem RA.ext {c H w c' H' w'} (e:Ext c w c' w') (k:zl c H c' H') {v a} (h:RA c H w a v):RA c' H' w' a v:=by
 induction h with
 |d h=>exact .d (h.ext e)
 |@ptr l o b q T cs hH h =>
  obtain⟨⟨cs',h1⟩,h2⟩:=k l _ hH;exact .ptr h1 (by rw[h2];exact h)
 |iptr h=>exact .iptr λj x hx=>⟨e.isub _ _ (h j x hx).1,by obtain⟨hi,v,hv,hr⟩:=h j x hx;exact⟨v,by rw[e.icell _ _ hi];exact hv,hr.ext e⟩⟩
 |clo hf hc _ _ ih1 ih2=>exact .clo hf hc ih1 ih2
 |full h=>exact .full (h.ext e)
 |nils=>exact .nils
 |nilf=>exact .nilf
 |fsym o=>exact .fsym o
 |@vec l n sz ds a m q h hH hn he =>
  obtain⟨n',a',b',e'⟩:=k l _ hH;refine .vec (h.ext e) a' (by omega) λhl=>?_;have e1:n=n':=by omega
  rcases he (by omega)with h1|⟨b,h1,h2⟩
  ·exact .inl h1
  ·exact .inr ⟨b,h1,by rw[e' e1];exact h2⟩
 |@map l b q es hH h =>
  obtain⟨⟨cs',h1⟩,h2⟩:=k l _ hH;exact .map h1 (by rw[h2];exact h)
 |tup hl _ ih=>exact .tup hl ih
 |agg hl _ ih=>exact .agg hl ih
 |any v=>exact .any v
 |opt g p x v=>exact .opt g p x v
 |@msl l b q sz ds hH h =>
  obtain⟨⟨ds',h1,hn⟩,h2⟩:=k l _ hH;rw[←hn];exact .msl h1 (by rw[h2];exact h)
 |@eptr l i o b q sz ds hH h =>
  obtain⟨⟨ds',h1,hn⟩,h2⟩:=k l _ hH;exact .eptr h1 (by rw[h2];exact h)
 |@yld l b q tm ps asn bd pend st hH h =>
  obtain⟨⟨p1,s1,h1⟩,h2⟩:=k l _ hH;exact .yld h1 (by rw[h2];exact h)
open Go.Sx renaming Ext->Hs
open Go.Sx.AV renaming d->IH
open Go.Sx.Box renaming vec->FY
open Go.Sx.D renaming cells->Gq
open Go.Sx.Ext renaming refl->Fq
open Go.Sx.R1 renaming bool->EZ,emp->Az,int->D1,sl->Cm
open Go.Sx.RA renaming vec->Bn
open Go.Sx.zl renaming refl->GV
open Go.Sx.zy renaming cons->Gw,nil->Ga
theorem xc {w w':H5}{b:Nat}(h:w'.heap[b]? = w.heap[b]?) (o:Nat) (s:IQ Nat):w'.cell? ⟨b,o,s⟩=w.cell? ⟨b,o,s⟩:=by simp[Ec,h]
theorem y8 {w:H5}{o:FV}{b:Nat}(h:b<w.heap.size):({ w with heap:=w.heap.push o }:H5).heap[b]? = w.heap[b]? :=by simp only;rw[IG.getElem?_push];simp[Nat.ne_of_lt h]
theorem vr (w:H5) (o:FV):({ w with heap:=w.heap.push o }:H5).heap[w.heap.size]? = some o:=by simp
theorem qW.ext {c H w c' H' w' b k x} (e:Hs c w c' w') (kp:zl c H c' H') (hb:w'.heap[b]? = w.heap[b]?) (h:qW c H w b k x):qW c' H' w' b k x:=by
 cases x with
 |cells T cs=>obtain⟨vs,h1,h2⟩:=h;exact⟨vs,by rw[hb];exact h1,h2.mono λ_ _ h=>h.ext e kp⟩
 |map es=>obtain⟨en,clk,h1,h2⟩:=h;exact⟨en,clk,by rw[hb];exact h1,h2.mono λ_ _ h=>⟨h.1.ext e,h.2.ext e⟩⟩
 |vec n sz=>obtain⟨vs,T,h1,h2⟩:=h;exact⟨vs,T,by rw[hb];exact h1,h2⟩
 |dead=>trivial
 |arr sz ds=>obtain⟨vs,T,h1,h2,h3⟩:=h;exact⟨vs,T,by rw[hb];exact h1,h2,h3.mono λ_ _ h=>h.ext e⟩
 |loop tm ps asn bd pend st=>obtain⟨r,h1,h2,h3,h4,h5,h6,h7⟩:=h;exact⟨r,by rw[hb];exact h1,h2,h3,h4,h5,h6,h7.mono λ_ _ h=>h.ext e kp⟩
theorem Ext.drew (c:Cx) (w:H5) (n:Nat):Hs c w c { w with drawn:=n } :=⟨rfl,rfl,rfl,λ_ _ h=>h,λ_ h=>h,λ_ _ _=>rfl,λ_ _=>rfl,GE _,λ_ _ _=>rfl,λ_ _ h=>.inl h,λ_ h=>.inl h,λl _ k h=>.inl ⟨l,k,h⟩⟩
theorem HR.drew {c H w} (h:HR c H w) (n:Nat):HR c H { w with drawn:=n } where
 len:=h.len
 inj:=h.inj
 box l b k x h1 h2:=(h.box l b k x h1 h2).ext (Ext.drew c w n) (GV _ _) rfl
 non:=h.non
 lt:=h.lt
 ilt:=h.ilt
 jlt:=h.jlt
 iap:=h.iap
 jap:=h.jap
def Cx.imm (c:Cx) (b n:Nat):Cx:= { c with I:=λb' o=>c.I b' o∨(b'=b/\o<n) }
theorem Ext.push_imm (c:Cx) (w:H5) (o:FV) (n:Nat) (hi:∀b o,c.I b o->b<w.heap.size) (hj:∀r,c.J r->r<w.heap.size): Hs c w (c.imm w.heap.size n) { w with heap:=w.heap.push o } where
 os:=rfl
 tape:=rfl
 output:=rfl
 isub _ _ h:= .inl h
 jsub _ h:=h
 icell b o h:=xc (y8 (hi b o h)) _ _
 jobj r h:=y8 (hj r h)
 size:=by simp
 frame b hb _:=y8 hb
 inew b o h:=by
  rcases h with h|⟨rfl,_⟩
  ·exact .inl h
  ·exact .inr (.inl (GE _))
 jnew _ h:= .inl h
 fresh l b k h:= .inl ⟨l,k,h⟩
theorem HR.push_imm {c H w} (h:HR c H w) (o:FV) (n:Nat):HR (c.imm w.heap.size n) H { w with heap:=w.heap.push o } where
 len:=h.len
 inj:=h.inj
 box l b k x h1 h2:=(h.box l b k x h1 h2).ext (Ext.push_imm c w o n h.ilt h.jlt) (GV _ _) (y8 (h.lt l b k h1))
 non:=h.non
 lt l b k h1:=by have:=h.lt l b k h1;simp;omega
 ilt b o hi:=by
  rcases hi with hi|⟨rfl,_⟩
  ·have:=h.ilt b o hi;simp;omega
  ·simp
 jlt r hr:=by have:=h.jlt r hr;simp;omega
 iap b o l k hi h1:=by
  rcases hi with hi|⟨rfl,_⟩
  ·exact h.iap b o l k hi h1
  ·exact Hu (h.lt l _ k h1) (Nat.lt_irrefl _)
 jap:=h.jap
theorem zl.imm (c:Cx) (H:IU Box) (b n:Nat):zl c H (c.imm b n) H:=GV c H
def Cx.grow (c:Cx) (b k:Nat):Cx:= { c with ρ:=c.ρ++[some (b,k)] }
theorem qV {α:Type}{xs:IU α}{y:α}{l:Nat}(h:l<xs.length):(xs++[y])[l]? = xs[l]? :=by rw[Ez h]
theorem xr {α:Type}{xs:IU α}{x y:α}{l:Nat}(h:xs[l]? = some x):(xs++[y])[l]? = some x:=by
 have:l<xs.length:=by rcases G4 l xs.length with h' |h';exact h';simp[Gt h']at h
 rw[qV this,h]
theorem zo {α:Type}{xs:IU α}{x y:α}{l:Nat}(h:(xs++[y])[l]? = some x):xs[l]? = some x∨(l=xs.length/\x=y):=by
 rw[zxU]at h;split at h
 ·exact .inl h
 ·rename_i hl;rcases G4 (l - xs.length) 1 with h1|h1
  ·have:l - xs.length=0:=by omega
   rw[this]at h;simp at h;exact .inr ⟨by omega,h.symm⟩
  ·rw[Gt (by simpa using h1)]at h;simp at h
theorem zl.grow (c:Cx) (H:IU Box) (b k:Nat) (x:Box) (hl:c.ρ.length=H.length):zl c H (c.grow b k) (H++[x]):=by
 intro l y hy;have hlt:l<H.length:=by rcases G4 l H.length with h' |h';exact h';simp[Gt h']at hy
 have e1:(H++[x])[l]? = some y:=xr hy;have e2:(c.grow b k).ρ[l]? = c.ρ[l]? :=qV (by omega);cases y<;>simp only[e1,e2]<;>simp
theorem Ext.push_box (c:Cx) (w:H5) (o:FV) (k:Nat) (hi:∀b o,c.I b o->b<w.heap.size) (hj:∀r,c.J r->r<w.heap.size): Hs c w (c.grow w.heap.size k) { w with heap:=w.heap.push o } where
 os:=rfl
 tape:=rfl
 output:=rfl
 isub _ _ h:=h
 jsub _ h:=h
 icell b o h:=xc (y8 (hi b o h)) _ _
 jobj r h:=y8 (hj r h)
 size:=by simp
 frame b hb _:=y8 hb
 inew _ _ h:= .inl h
 jnew _ h:= .inl h
 fresh l b k h:=by
  rcases zo h with h|⟨_,h⟩
  ·exact .inl ⟨l,k,h⟩
  ·simp at h;exact .inr (by omega)
theorem HR.push_box {c H w} (h:HR c H w) (o:FV) (k:Nat) (x:Box) (hx:qW (c.grow w.heap.size k) (H++[x]) { w with heap:=w.heap.push o } w.heap.size k x): HR (c.grow w.heap.size k) (H++[x]) { w with heap:=w.heap.push o } where
 len:=by simp[Cx.grow,h.len]
 inj l l' b k k' h1 h2:=by
  rcases zo h1 with h1|⟨e1,h1⟩<;>rcases zo h2 with h2|⟨e2,h2⟩
  ·exact h.inj l l' b k k' h1 h2
  ·simp at h2;have:=h.lt l b k h1;omega
  ·simp at h1;have:=h.lt l' b k' h2;omega
  ·omega
 box l b k y h1 h2:=by
  rcases zo h1 with h1|⟨e1,h1⟩
  ·rcases zo h2 with h2|⟨e2,h2⟩
   ·exact(h.box l b k y h1 h2).ext (Ext.push_box c w o _ h.ilt h.jlt) (zl.grow c H _ _ x h.len) (y8 (h.lt l b k h1))
   ·have:=h.len;rw[Gt (by omega)]at h1;simp at h1
  ·rcases zo h2 with h2|⟨e2,h2⟩
   ·have:=h.len;rw[Gt (by omega)]at h2;simp at h2
   ·simp at h1;obtain⟨rfl,rfl⟩:=h1;subst h2;exact hx
 non l y h1 h2:=by
  rcases zo h1 with h1|⟨e1,h1⟩
  ·rcases zo h2 with h2|⟨e2,h2⟩
   ·exact h.non l y h1 h2
   ·have:=h.len;rw[Gt (by omega)]at h1;simp at h1
  ·simp at h1
 lt l b k h1:=by
  rcases zo h1 with h1|⟨_,h1⟩
  ·have:=h.lt l b k h1;simp;omega
  ·simp at h1;simp;omega
 ilt b o hi:=by have:=h.ilt b o hi;simp;omega
 jlt r hr:=by have:=h.jlt r hr;simp;omega
 iap b o l k hi h1:=by
  rcases zo h1 with h1|⟨_,h1⟩
  ·obtain⟨n,sz,h2,h3⟩:=h.iap b o l k hi h1;exact⟨n,sz,xr h2,h3⟩
  ·simp at h1;have:=h.ilt b o hi;omega
 jap r l k hr h1:=by
  rcases zo h1 with h1|⟨_,h1⟩
  ·exact h.jap r l k hr h1
  ·simp at h1;have:=h.jlt r hr;omega
theorem zD {α:Type}{xs:IU α}{y:α}{l l':Nat}(h:l≠l'):(xs.set l y)[l']? = xs[l']? :=by rw[E4];simp[h]
theorem xb {α:Type}{xs:IU α}{x y:α}{l:Nat}(h:xs[l]? = some x):(xs.set l y)[l]? = some y:=by
 have:l<xs.length:=by rcases G4 l xs.length with h' |h';exact h';simp[Gt h']at h
 rw[E4];simp[this]
section
variable {c:Cx}{H:IU Box}{w w':H5}{l b k:Nat}
theorem Ext.set_box (hb:c.ρ[l]? = some (some (b,k))) (hR:HR c H w) (hos:w'.os=w.os) (ht:w'.tape=w.tape) (hout:w'.output=w.output) (hs:w'.heap.size=w.heap.size) (ho:∀b',b'≠b->w'.heap[b']? = w.heap[b']?) (hnv:∀n sz,H[l]? ≠ some (.vec n sz)):Hs c w c w' where
 os:=hos
 tape:=ht
 output:=hout
 isub _ _ h:=h
 jsub _ h:=h
 icell b' o hi:=xc (ho b' (λe=>by subst e;obtain⟨n,sz,h1,_⟩:=hR.iap b' o l k hi hb;exact hnv n sz h1)) _ _
 jobj r hr:=ho r (λe=>by subst e;exact hR.jap r l k hr hb)
 size:=by omega
 frame b' _ hn:=ho b' (λe=>by subst e;exact hn l k hb)
 inew _ _ h:= .inl h
 jnew _ h:= .inl h
 fresh l b k h:= .inl ⟨l,k,h⟩
theorem zl.set_cells {T:TypeId}{cs:IU AV}(hl:H[l]? = some (.cells T cs)) (cs':IU AV):zl c H c (H.set l (.cells T cs')):=by
 intro m y hy;by_cases e:l=m
 ·subst e;rw[hl]at hy;simp at hy;subst hy;exact⟨⟨cs',xb hl⟩,rfl⟩
 ·cases y<;>simp only[zD e,hy]<;>simp
theorem zl.set_map {es:IU (D×D)}(hl:H[l]? = some (.map es)) (es':IU (D×D)):zl c H c (H.set l (.map es')):=by
 intro m y hy;by_cases e:l=m
 ·subst e;rw[hl]at hy;simp at hy;subst hy;exact⟨⟨es',xb hl⟩,rfl⟩
 ·cases y<;>simp only[zD e,hy]<;>simp
theorem HR.set_box {x y:Box}(hb:c.ρ[l]? = some (some (b,k))) (hR:HR c H w) (hl:H[l]? = some x) (hs:w'.heap.size=w.heap.size) (ho:∀b',b'≠b->w'.heap[b']? = w.heap[b']?) (hnv:∀n sz,x ≠ .vec n sz) (e:Hs c w c w') (kp:zl c H c (H.set l y)) (hy:qW c (H.set l y) w' b k y):HR c (H.set l y) w' where
 len:=by simp[hR.len]
 inj:=hR.inj
 box m b' k' z h1 h2:=by
  by_cases hm:l=m
  ·subst hm;rw[xb hl]at h2;rw[hb]at h1;simp at h1 h2;obtain⟨rfl,rfl⟩:=h1;subst h2;exact hy
  ·rw[zD hm]at h2;refine(hR.box m b' k' z h1 h2).ext e kp (ho b' (λe'=>?_));subst e';exact hm (hR.inj l m b' k k' hb h1)
 non m z h1 h2:=by
  by_cases hm:l=m
  ·subst hm;rw[hb]at h1;simp at h1
  ·rw[zD hm]at h2;exact hR.non m z h1 h2
 lt m b' k' h1:=by rw[hs];exact hR.lt m b' k' h1
 ilt b' o h:=by rw[hs];exact hR.ilt b' o h
 jlt r h:=by rw[hs];exact hR.jlt r h
 iap b' o m k' hi h1:=by
  obtain⟨n,sz,h2,h3⟩:=hR.iap b' o m k' hi h1;by_cases hm:l=m
  ·subst hm;rw[hl]at h2;simp at h2;exact Hu h2 (hnv n sz)
  ·exact⟨n,sz,by rw[zD hm];exact h2,h3⟩
 jap:=hR.jap
end
open Go.Sx.Ext renaming push_box->B6,push_imm->AW,set_box->AI
open Go.Sx.HR renaming push_box->BG,set_box->zz7
open Go.Sx.zl renaming grow->Ct
def avD1:AV->IQ D
 |.d (.agg _)=>none
 |.d x=>some x
 |.full ds=>some (.sl ds)
 |.nils=>some (.sl [])
 |.vec _ ds=>some (.sl ds)
 |.clo f [] []=>some (.fn f)
 |_=>none
def avD:AV->IQ D
 |.d x=>some x
 |.agg cs=>(cs.mapM avD1).map .agg
 |a=>avD1 a
section
variable {P:HP}{c:Cx}{H:IU Box}{w:H5}
theorem RV.one {I:Nat->Nat->Prop}{J:Nat->Prop}{v:Value}{x:D}(h:RV I J w v x) (hx:∀cs,x ≠ .agg cs):R1 I J w v x:=by cases x<;>first|exact h|exact Hu rfl (hx _)
theorem R1.rv {I:Nat->Nat->Prop}{J:Nat->Prop}{v:Value}{x:D}(h:R1 I J w v x):RV I J w v x:=by have h':=h;cases h<;>exact h'
theorem nZ {a:AV}{v:Value}{x:D}(h:RA c H w a v) (e:avD1 a=some x):R1 c.I c.J w v x:=by
 cases h with
 |@d y v h =>
  cases y<;>simp[avD1]at e<;>subst e<;>exact h
 |full h=>simp[avD1]at e;subst e;exact h
 |nils=>simp[avD1]at e;subst e;exact .nil
 |vec h=>simp[avD1]at e;subst e;exact h
 |@clo f fi ca fv cv hf hc =>
  cases fi<;>cases ca<;>simp[avD1]at e
  subst e;have:fv=[]:=by simpa using hf.symm
  have:cv=[]:=by simpa using hc.symm
  subst_vars
  exact .fn f
 |_=>simp[avD1]at e
theorem mapM_avD1:∀{aas:IU AV}{ds:IU D}{vs:IU Value},aas.mapM avD1=some ds->zy (λv a=>RA c H w a v) vs aas->zy (R1 c.I c.J w) vs ds
 |[],ds,vs,h,h2=>by simp at h;subst h;have:=h2.nil_right;subst this;exact Ga
 |a::aas,ds,vs,h,h2=>by
  rw[Db]at h;cases ha:avD1 a with
  |none=>rw[ha]at h;simp at h
  |some x =>
   rw[ha]at h;cases hr:aas.mapM avD1 with
   |none=>rw[hr]at h;simp at h
   |some xs =>
    rw[hr]at h;simp at h;subst h;obtain⟨v,vs',rfl,h3,h4⟩:=h2.cons_right;exact Gw (nZ h3 ha) (mapM_avD1 hr h4)
theorem wB {a:AV}{v:Value}{x:D}(h:RA c H w a v) (e:avD a=some x):RV c.I c.J w v x:=by
 cases a with
 |d y=>simp[avD]at e;subst e;cases h;assumption
 |agg cs =>
  simp only[avD]at e;cases hm:cs.mapM avD1 with
  |none=>rw[hm]at e;simp at e
  |some xs =>
   rw[hm]at e;simp at e;subst e;cases h with
   |@agg _ vs hl h=>exact⟨vs,rfl,mapM_avD1 hm ⟨hl.symm,λi v a hv ha=>h i a v ha hv⟩⟩
 |_=>exact(by simp only[avD]at e;exact(nZ h e).rv)
theorem R1.oneCell {I:Nat->Nat->Prop}{J:Nat->Prop}{v:Value}{x:D}(h:R1 I J w v x):v.oneCell'=true:=by cases h<;>rfl
def tC (P:HP) (T:TypeId):IQ Bool :=match P.underlying T with
 |some (.struct _)=>some true
 |some (.array _ _)=>some true
 |some _=>some false
 |none=>none
def xT (P:HP) (T:TypeId):IQ Nat:=(P.info? T).map (·.size)
theorem pG {T:TypeId}{t:Bool}(h:tC P T=some t):(isAgg T).run P w = .ok t w:=by
 unfold tC at h;cases hu:P.underlying T with
 |none=>rw[hu]at h;simp at h
 |some d=>rw[hu]at h;cases d<;>simp at h<;>subst h<;>simp[isAgg,run_underlying hu]
theorem yd {T:TypeId}{n:Nat}(h:xT P T=some n):(sizeOf T).run P w = .ok n w:=by
 unfold xT at h;cases hi:P.info? T with
 |none=>rw[hi]at h;simp at h
 |some i=>rw[hi]at h;simp at h;subst h;simp[sizeOf,typeInfo,hi]
def NE (w:H5) (b o:Nat) (vs:IU Value):Prop:= ∀(j:Nat) v,vs[j]? = some v->w.cell? ⟨b,o+j,none⟩=some v
theorem wy (b o j:Nat):(⟨b,o,none⟩:E2).add j=⟨b,o+j,none⟩:=by unfold zzk;split<;>simp_all
theorem b9 {T:TypeId}{b o:Nat}{vs:IU Value}(hu:tC P T=some true) (hs:xT P T=some vs.length) (hc:NE w b o vs):(DH T (.pointer (some ⟨b,o,none⟩))).run P w = .ok (.agg vs.toArray) w:=by have h1:(loadCells ⟨b,o,none⟩ vs.length).run P w = .ok vs.toArray w:=run_loadCells_list w ⟨b,o,none⟩ vs (λj v hj=>by rw[wy];exact hc j v hj);simp[DH,DL,loadVar,pG hu,yd hs,h1]
theorem bz {T:TypeId}{b o:Nat}{v:Value}(hu:tC P T=some false) (hc:w.cell? ⟨b,o,none⟩=some v):(DH T (.pointer (some ⟨b,o,none⟩))).run P w = .ok v w:=by simp[DH,DL,loadVar,pG hu,hc]
def uE (P:HP) (T:TypeId) (cells:IU AV):IQ AV :=match tC P T with
 |some true=>match xT P T with
  |some n=>if(cells.take n).length=n then some (.agg (cells.take n))else none
  |none=>none
 |some false=>cells.head?
 |none=>none
theorem tB {T:TypeId}{b o:Nat}{cells:IU AV}{vs:IU Value}{a:AV}(h:uE P T cells=some a) (hv:zy (λv a=>RA c H w a v) vs cells) (hc:NE w b o vs):∃v,(DH T (.pointer (some ⟨b,o,none⟩))).run P w = .ok v w/\RA c H w a v:=by
 unfold uE at h;cases hg:tC P T with
 |none=>rw[hg]at h;simp at h
 |some t =>
  rw[hg]at h;cases t with
  |false =>
   simp at h;cases cells with
   |nil=>simp at h
   |cons x xs =>
    simp at h;subst h;obtain⟨v,vs',rfl,h3,h4⟩:=hv.cons_right;exact⟨v,bz hg (by have:=hc 0 v rfl;simpa using this),h3⟩
  |true =>
   simp only at h;cases hs:xT P T with
   |none=>rw[hs]at h;simp at h
   |some n =>
    rw[hs]at h;simp only at h;split at h
    ·rename_i hn;simp only[Er]at h;subst h;have h5:=hv.take n;have hlen:(vs.take n).length=n:=by rw[h5.1,hn]
     refine⟨.agg (vs.take n).toArray,b9 hg (by rw[hlen];exact hs) (λj v hj=>hc j v ?_),.agg h5.1.symm λi a v ha hv'=>h5.2 i v a hv' ha⟩;rw[Fa]at hj;split at hj
     ·exact hj
     ·simp at hj
    ·simp at h
inductive Sh where
 |int (k:IF)
 |bool
 |str
 |sl
 |fn
def D.toInt:D->Int
 |.int _ n=>n
 |_=>0
def D.toBool:D->Bool
 |.bool b=>b
 |_=>false
def D.toStr:D->IU UInt8
 |.str s=>s
 |_=>[]
def D.toSl:D->IU D
 |.sl ds=>ds
 |_=>[]
def D.toFn:D->Nat
 |.fn f=>f
 |_=>0
def Sh.norm:Sh->D->D
 |.int k,x=>.int k x.toInt
 |.bool,x=>.bool x.toBool
 |.str,x=>.str x.toStr
 |.sl,x=>.sl x.toSl
 |.fn,x=>.fn x.toFn
def uW (P:HP):Nat->TypeId->IQ (IU Sh)
 |0,_=>none
 |n+1,T =>
  match P.underlying T with
  |some (.int k)=>some [.int k]
  |some .bool=>some [.bool]
  |some .string=>some [.str]
  |some (.slice _)=>some [.sl]
  |some (.func _ _ _)=>some [.fn]
  |some (.struct fs)=>(fs.toList.mapM λf=>uW P n f.type).map IU.flatten
  |some (.array m e)=>(uW P n e).map λs=>(G8 m s).flatten
  |_=>none
def to (P:HP) (T:TypeId) (ds:IU D) (i:Nat):IQ (IU D) :=(uW P 9 T).map λshs=>shs.zipIdx.map λ(sh,j)=>sh.norm ((z1 ds i j).getD default)
def Wz (agg:Bool) (cs:IU D):D:=if agg then .agg cs else cs.getD 0 default
theorem qU {T f:Nat}{fs:IG Cn}{fd:Cn}{n b o:Nat}(hu:P.underlying T=some (.struct fs)) (hf:fs[f]? = some fd) (hs:xT P fd.type=some (n+1)):(zyd T (.pointer (some ⟨b,o,none⟩)) f).run P w = .ok (.pointer (some ⟨b,o+fd.offset,none⟩)) w:=by simp[zyd,run_underlying hu,hf,DL,fieldPlace,yd hs,wy]
theorem js {T E:Nat}{b o len cap:Nat}{k:IF}{i:Int}{n:Nat}(hu:P.underlying T=some (.slice E)) (hs:xT P E=some n) (h0:0<=i) (h1:i<len):(CW T (.slice (some ⟨b,o,none⟩) len cap) (.int k i)).run P w = .ok (.pointer (some ⟨b,o+i.toNat*n,none⟩)) w:=by simp[CW,asIntOf,run_underlying hu,yd hs,h0,h1,wy]
theorem ma (s:IU UInt8):(⟨s.toArray⟩:HT).size=s.length:=by show s.toArray.size=_;simp
theorem M7 {s:IU UInt8}{i:Nat}(h:i<s.length):(⟨s.toArray⟩:HT)[i]? = some (s.getD i 0):=by
 have h2:i<(⟨s.toArray⟩:HT).size:=by rw[ma];exact h
 rw[getElem?_pos (⟨s.toArray⟩:HT) i h2];have:(⟨s.toArray⟩:HT)[i]=s[i]:=rfl;rw[this];simp[IU.getD,h]
theorem eC {T:Nat}{s:IU UInt8}{k:IF}{i:Int}(hu:P.underlying T=some .string) (h0:0<=i) (h1:i.toNat<s.length):(zyK T (.string ⟨s.toArray⟩) (.int k i)).run P w = .ok (.int .u8 (s.getD i.toNat 0).toNat) w:=by simp[zyK,asIntOf,run_underlying hu,h0,M7 h1]
theorem oE {T E ty:Nat}{a:IQ E2}{n cap:Nat}(hu:P.underlying T=some (.slice E)):(CU #[T] ty #[.slice a n cap]).run P w = .ok (.int .i64 n) w:=by simp[CU,run_underlying hu,goInt]
theorem Y0 {T ty:Nat}{s:IU UInt8}(hu:P.underlying T=some .string):(CU #[T] ty #[.string ⟨s.toArray⟩]).run P w = .ok (.int .i64 s.length) w:=by simp[CU,run_underlying hu,goInt,ma]
end
open Go.Sx.D renaming toFn->Cq
def M8 (op:EK) (a b:Int):IQ Bool :=match op with
 |.eql=>some (a==b)
 |.neq=>some (a != b)
 |.lss=>some (decide (a<b))
 |.leq=>some (decide (a<=b))
 |.gtr=>some (decide (a>b))
 |.geq=>some (decide (a>=b))
 |_=>none
def N9 (op:EK) (k:IF) (a b:Int):IQ (D×Prop) :=match op with
 |.add=>some (.int k (k.wrap (a+b)),IN)
 |.sub=>some (.int k (k.wrap (a - b)),IN)
 |.mul=>some (.int k (k.wrap (a*b)),IN)
 |.quo=>some (.int k (k.wrap (a.tdiv b)),b≠0)
 |.rem=>some (.int k (a.tmod b),b≠0)
 |.and=>some (.int k (k.wrap (Cz k.bits a &&& Cz k.bits b).toNat),IN)
 |.or=>some (.int k (k.wrap (Cz k.bits a|||Cz k.bits b).toNat),IN)
 |.xor=>some (.int k (k.wrap (Cz k.bits a ^^^ Cz k.bits b).toNat),IN)
 |.andNot=>some (.int k (k.wrap (Cz k.bits a &&& ~~~(Cz k.bits b)).toNat),IN)
 |op=>(M8 op a b).map λr=>(.bool r,IN)
def bx (op:EK) (k:IF) (a b:Int):IQ (D×Prop) :=match op with
 |.shl=>some (.int k (k.wrap (a*2 ^ (min b.toNat k.bits))),0<=b)
 |.shr=>some (.int k (a.fdiv (2 ^ (min b.toNat k.bits))),0<=b)
 |_=>none
def Nz (op:EK) (s t:IU UInt8):IQ (D×Prop) :=match op with
 |.add=>some (.str (s++t),s.length+t.length<=9223372036854775807)
 |.eql=>some (.bool (s==t),IN)
 |.neq=>some (.bool (!(s==t)),IN)
 |.lss=>some (.bool (AU s t),IN)
 |.leq=>some (.bool (AU s t||s==t),IN)
 |.gtr=>some (.bool (!(AU s t||s==t)),IN)
 |.geq=>some (.bool (!(AU s t)),IN)
 |_=>none
def Wy (op:EK) (r:Bool):IQ (D×Prop) :=match op with
 |.eql=>some (.bool r,IN)
 |.neq=>some (.bool (!r),IN)
 |_=>none
def eqD:D->D->IQ Bool
 |.int k a,.int k' b=>if k=k' then some (a==b)else none
 |.bool a,.bool b=>some (a==b)
 |.str s,.str t=>some (s==t)
 |_,_=>none
def xp (P:HP) (xs ys:IU D):IU Cn->IQ Bool
 |[]=>some true
 |f::fs =>
  if f.name ≠ "_" then
   match P.underlying f.type,xs[f.offset]?,ys[f.offset]? with
   |some (.int _),some (.int k a),some (.int k' b)=>if k=k' then(xp P xs ys fs).map λr=>(a==b)&&r else none
   |some .bool,some (.bool a),some (.bool b)=>(xp P xs ys fs).map λr=>(a==b)&&r
   |some .string,some (.str s),some (.str t)=>(xp P xs ys fs).map λr=>(s==t)&&r
   |_,_,_=>none
  else xp P xs ys fs
def Y1 (P:HP) (T:TypeId):Bool:= !P.stoodInHeld T&& !P.eqGuardType P.depth T&&(P.underlying T matches some (.struct _))
def Wx (P:HP) (op:EK) (T:TypeId) (x y:D):IQ (D×Prop) :=match x,y with
 |.int k a,.int k' b =>
  match op with
  |.shl=>bx op k a b
  |.shr=>bx op k a b
  |op=>if k=k' then N9 op k a b else none
 |.str s,.str t=>Nz op s t
 |.bool a,.bool b=>match P.underlying T with
  |some .bool=>Wy op (a==b)
  |_=>none
 |.agg xs,.agg ys=>if Y1 P T then(xp P xs ys (P.fieldsOf T).toList).bind (Wy op)else none
 |_,_=>none
section
variable {P:HP}{I:Nat->Nat->Prop}{J:Nat->Prop}{w:H5}
theorem Y2 {op:EK}{k:IF}{a b:Int}{r:D}{F:Prop}{T:TypeId}(h:N9 op k a b=some (r,F)) (hF:F) (hs:op ≠ .shl) (hs':op ≠ .shr):∃v,(binOp op T (.int k a) (.int k b)).run P w = .ok v w/\R1 I J w v r:=by
 cases op<;>simp only[N9,M8,Fi,Ee]at h<;>first
  |exact Hu rfl hs
  |exact Hu rfl hs'
  |(cases h;refine⟨_,?_,D1 _ _⟩;simp only[binOp,ne_eq,not_true_eq_false,if_false,zwH,Op.intBits];rfl)
  |(cases h;refine⟨_,?_,D1 _ _⟩;simp only[binOp,ne_eq,not_true_eq_false,if_false,Op.intDiv,IE hF];rfl)
  |(cases h;refine⟨_,?_,EZ _⟩;simp only[binOp,ne_eq,not_true_eq_false,if_false,Op.intCmp];rfl)
  |cases h
theorem oD {op:EK}{k k':IF}{a b:Int}{r:D}{F:Prop}{T:TypeId}(h:bx op k a b=some (r,F)) (hF:F):∃v,(binOp op T (.int k a) (.int k' b)).run P w = .ok v w/\R1 I J w v r:=by
 cases op<;>simp only[bx]at h<;>cases h
 all_goals
  have:¬ b<0:=by omega
  refine⟨_,?_,D1 _ _⟩;simp only[binOp,Op.shift,IE this];rfl
theorem Ww (s:IU UInt8):(⟨s.toArray⟩:HT).toList=s:=ByteArray.toList_mk s
theorem SQ (s t:IU UInt8):(⟨s.toArray⟩:HT)++⟨t.toArray⟩=⟨(s++t).toArray⟩:=by
 have:((⟨s.toArray⟩:HT)++⟨t.toArray⟩).data=(s++t).toArray:=by rw[HT.data_append];simp
 cases h:((⟨s.toArray⟩:HT)++⟨t.toArray⟩)with
 |mk data=>rw[h]at this;simp at this;rw[this]
theorem Y3 {op:EK}{s t:IU UInt8}{r:D}{F:Prop}{T:TypeId}(h:Nz op s t=some (r,F)) (hF:F):∃v,(binOp op T (.string ⟨s.toArray⟩) (.string ⟨t.toArray⟩)).run P w = .ok v w/\R1 I J w v r:=by
 cases op<;>simp only[Nz]at h<;>cases h
 case add =>
  have:¬ ((s.length+t.length:Nat):Int)>Ho.max:=by
   have e:Ho.max=9223372036854775807:=by decide
   rw[e];omega
  refine⟨.string ⟨(s++t).toArray⟩,?_,.str _⟩;simp only[binOp,zwG,ma,IE this,SQ];rfl
 all_goals
  refine⟨.bool _,?_,.bool _⟩;simp[binOp,zwG]
theorem bw {op:EK}{a b:Bool}{r:D}{F:Prop}{T:TypeId}(hu:P.underlying T=some .bool) (h:Wy op (a==b)=some (r,F)):∃v,(binOp op T (.bool a) (.bool b)).run P w = .ok v w/\R1 I J w v r:=by
 have hd:zwF=9999+1:=rfl;cases op<;>simp only[Wy]at h<;>cases h
 all_goals
  refine⟨.bool _,?_,.bool _⟩;simp[binOp,BA,hd,run_equalIn_bool' w 9999 T a b hu]
theorem yQ {T off:Nat}{cs:IG Value}{v:Value}(hu:tC P T=some false) (h:cs[off]? = some v):(part T cs off).run P w = .ok v w:=by simp[part,pG hu,h]
theorem wx (d:Nat) {vs us:IU Value}{xs ys:IU D}(hx:zy (R1 I J w) vs xs) (hy:zy (R1 I J w) us ys):∀(fs:IU Cn) (r:Bool),xp P xs ys fs=some r->(AK (d+1) vs.toArray us.toArray fs).run P w = .ok r w
 |[],r,h=>by simp[xp]at h;subst h;simp[AK]
 |f::fs,r,h=>by
  simp only[xp]at h;by_cases hn:f.name ≠ "_"
  ·rw[Hv hn]at h;simp only[AK,Hv hn];split at h
   ·rename_i k0 k a k' b hu hxa hyb;split at h
    ·rename_i hk;subst hk;cases hr:xp P xs ys fs with
     |none=>rw[hr]at h;simp at h
     |some r' =>
      rw[hr]at h;simp at h;subst h;obtain⟨v,hv,hv'⟩:=hx.get hxa;obtain⟨u,hu1,hu'⟩:=hy.get hyb;cases hv';cases hu';have ag:tC P f.type=some false:=by simp[tC,hu]
      have ih:=wx d hx hy fs r' hr;simp only[Gk,yQ (w:=w) ag (show vs.toArray[f.offset]? = some (.int k a) by simpa using hv),yQ (w:=w) ag (show us.toArray[f.offset]? = some (.int k b) by simpa using hu1),Gm,run_equalIn_int w d f.type k k0 a b hu];cases hab:(a==b)<;>simp[ih]
    ·simp at h
   ·rename_i a b hu hxa hyb;cases hr:xp P xs ys fs with
    |none=>rw[hr]at h;simp at h
    |some r' =>
     rw[hr]at h;simp at h;subst h;obtain⟨v,hv,hv'⟩:=hx.get hxa;obtain⟨u,hu1,hu'⟩:=hy.get hyb;cases hv';cases hu';have ag:tC P f.type=some false:=by simp[tC,hu]
     have ih:=wx d hx hy fs r' hr;simp only[Gk,yQ (w:=w) ag (show vs.toArray[f.offset]? = some (.bool a) by simpa using hv),yQ (w:=w) ag (show us.toArray[f.offset]? = some (.bool b) by simpa using hu1),Gm,run_equalIn_bool' w d f.type a b hu];cases hab:(a==b)<;>simp[ih]
   ·rename_i s t hu hxa hyb;cases hr:xp P xs ys fs with
    |none=>rw[hr]at h;simp at h
    |some r' =>
     rw[hr]at h;simp at h;subst h;obtain⟨v,hv,hv'⟩:=hx.get hxa;obtain⟨u,hu1,hu'⟩:=hy.get hyb;cases hv';cases hu';have ag:tC P f.type=some false:=by simp[tC,hu]
     have ih:=wx d hx hy fs r' hr;simp only[Gk,yQ (w:=w) ag (show vs.toArray[f.offset]? = some (.string ⟨s.toArray⟩) by simpa using hv),yQ (w:=w) ag (show us.toArray[f.offset]? = some (.string ⟨t.toArray⟩) by simpa using hu1),Gm,run_equalIn_string w d f.type _ _ hu,Ww];cases hab:(s==t)<;>simp[ih]
   ·simp at h
  ·rw[IE hn]at h;simp only[AK,IE hn];exact wx d hx hy fs r h
theorem xq {op:EK}{T:TypeId}{x y:G1}{v u:Value}(h1:v ≠ .nilIface) (h2:∀cs,v ≠ .agg cs):(eqGuard op T x y v u).run P w = .ok () w:=by
 cases v<;>first
  |exact Hu rfl h1
  |exact Hu rfl (h2 _)
  |(cases op<;>rfl)
theorem Wv {op:EK}{T:TypeId}{x y:D}{v u:Value}{r:D}{F:Prop}{ox oy:G1}(h:Wx P op T x y=some (r,F)) (hF:F) (hv:RV I J w v x) (hu:RV I J w u y):∃z,(do eqGuard op T ox oy v u;binOp op T v u:HG Value).run P w = .ok z w/\R1 I J w z r:=by
 unfold Wx at h;split at h
 ·cases hv;cases hu;rename_i k a k' b;have g:(eqGuard op T ox oy (.int k a) (.int k' b)).run P w = .ok () w:=xq (by simp) (by simp);simp only[Gk,g,Gm];split at h
  ·exact oD h hF
  ·exact oD h hF
  ·rename_i n1 n2;split at h
   ·rename_i hk;subst hk;exact Y2 h hF (λe=>n1 e) (λe=>n2 e)
   ·simp at h
 ·cases hv;cases hu;rename_i s t;have g:(eqGuard op T ox oy (.string ⟨s.toArray⟩) (.string ⟨t.toArray⟩)).run P w = .ok () w:=xq (by simp) (by simp);simp only[Gk,g,Gm];exact Y3 h hF
 ·cases hv;cases hu;rename_i a b;have g:(eqGuard op T ox oy (.bool a) (.bool b)).run P w = .ok () w:=xq (by simp) (by simp);simp only[Gk,g,Gm];split at h
  ·rename_i hb;exact bw hb h
  ·simp at h
 ·rename_i xs ys;obtain⟨vs,rfl,hvs⟩:=hv;obtain⟨us,rfl,hus⟩:=hu;split at h
  ·rename_i hok;simp[Y1]at hok;obtain⟨⟨ok1,ok2⟩,ok3⟩:=hok;have hst:P.underlying T=some (.struct (P.fieldsOf T)):=by
    unfold HP.fieldsOf;split at ok3
    ·rename_i fs hfs;rw[hfs]
    ·simp at ok3
   cases hr:xp P xs ys (P.fieldsOf T).toList with
   |none=>rw[hr]at h;simp at h
   |some b =>
    rw[hr]at h;simp only[CZ]at h;have e:=wx (P:=P) 9998 hvs hus _ b hr;have e2:=run_equalIn_struct (P:=P) w 9999 T vs.toArray us.toArray hst ok1;simp only[Gk,run_eqGuard_agg w op T ox oy vs.toArray us.toArray ok2,Gm];cases op<;>simp only[Wy]at h<;>cases h
    ·exact⟨.bool b,by rw[run_eql_struct,e2,e];rfl,.bool _⟩
    ·exact⟨.bool (!b),by rw[run_neq_struct,e2,e];rfl,.bool _⟩
  ·simp at h
 ·simp at h
end
def valD1:Value->IQ D
 |.int k n=>some (.int k n)
 |.bool b=>some (.bool b)
 |.string s=>some (.str s.data.toList)
 |.slice none 0 0=>some (.sl [])
 |_=>none
def valD:Value->IQ D
 |.agg cs=>(cs.toList.mapM valD1).map .agg
 |v=>valD1 v
def putL {α:Type}(cs:IU α) (off:Nat):IU α->IU α
 |[]=>cs
 |x::xs=>putL (cs.set off x) (off+1) xs
theorem qT {α:Type}:∀(xs cs:IU α) (off:Nat),(putL cs off xs).length=cs.length
 |[],_,_=>rfl
 |x::xs,cs,off=>by simp[putL,qT xs]
theorem jD {α:Type}:∀(xs cs:IU α) (off:Nat),off+xs.length<=cs.length->putL cs off xs=cs.take off++xs++cs.drop (off+xs.length)
 |[],cs,off,_=>by simp[putL]
 |x::xs,cs,off,h=>by
  simp at h;rw[putL,jD xs _ _ (by simp;omega)];have h1:off<cs.length:=by omega
  have t1:(cs.set off x).take (off+1)=cs.take off++[x]:=by rw[IU.take_succ_eq_append_getElem (by simpa using h1)];simp[IU.take_set_of_le]
  have t2:(cs.set off x).drop (off+1+xs.length)=cs.drop (off+(xs.length+1)):=by rw[IU.drop_set_of_lt (by omega)];congr 1;omega
  rw[t1,t2];simp
theorem zy.putL {α β:Type}{R:α->β->Prop}:∀{xs:IU α}{ys:IU β}{cs:IU α}{ds:IU β}(off:Nat),zy R cs ds->zy R xs ys->zy R (putL cs off xs) (putL ds off ys)
 |xs,[],cs,ds,off,h,hx=>by have:=hx.nil_right;subst this;exact h
 |xs,y::ys,cs,ds,off,h,hx=>by obtain⟨x,xs',rfl,h1,h2⟩:=hx.cons_right;exact zy.putL (off+1) (h.set off h1) h2
theorem iE {off:Nat}:∀(xs:IU Value) (k:Nat) (cs:IG Value),((xs.zipIdx k).foldl (λ(cs:IG Value) (p:Value×Nat)=>cs.setIfInBounds (off+p.2) p.1) cs).toList=putL cs.toList (off+k) xs
 |[],_,_=>rfl
 |x::xs,k,cs=>by simp only[zw2,CY,putL];rw[iE xs (k+1)];simp[CV]
def jr {β:Type}(place:Nat->IQ (Nat×Nat)) (cells:IU β):IU (Nat×IU β)->IQ (IU β)
 |[]=>some cells
 |(i,xs)::rest =>
  match place i with
  |none=>none
  |some (off,size)=>if xs.length=size/\off+size<=cells.length then jr place (putL cells off xs) rest else none
def isCell:AV->Bool
 |.d (.agg _)=>false
 |.d _=>true
 |.ptr _ _=>true
 |.iptr _=>true
 |.clo _ _ _=>true
 |.full _=>true
 |.vec _ _=>true
 |.map _=>true
 |.yld _=>true
 |.nils=>true
 |.nilf=>true
 |.fsym _=>true
 |.msl _=>true
 |.eptr _ _ _=>true
 |_=>false
def avCells:AV->IQ (IU AV)
 |.d x=>some (x.cells.map .d)
 |.agg cs=>if cs.all isCell then some cs else none
 |.any=>none
 |.opt _ _ _=>none
 |.tup _=>none
 |a=>some [a]
def vq (v:Value):AV :=match v with
 |.slice none 0 0=>.full []
 |v=>match valD1 v with
  |some x=>.d x
  |none=>.any
section
variable {P:HP}{I:Nat->Nat->Prop}{J:Nat->Prop}{w:H5}
theorem tA {v:Value}{x:D}(h:valD1 v=some x):R1 I J w v x:=by
 unfold valD1 at h;split at h<;>cases h
 ·exact .int _ _
 ·exact .bool _
 ·rename_i s;have:s=⟨s.data.toList.toArray⟩:=by cases s;simp
  rw[this];simp;exact .str _
 ·exact .nil
theorem mapM_valD1:∀{vs:IU Value}{xs:IU D},vs.mapM valD1=some xs->zy (R1 I J w) vs xs
 |[],xs,h=>by simp at h;subst h;exact Ga
 |v::vs,xs,h=>by
  rw[Db]at h;cases hv:valD1 v with
  |none=>rw[hv]at h;simp at h
  |some y =>
   rw[hv]at h;cases hr:vs.mapM valD1 with
   |none=>rw[hr]at h;simp at h
   |some ys=>rw[hr]at h;simp at h;subst h;exact Gw (tA hv) (mapM_valD1 hr)
theorem iD {v:Value}{x:D}(h:valD v=some x):RV I J w v x:=by
 cases v with
 |agg cs =>
  simp only[valD]at h;cases hm:cs.toList.mapM valD1 with
  |none=>rw[hm]at h;simp at h
  |some xs=>rw[hm]at h;simp at h;subst h;exact⟨cs.toList,by simp,mapM_valD1 hm⟩
 |_=>exact(by simp only[valD]at h;exact(tA h).rv)
theorem nY {β:Type}{R:Value->β->Prop}{place:Nat->IQ (Nat×Nat)}:∀{parts:IU (Nat×IU β)}{vparts:IU (Nat×Value)}{cs:IG Value}{ds out:IU β},zy (λ(p:Nat×Value) (q:Nat×IU β)=>p.1=q.1/\zy R p.2.cells.toList q.2) vparts parts->zy R cs.toList ds->jr place ds parts=some out->∃cs',zz5 place cs vparts=some cs'/\zy R cs'.toList out
 |[],vparts,cs,ds,out,hp,hc,h=>by have:=hp.nil_right;subst this;simp[jr]at h;subst h;exact⟨cs,rfl,hc⟩
 |(i,x)::parts,vparts,cs,ds,out,hp,hc,h=>by
  obtain⟨⟨i',v⟩,vp,rfl,⟨h1,h2⟩,hp'⟩:=hp.cons_right;simp only at h1;subst h1;simp only[jr]at h;cases hpl:place i' with
  |none=>rw[hpl]at h;simp at h
  |some q =>
   obtain⟨off,size⟩:=q;rw[hpl]at h;simp only at h;split at h
   ·rename_i hs;have e1:v.cells.size=size:=by have:=h2.1;simp at this;omega
    have e2:cs.size=ds.length:=by have:=hc.1;simpa using this
    have hnot:¬ ((decide (v.cells.size≠size)||decide (off+v.cells.size>cs.size))=true):=by simp;omega
    have hfold:(v.cells.zipIdx.foldl (λcs (x:Value×Nat)=>cs.setIfInBounds (off+x.2) x.1) cs).toList=putL cs.toList off v.cells.toList:=by rw[←zzA,zxP];exact iE _ _ _
    obtain⟨cs',h3,h4⟩:=nY (cs:=v.cells.zipIdx.foldl (λcs (x:Value×Nat)=>cs.setIfInBounds (off+x.2) x.1) cs) hp' (by rw[hfold];exact hc.putL off h2) h;exact⟨cs',by simp only[zz5,hpl];rw[IE hnot];exact h3,h4⟩
   ·simp at h
end
section
variable {P:HP}{c:Cx}{H:IU Box}{w:H5}
theorem R1.single {I:Nat->Nat->Prop}{J:Nat->Prop}{v:Value}{x:D}(h:R1 I J w v x):v.cells.toList=[v]:=by cases h<;>rfl
theorem Wu {a:AV}{v:Value}(h:RA c H w a v) (hc:isCell a=true):v.oneCell'=true:=by
 cases h with
 |@d x v h=>cases x<;>first|(simp[isCell]at hc;done)|exact R1.oneCell h
 |fsym o=>cases o<;>rfl
 |_=>first|rfl|(simp[isCell]at hc;done)
theorem wT {a:AV}{v:Value}{cs:IU AV}(h:RA c H w a v) (hc:avCells a=some cs):zy (λv a=>RA c H w a v) v.cells.toList cs/\∀u∈v.cells.toList,u.oneCell'=true:=by
 cases h with
 |@d x v h =>
  simp[avCells]at hc;subst hc;have h2:=h.cells;refine⟨⟨by simp[h2.1],λi u y hu hy=>?_⟩,λu hu=>?_⟩
  ·simp only[G5]at hy;cases hx:x.cells[i]? with
   |none=>rw[hx]at hy;simp at hy
   |some z=>rw[hx]at hy;simp at hy;subst hy;exact .d (h2.2 i u z hu hx).rv
  ·obtain⟨i,hi,he⟩:=EF.1 hu;have hi':i<x.cells.length:=by rw[←h2.1];exact hi
   exact(h2.2 i u _ (by rw[Ff hi,he]) (Ff hi')).oneCell
 |ptr hH h=>simp[avCells]at hc;subst hc;exact⟨Gw (.ptr hH h) Ga,by intro u hu;simp[E7]at hu;subst hu;rfl⟩
 |iptr h=>simp[avCells]at hc;subst hc;exact⟨Gw (.iptr h) Ga,by intro u hu;simp[E7]at hu;subst hu;rfl⟩
 |clo a b h1 h2=>simp[avCells]at hc;subst hc;exact⟨Gw (.clo a b h1 h2) Ga,by intro u hu;simp[E7]at hu;subst hu;rfl⟩
 |full h=>simp[avCells]at hc;subst hc;exact⟨Gw (.full h) Ga,by intro u hu;simp[E7]at hu;subst hu;rfl⟩
 |vec h a b d=>simp[avCells]at hc;subst hc;exact⟨Gw (.vec h a b d) Ga,by intro u hu;simp[E7]at hu;subst hu;rfl⟩
 |map hH h=>simp[avCells]at hc;subst hc;exact⟨Gw (.map hH h) Ga,by intro u hu;simp[E7]at hu;subst hu;rfl⟩
 |msl hH h=>simp[avCells]at hc;subst hc;exact⟨Gw (.msl hH h) Ga,by intro u hu;simp[E7]at hu;subst hu;rfl⟩
 |eptr hH h=>simp[avCells]at hc;subst hc;exact⟨Gw (.eptr hH h) Ga,by intro u hu;simp[E7]at hu;subst hu;rfl⟩
 |nils=>simp[avCells]at hc;subst hc;exact⟨Gw .nils Ga,by intro u hu;simp[E7]at hu;subst hu;rfl⟩
 |nilf=>simp[avCells]at hc;subst hc;exact⟨Gw .nilf Ga,by intro u hu;simp[E7]at hu;subst hu;rfl⟩
 |fsym o=>simp[avCells]at hc;subst hc;cases o<;>exact⟨Gw (.fsym _) Ga,by intro u hu;simp[E7]at hu;subst hu;rfl⟩
 |tup=>simp[avCells]at hc
 |@agg aas vs hl h =>
  simp only[avCells]at hc;split at hc
  ·rename_i hall;simp only[Er]at hc;subst hc;simp only[E7];refine⟨⟨hl.symm,λi v a hv ha=>h i a v ha hv⟩,λu hu=>?_⟩;obtain⟨i,hi,he⟩:=EF.1 hu;have hi2:i<vs.length:=by simpa using hi
   have hi':i<aas.length:=by omega
   refine Wu (h i aas[i] u (by simp[hi']) ?_) (G3.1 hall _ (ED hi'));have he':vs[i]=u:=he;simp[hi2,he']
  ·simp at hc
 |any=>simp[avCells]at hc
 |opt=>simp[avCells]at hc
 |yld hH h=>simp[avCells]at hc;subst hc;exact⟨Gw (.yld hH h) Ga,by intro u hu;simp[E7]at hu;subst hu;rfl⟩
theorem iC (v:Value):RA c H w (vq v) v:=by
 unfold vq;split
 ·exact .full .nil
 ·split
  ·rename_i x hx;exact .d (tA hx).rv
  ·exact .any v
theorem zy.zero:∀(vs:IU Value),zy (λv a=>RA c H w a v) vs (vs.map vq)
 |[]=>Ga
 |v::vs=>Gw (iC v) (zy.zero vs)
end
open Go.Sx.zy renaming zero->CN
section
variable {P:HP}{w:H5}
theorem oC {α β:Type}{f:α->HG β}{g:α->β}:∀(l:IU α),(∀x∈l,(f x).run P w = .ok (g x) w)->(l.mapM f).run P w = .ok (l.map g) w
 |[],_=>by simp
 |x::l,h=>by rw[Db];simp only[Gk,h x (by simp),Gm,oC l (λy hy=>h y (by simp[hy])),GF,Gb]
theorem iB {α β:Type}{f:α->HG β}{g:α->β}(a:IG α) (h:∀x∈a.toList,(f x).run P w = .ok (g x) w):(a.mapM f).run P w = .ok (a.toList.map g).toArray w:=by rw[IG.mapM_eq_mapM_toList];simp only[HG.run_map,oC a.toList h,Gm]
def yZ (P:HP) (T:TypeId):IQ Value:=(P.info? T).bind (·.zero)
theorem vK {T:TypeId}{z:Value}(h:yZ P T=some z):(zeroValue T).run P w = .ok z w:=by
 unfold yZ at h;cases hi:P.info? T with
 |none=>rw[hi]at h;simp at h
 |some i=>rw[hi]at h;simp at h;simp[zeroValue,typeInfo,hi,h]
def jC (P:HP) (fs:IG Cn) (i:Nat):IQ (Nat×Nat):=(fs[i]?).map λf=>(f.offset,(xT P f.type).getD 0)
def RK (P:HP) (fs:IG Cn):Bool:=fs.toList.all λf=>(xT P f.type).isSome
def bv (P:HP) (T:TypeId) (parts:IU (Nat×IU AV)):IQ AV :=match P.underlying T,yZ P T with
 |some (.struct fs),some (.agg zs)=>if RK P fs then(jr (jC P fs) (zs.toList.map vq) parts).map .agg else none
 |some (.array _ E),some (.agg zs) =>
  match xT P E with
  |some n=>(jr (λi=>some (i*n,n)) (zs.toList.map vq) parts).map .agg
  |none=>none
 |_,_=>none
theorem bu {c:Cx}{H:IU Box}{T:TypeId}{parts:IU (Nat×IU AV)}{vparts:IU (Nat×Value)}{x:AV}(h:bv P T parts=some x) (hp:zy (λ(p:Nat×Value) (q:Nat×IU AV)=>p.1=q.1/\zy (λv a=>RA c H w a v) p.2.cells.toList q.2) vparts parts):∃v,(AJ T vparts.toArray).run P w = .ok v w/\RA c H w x v:=by
 unfold bv at h;split at h
 ·rename_i fs zs hu hz;split at h
  ·rename_i hok;cases hf:jr (jC P fs) (zs.toList.map vq) parts with
   |none=>rw[hf]at h;simp at h
   |some out =>
    rw[hf]at h;simp at h;subst h;obtain⟨cs',h3,h4⟩:=nY (cs:=zs) hp (CN (c:=c) (H:=H) (w:=w) zs.toList) hf;have hpl:(fs.mapM λf=>do pure (f.offset,←sizeOf f.type):HG (IG (Nat×Nat))).run P w = .ok (fs.toList.map λf=>(f.offset,(xT P f.type).getD 0)).toArray w:=by
     refine iB fs λf hf=>?_;have:(xT P f.type).isSome=true:=by have:=G3.1 hok f hf;simpa using this
     obtain⟨n,hn⟩:=IQ.isSome_iff_exists.1 this;simp[yd hn,hn]
    have hpe:(λi=>((fs.toList.map λf=>(f.offset,(xT P f.type).getD 0)).toArray)[i]?)=jC P fs:=by funext i;simp[jC]
    refine⟨.agg cs',?_,?_⟩
    ·simp only[AJ,Gk,vK hz,Gm,run_underlying hu,hpl,E7];rw[hpe,h3];rfl
    ·have:=RA.agg (c:=c) (H:=H) (w:=w) (aas:=out) (vs:=cs'.toList) h4.1.symm λi a v ha hv=>h4.2 i v a hv ha;simpa using this
  ·simp at h
 ·rename_i m E zs hu hz;split at h
  ·rename_i n hs;cases hf:jr (λi=>some (i*n,n)) (zs.toList.map vq) parts with
   |none=>rw[hf]at h;simp at h
   |some out =>
    rw[hf]at h;simp at h;subst h;obtain⟨cs',h3,h4⟩:=nY (cs:=zs) hp (CN (c:=c) (H:=H) (w:=w) zs.toList) hf;refine⟨.agg cs',?_,?_⟩
    ·simp only[AJ,Gk,vK hz,Gm,run_underlying hu,E7,yd hs];rw[h3];rfl
    ·have:=RA.agg (c:=c) (H:=H) (w:=w) (aas:=out) (vs:=cs'.toList) h4.1.symm λi a v ha hv=>h4.2 i v a hv ha;simpa using this
  ·simp at h
 ·simp at h
theorem Y4 {size:Nat}:∀(vs:IU Value) (k:Nat) (cs:IG Value),(∀v∈vs,v.cells.size=size)->(k+vs.length)*size<=cs.size->∃cs',zz5 (λi=>some (i*size,size)) cs ((vs.zipIdx k).map λp=>(p.2,p.1))=some cs'/\cs'.size=cs.size/\cs'.toList=cs.toList.take (k*size)++(vs.map λv=>v.cells.toList).flatten++cs.toList.drop ((k+vs.length)*size)
 |[],k,cs,_,_=>⟨cs,rfl,rfl,by simp⟩
 |v::vs,k,cs,hv,hs=>by
  have e1:=hv v (by simp);have hmul:(k+(vs.length+1))*size=k*size+size+vs.length*size:=by rw[FC,FC];omega
  simp only[F2]at hs;have hfold:(v.cells.zipIdx.foldl (λcs (x:Value×Nat)=>cs.setIfInBounds (k*size+x.2) x.1) cs).toList=putL cs.toList (k*size) v.cells.toList:=by rw[←zzA,zxP];exact iE _ _ _
  have hsz:(v.cells.zipIdx.foldl (λcs (x:Value×Nat)=>cs.setIfInBounds (k*size+x.2) x.1) cs).size=cs.size:=by have:=Gv IR hfold;rw[qT]at this;simpa using this
  obtain⟨cs',h3,h4,h5⟩:=Y4 vs (k+1) (v.cells.zipIdx.foldl (λcs (x:Value×Nat)=>cs.setIfInBounds (k*size+x.2) x.1) cs) (λu hu=>hv u (by simp[hu])) (by rw[hsz,show k+1+vs.length=k+(vs.length+1) by omega];exact hs);have hnot:¬ ((decide (v.cells.size≠size)||decide (k*size+v.cells.size>cs.size))=true):=by simp;omega
  refine⟨cs',?_,by rw[h4,hsz],?_⟩
  ·simp only[zw2,Gb,zz5];rw[IE hnot];exact h3
  ·have hl:v.cells.toList.length=size:=by simpa using e1
   rw[h5,hfold,jD _ _ _ (by simp;omega),hl];have a1:(k+1)*size=k*size+size:=by rw[FC];omega
   have a2:(k+1+vs.length)*size=k*size+size+vs.length*size:=by rw[FC,FC];omega
   have hk:(cs.toList.take (k*size)).length=k*size:=by simp;omega
   have l1:(cs.toList.take (k*size)++v.cells.toList).length=k*size+size:=by rw[FG,hk,hl]
   rw[a1,a2,IU.take_append_of_le_length (by omega),IU.take_of_length_le (by omega),IU.drop_append,l1];rw[Fx (by omega)];simp only[BR,IU.drop_drop,Gb,BY,F2,hmul];rw[show k*size+size+(k*size+size+vs.length*size - (k*size+size))=k*size+size+vs.length*size by omega];simp
theorem sN {α:Type}{sz:Nat}:∀(L:IU (IU α)) (i j:Nat),(∀l∈L,l.length=sz)->j<sz->L.flatten[i*sz+j]? = (L[i]?).bind λl=>l[j]?
 |[],i,j,_,_=>by simp
 |l::L,0,j,h,hj=>by have:=h l (by simp);simp[Ez (show j<l.length by omega)]
 |l::L,i+1,j,h,hj=>by
  have hl:=h l (by simp);have ih:=sN L i j (λx hx=>h x (by simp[hx])) hj;have e:(i+1)*sz+j=l.length+(i*sz+j):=by rw[FC,hl];omega
  rw[BY,e,EG (by omega)];simp only[Nat.add_sub_cancel_left,zzH];exact ih
theorem R1.new_row {c:Cx}{H:IU Box}{sz cap:Nat}{vs:IU Value}{ds:IU D}{T:TypeId}{fr:Nat×Nat}(hR:HR c H w) (h:zy (RV c.I c.J w) vs ds) (hsz:∀d∈ds,d.cells.length=sz) (rest:IU Value) (hcap:ds.length<=cap): R1 (c.imm w.heap.size (ds.length*sz)).I (c.imm w.heap.size (ds.length*sz)).J { w with heap:=w.heap.push (.cells ((vs.map λv=>v.cells.toList).flatten++rest).toArray T fr) } (.slice (some ⟨w.heap.size,0,none⟩) ds.length cap) (.sl ds):=by
 have e:=AW c w (.cells ((vs.map λv=>v.cells.toList).flatten++rest).toArray T fr) (ds.length*sz) hR.ilt hR.jlt;have hall:∀l∈vs.map (λv=>v.cells.toList),l.length=sz:=by
  intro l hl;obtain⟨v,hv,rfl⟩:=Gd.1 hl;obtain⟨i,hi,he⟩:=EF.1 hv;have hi':i<ds.length:=by rw[←h.1];exact hi
  have:=h.2 i v ds[i] (by simp[hi,he]) (by simp[hi']);rw[this.cells.1];exact hsz _ (ED _)
 have hget:∀i j d,z1 ds i j=some d->∃u,((vs.map λv=>v.cells.toList).flatten)[i*sz+j]? = some u/\R1 c.I c.J w u d/\i*sz+j<ds.length*sz:=by
  intro i j d hd;unfold z1 at hd;cases hi:ds[i]? with
  |none=>rw[hi]at hd;simp at hd
  |some x =>
   rw[hi]at hd;simp only[CZ]at hd;obtain⟨v,hv,hr⟩:=h.get hi;obtain⟨u,hu,hr'⟩:=hr.cells.get hd;have hil:i<ds.length:=by rcases G4 i ds.length with h' |h';exact h';simp[Gt h']at hi
   have hj:j<sz:=by
    have:j<x.cells.length:=by rcases G4 j x.cells.length with h' |h';exact h';simp[Gt h']at hd
    rw[hsz x (GS hi)]at this;exact this
   refine⟨u,?_,hr',?_⟩
   ·rw[sN _ _ _ hall hj];simp[hv];simpa using hu
   ·calc i*sz+j<i*sz+sz:=by omega
     _=(i+1)*sz:=by rw[FC];omega
     _<=ds.length*sz:=Be _ hil
 refine Cm (I:=(c.imm w.heap.size (ds.length*sz)).I) w.heap.size 0 cap sz ds (λi j=>(((vs.map λv=>v.cells.toList).flatten)[i*sz+j]?).getD undef) hsz ?_ ?_ hcap
 ·intro i j d hd;obtain⟨u,hu,_,hlt⟩:=hget i j d hd;refine⟨.inr ⟨rfl,by omega⟩,?_⟩;have hlen:i*sz+j<((vs.map λv=>v.cells.toList).flatten).length:=by
   rcases G4 (i*sz+j) ((vs.map λv=>v.cells.toList).flatten).length with h' |h'
   ·exact h'
   ·simp only[Gt h']at hu;simp at hu
  simp only[E6,Ec,zxY];simp only[DP,FU,if_false,CE];rw[Ez hlen,hu];rfl
 ·intro i j d hd;obtain⟨u,hu,hr,_⟩:=hget i j d hd;simp only[hu,FT];exact hr.ext e
end
def ev (G:Nat->IQ (IU D)) (get:Nat->AV):G1->AV
 |.tmp t=>get t
 |.const v=>match v with
  |.slice none 0 0=>.full []
  |.nilFunc=>.nilf
  |v=>match valD v with
   |some x=>.d x
   |none=>.any
 |.global g=>match G g with
  |some cs=>.iptr cs
  |none=>.any
 |.func f=>.d (.fn f)
def GR (G:Nat->IQ (IU D)) (c:Cx) (w:H5):Prop :=∀g cs,G g=some cs->∀(j:Nat) x,cs[j]? = some x->c.I g j/\∃v,w.cell? ⟨g,j,none⟩=some v/\R1 c.I c.J w v x
theorem GR.ext {G c w c' w'} (e:Hs c w c' w') (h:GR G c w):GR G c' w':=by intro g cs hg j x hx;obtain⟨h1,v,h2,h3⟩:=h g cs hg j x hx;exact⟨e.isub _ _ h1,v,by rw[e.icell _ _ h1];exact h2,h3.ext e⟩
def avSl:AV->IQ (IU D)
 |.d (.sl ds)=>some ds
 |.full ds=>some ds
 |.nils=>some []
 |.vec _ ds=>some ds
 |_=>none
def sameKind:D->D->Bool
 |.int k _,.int k' _=>decide (k=k')
 |.bool _,.bool _=>true
 |.str _,.str _=>true
 |.agg [.int k _,.int j _],.agg [.int k' _,.int j' _]=>decide (k=k')&&decide (j=j')
 |_,_=>false
def beqD:D->D->Bool
 |.int _ a,.int _ b=>a==b
 |.bool a,.bool b=>a==b
 |.str s,.str t=>s==t
 |.agg [.int _ a,.int _ b],.agg [.int _ c,.int _ d]=>a==c&&b==d
 |_,_=>false
def zT (es:IU (D×D)) (k:D):IQ D:=(es.find? λkv=>beqD k kv.1).map (·.2)
def Sh.ok:Sh->D->Bool
 |.int k,.int k' _=>decide (k=k')
 |.bool,.bool _=>true
 |.str,.str _=>true
 |.sl,.sl _=>true
 |.fn,.fn _=>true
 |_,_=>false
theorem Sh.norm_ok {sh:Sh}{x:D}(h:sh.ok x=true):sh.norm x=x:=by
 cases sh<;>cases x<;>simp[Sh.ok,Sh.norm,D.toInt,D.toBool,D.toStr,D.toSl,Cq]at h ⊢
 exact h
def keyOk:Dz->D->Bool
 |.int _,.int _ _=>true
 |.string,.str _=>true
 |.bool,.bool _=>true
 |_,_=>false
def RJ (P:HP) (K:TypeId):D->Bool
 |.agg [.int _ _,.int _ _] =>
  match P.underlying K with
  |some (.array 2 E)=>(match P.underlying E with|some (.int _)=>true|_=>false)&&(xT P E==some 1)
  |_=>false
 |_=>false
def oB (P:HP) (K:TypeId) (kd:Dz) (k:D):Bool:=keyOk kd k||RJ P K k
def MI (a:AV):IQ D :=match avD1 a with
 |some x=>some x
 |none=>avD a
def iA (P:HP) (T:TypeId) (es:IU (D×D)) (k:D) (commaOk:Bool):IQ (AV×Prop) :=match P.underlying T with
 |some (.map K E) =>
  match P.underlying K,yZ P E,uW P 2 E with
  |some kd,some z,some [sh] =>
   match valD1 z with
   |some zd =>
    if oB P K kd k&&sh.ok zd then
     let r:=sh.norm ((zT es k).getD zd);let F:Prop:=(es.all λkv=>sameKind k kv.1&&sh.ok kv.2)=true;some (if commaOk then .tup [.d r,.d (.bool (zT es k).isSome)]else .d r,F)
    else none
   |none =>
    match z,sh with
    |.nilFunc,.fn =>
     if oB P K kd k then
      let F:Prop:=(es.all λkv=>sameKind k kv.1&&Sh.ok .fn kv.2)=true;some (if commaOk then .tup [.fsym ((zT es k).map Cq),.d (.bool (zT es k).isSome)]else .fsym ((zT es k).map Cq),F)
     else none
    |_,_=>none
  |_,_,_=>none
 |_=>none
def I1 (P:HP) (T:TypeId):Bool:=P.underlying T matches some .string
def vo (n:Nat) (lo hi:IQ AV):IQ (Int×Int×Prop) :=match lo,hi with
 |none,none=>some (0,n,IN)
 |some (.d (.int _ l)),none=>some (l,n,0<=l/\l<=n)
 |none,some (.d (.int _ h))=>some (0,h,0<=h/\h<=n)
 |some (.d (.int _ l)),some (.d (.int _ h))=>some (l,h,0<=l/\l<=h/\h<=n)
 |_,_=>none
def yH (ds:IU D) (sz:Nat):Bool:=ds.all λd=>d.cells.length==sz
def nilA:AV->IQ Bool
 |.nils=>some true
 |.d (.sl (_::_))=>some false
 |.full (_::_)=>some false
 |.vec _ (_::_)=>some false
 |_=>none
def nilFA:AV->IQ Bool
 |.nilf=>some true
 |.d (.fn _)=>some false
 |.clo _ _ _=>some false
 |.yld _=>some false
 |_=>none
def M9 (P:HP) (op:EK) (T:TypeId) (a:AV) (y:G1):IQ Bool :=match op,y with
 |.eql,.const (.slice none 0 0)=>match P.underlying T with
  |some (.slice _)=>nilA a
  |_=>none
 |.neq,.const (.slice none 0 0)=>match P.underlying T with
  |some (.slice _)=>(nilA a).map not
  |_=>none
 |.eql,.const .nilFunc=>match P.underlying T with
  |some (.func _ _ _)=>nilFA a
  |_=>none
 |.neq,.const .nilFunc=>match P.underlying T with
  |some (.func _ _ _)=>(nilFA a).map not
  |_=>none
 |_,_=>none
def rowFrom:IU Sh->IU D->Nat->IU D
 |[],_,_=>[]
 |s::r,cs,k=>s.norm ((cs[k]?).getD default)::rowFrom r cs (k+1)
def Y5 (P:HP) (E:TypeId) (cs:IU D) (sz i:Nat):IQ (IU D) :=match uW P 9 E with
 |some shs=>if shs.length=sz then some (rowFrom shs cs (i*sz))else none
 |none=>none
def xA (P:HP) (e:G1->AV) (H:IU Box):Op->IQ (AV×Prop)
 |.move x=>some (e x,IN)
 |.assign x=>some (e x,IN)
 |.load T a =>
  match e a with
  |.ptr l o=>match H[l]? with
   |some (.cells _ cs)=>(uE P T (cs.drop o)).map λr=>(r,IN)
   |_=>none
  |.iptr cs=>(uE P T (cs.map IH)).map λr=>(r,IN)
  |_=>none
 |.fieldAddr T x f =>
  match P.underlying T with
  |some (.struct fs)=>match fs[f]? with
   |some fd=>match xT P fd.type with
    |some (_+1)=>match e x with
     |.ptr l o=>some (.ptr l (o+fd.offset),IN)
     |.iptr cs=>some (.iptr (cs.drop fd.offset),IN)
     |_=>none
    |_=>none
   |none=>none
  |_=>none
 |.indexAddr T x i =>
  match P.underlying T,e i with
  |some (.slice E),.d (.int _ n)=>match avSl (e x),tC P E,xT P E with
   |some ds,some ag,some sz=>match to P E ds n.toNat with
    |some cs=>if cs.length=sz then some (.iptr cs,0<=n/\ds[n.toNat]? = some (Wz ag cs))else none
    |none=>none
   |_,_,_=>none
  |some (.array m E),.d (.int _ n)=>match xT P E with
   |some sz=>match e x with
    |.ptr l o=>some (.ptr l (o+n.toNat*sz),0<=n/\n<m)
    |.iptr cs=>match Y5 P E cs sz n.toNat with
     |some xs=>some (.iptr xs,(0<=n/\n<m)/\(cs.drop (n.toNat*sz)).take sz=xs)
     |none=>none
    |_=>none
   |none=>none
  |_,_=>none
 |.index T x i =>
  match P.underlying T,e x,e i with
  |some .string,.d (.str s),.d (.int _ n)=>some (.d (.int .u8 (s.getD n.toNat 0).toNat),0<=n/\n.toNat<s.length)
  |_,_,_=>none
 |.unOp .not _ x =>
  match e x with
  |.d (.bool b)=>some (.d (.bool (!b)),IN)
  |_=>none
 |.unOp .neg _ x =>
  match e x with
  |.d (.int k n)=>some (.d (.int k (k.wrap (0 - n))),IN)
  |_=>none
 |.binOp op T x y _ =>
  match M9 P op T (e x) y with
  |some r=>some (.d (.bool r),IN)
  |none=>match avD (e x),avD (e y)with
   |some a,some b=>(Wx P op T a b).map λr=>(.d r.1,r.2)
   |_,_=>none
 |.convert S T x =>
  match P.underlying S,P.underlying T,e x with
  |some _,some (.int k),.d (.int _ n)=>some (.d (.int k (k.wrap n)),IN)
  |some _,some .string,.d (.str s)=>some (.d (.str s),IN)
  |_,_,_=>none
 |.extract t i =>
  match e t with
  |.tup vs=>(vs[i]?).map λa=>(a,IN)
  |_=>none
 |.build T parts =>
  match parts.toList.mapM (λ(p:Nat×G1)=>(avCells (e p.2)).map λx=>(p.1,x))with
  |some ps=>(bv P T ps).map λx=>(x,IN)
  |none=>none
 |.buildSlice T len parts =>
  match P.underlying T with
  |some (.slice E)=>match xT P E,yZ P E,parts.toList.mapM (λ(p:Nat×G1)=>avD (e p.2))with
   |some sz,some _,some ds =>
    if parts.toList.map (·.1)=Gp len/\(ds.all λd=>d.cells.length==sz)=true/\len*sz<=2 ^ 24 then some (.full ds,IN)else none
   |_,_,_=>none
  |_=>none
 |.makeFunc (.func f) first cap=>some (.clo f (first.toList.map e) (cap.toList.map e),IN)
 |.lookup T x k ok =>
  match e x,MI (e k)with
  |.d (.gmap es),some kd=>iA P T es kd ok
  |.map l,some kd=>match H[l]? with
   |some (.map es)=>iA P T es kd ok
   |_=>none
  |_,_=>none
 |.slice T x lo hi none =>
  match P.underlying T,e x with
  |some .string,.d (.str s)=>match vo s.length (lo.map e) (hi.map e)with
   |some (l,h,F)=>some (.d (.str ((s.take h.toNat).drop l.toNat)),F)
   |none=>none
  |some (.slice E),a=>match avSl a,xT P E with
   |some ds,some sz=>match vo ds.length (lo.map e) (hi.map e)with
    |some (l,h,F)=>some (.d (.sl ((ds.take h.toNat).drop l.toNat)),F/\yH ds sz=true)
    |none=>none
   |_,_=>none
  |some (.array m E),.iptr cs=>match xT P E with
   |some sz=>if sz=1/\m<=cs.length then match vo m (lo.map e) (hi.map e)with
     |some (l,h,F)=>some (.d (.sl (((cs.take m).take h.toNat).drop l.toNat)),F)
     |none=>none
    else none
   |none=>none
  |_,_=>none
 |.nilCheck x =>
  match e x with
  |.ptr l o=>some (.ptr l o,IN)
  |.iptr cs=>some (.iptr cs,IN)
  |.clo f a b=>some (.clo f a b,IN)
  |.d (.fn f)=>some (.d (.fn f),IN)
  |_=>none
 |.call { callee:= .builtin .len,args,argTypes } =>
  match args.toList,argTypes.toList with
  |[x],[T]=>match P.underlying T,e x with
   |some .string,.d (.str s)=>some (.d (.int .i64 s.length),IN)
   |some (.slice _),a=>(avSl a).map λds=>(.d (.int .i64 ds.length),IN)
   |_,_=>none
  |_,_=>none
 |.call { callee:= .builtin .max,args,argTypes:=_ } =>
  match args.toList with
  |[x,y]=>match e x,e y with
   |.d (.int k a),.d (.int k' b)=>if k=k' then some (.d (.int k (if b>a then b else a)),IN)else none
   |_,_=>none
  |_=>none
 |.slice T x none (some hi) (some mx) =>
  match P.underlying T,avSl (e x),e hi,e mx with
  |some (.slice E),some ds,.d (.int _ h),.d (.int _ m)=>match xT P E with
   |some _=>some (.full (ds.take h.toNat),0<=h/\h<=ds.length/\m=h)
   |none=>none
  |_,_,_,_=>none
 |_=>none
def yY (P:HP) (c:Cx) (H:IU Box) (w:H5) (s:HG Value) (a:AV):Prop :=∃v w' c',s.run P w = .ok v w'/\Hs c w c' w'/\zl c H c' H/\HR c' H w'/\RA c' H w' a v
theorem yY.pure {P c H w s a v} (hR:HR c H w) (h:Bs P s w = .ok v w) (ha:RA c H w a v):yY P c H w s a :=⟨v,w,c,h,Fq _ _,GV _ _,hR,ha⟩
section
variable {P:HP}{c:Cx}{H:IU Box}{w:H5}{e:G1->AV}{r:G1->Value}
theorem ku {a:AV}{v:Value}{x:D}(h:RA c H w a v) (e:MI a=some x):RV c.I c.J w v x:=by
 unfold MI at e;split at e
 ·rename_i y hy;cases e;exact(nZ h hy).rv
 ·exact wB h e
theorem vJ {a:AV}{v:Value}{ds:IU D}(h:RA c H w a v) (he:avSl a=some ds):∃ad n k,v = .slice ad n k/\R1 c.I c.J w v (.sl ds)/\n=ds.length:=by
 have key:R1 c.I c.J w v (.sl ds):=by
  cases h with
  |@d x v h=>cases x<;>simp[avSl]at he;subst he;exact h
  |full h=>simp[avSl]at he;subst he;exact h
  |nils=>simp[avSl]at he;subst he;exact .nil
  |vec h=>simp[avSl]at he;subst he;exact h
  |_=>simp[avSl]at he
 have k2:=key;cases k2 with
 |nil=>exact⟨_,_,_,rfl,key,rfl⟩
 |emp=>exact⟨_,_,_,rfl,key,rfl⟩
 |sl=>exact⟨_,_,_,rfl,key,rfl⟩
theorem Wt {T:TypeId}{x:G1}{a:AV}(hR:HR c H w) (he:RA c H w (e x) (r x)) (h:(match e x with
   |.ptr l o=>match H[l]? with
    |some (.cells _ cs)=>(uE P T (cs.drop o)).map λr=>(r,IN)
    |_=>none
   |.iptr cs=>(uE P T (cs.map IH)).map λr=>(r,IN)
   |_=>none:IQ (AV×Prop))=some (a,IN)):yY P c H w (DH T (r x)) a:=by
 generalize e x=ex at *;generalize r x=rx at *;cases he with
 |@ptr l o b k T' cs hH hl =>
  simp only[hH]at h;cases hla:uE P T (cs.drop o)with
  |none=>rw[hla]at h;simp at h
  |some a' =>
   rw[hla]at h;simp at h;subst h;obtain⟨vs,hw,hv⟩:=hR.box l b k _ hl hH;obtain⟨v,h1,h2⟩:=tB (b:=b) (o:=o) hla (hv.drop o) (λj v hj=>by simp only[Ds]at hj;simp[Ec,hw,hj]);exact yY.pure hR h1 h2
 |@iptr cs b o hc =>
  simp only at h;cases hla:uE P T (cs.map IH)with
  |none=>rw[hla]at h;simp at h
  |some a' =>
   rw[hla]at h;simp at h;subst h;let vs:IU Value:=(Gp cs.length).map λj=>(w.cell? ⟨b,o+j,none⟩).getD undef;have hv:∀(j:Nat) v,vs[j]? = some v->j<cs.length/\w.cell? ⟨b,o+j,none⟩=some v:=by
    intro j v hj;have hlt:j<cs.length:=by
     rcases G4 j cs.length with h' |h'
     ·exact h'
     ·simp[vs,Gt (show(Gp cs.length).length<=j by simpa using h')]at hj
    simp[vs,hlt]at hj;obtain⟨_,u,hu,_⟩:=hc j cs[j] (by simp[hlt]);rw[hu]at hj;simp at hj;subst hj;exact⟨hlt,hu⟩
   obtain⟨v,h1,h2⟩:=tB (c:=c) (H:=H) (b:=b) (o:=o) hla (vs:=vs) ⟨by simp[vs],λj u y hu hy=>by obtain⟨hlt,hcell⟩:=hv j u hu;simp[hlt]at hy;obtain⟨_,u',hu',hr'⟩:=hc j cs[j] (by simp[hlt]);rw[hu']at hcell;simp at hcell;subst hcell;subst hy;exact .d hr'.rv⟩ (λj u hu=>(hv j u hu).2);exact yY.pure hR h1 h2
 |_=>simp at h
theorem jJ {T E m:Nat}{i:G1}{x:G1}{n:Int}{k:IF}{sz:Nat}{a:AV}{F:Prop}(hR:HR c H w) (hu:P.underlying T=some (.array m E)) (hs:xT P E=some sz) (hi:r i = .int k n) (hx:RA c H w (e x) (r x)) (h:(match e x with
    |.ptr l o=>some (.ptr l (o+n.toNat*sz),0<=n/\n<m)
    |.iptr cs=>match Y5 P E cs sz n.toNat with
     |some xs=>some (.iptr xs,(0<=n/\n<m)/\(cs.drop (n.toNat*sz)).take sz=xs)
     |none=>none
    |_=>none:IQ (AV×Prop))=some (a,F)) (hF:F):yY P c H w (CW T (r x) (r i)) a:=by
 have run:∀b o,0<=n->n<m->(CW T (.pointer (some ⟨b,o,none⟩)) (.int k n)).run P w = .ok (.pointer (some ⟨b,o+n.toNat*sz,none⟩)) w:=by intro b o h0 h1;simp[CW,asIntOf,run_underlying hu,yd hs,h0,h1,wy,DL]
 rw[hi];generalize e x=ex at *;generalize r x=rx at *;cases hx with
 |ptr hH hl =>
  cases h;exact yY.pure hR (run _ _ hF.1 hF.2) (.ptr hH hl)
 |@iptr cs b o hc =>
  simp only at h;split at h
  ·cases h;obtain⟨⟨h0,h1⟩,h2⟩:=hF;refine yY.pure hR (run _ _ h0 h1) (.iptr λj y hy=>?_);rw[←h2,Fa]at hy;split at hy
   ·rw[Ds]at hy;have:=hc _ _ hy;rw[←CV]at this;exact this
   ·cases hy
  ·cases h
 |_=>simp at h
theorem Y6 {T E:TypeId}{v:Value}{ds cs:IU D}{k:IF}{n:Int}{ag:Bool}{sz:Nat}(hR:HR c H w) (hu:P.underlying T=some (.slice E)) (hs:xT P E=some sz) (hv:R1 c.I c.J w v (.sl ds)) (hag:ag=true∨cs.length=1) (hna:ag=false->∀xs,cs.getD 0 default ≠ .agg xs) (hl:cs.length=sz) (h0:0<=n) (hd:ds[n.toNat]? = some (Wz ag cs)): yY P c H w (CW T v (.int k n)) (.iptr cs):=by
 have hcells:(Wz ag cs).cells=cs:=by
  unfold Wz;cases ag with
  |true=>rfl
  |false =>
   have h1:cs.length=1:=by rcases hag with h|h;simp at h;exact h
   have h2:=hna rfl;match cs,h1 with
   |[x],_ =>
    simp at h2 ⊢;cases x<;>first|rfl|exact Hu rfl (h2 _)
 cases hv with
 |nil=>simp at hd
 |emp=>simp at hd
 |sl b off cap sz' ds vals hsz hc hr hcap =>
  have hlt:n.toNat<ds.length:=by rcases G4 n.toNat ds.length with h' |h';exact h';simp[Gt h']at hd
  have e1:sz'=sz:=by have:=hsz _ (GS hd);rw[hcells]at this;omega
  subst e1;refine yY.pure hR (js hu hs h0 (by omega)) (.iptr λj x hx=>?_);have hca:z1 ds n.toNat j=some x:=by simp[z1,hd,hcells,hx]
  obtain⟨i1,i2⟩:=hc _ _ _ hca;exact⟨i1,_,i2,hr _ _ _ hca⟩
end
open Go.Sx.Sh renaming ok->Ft
open Go.Sx.yY renaming pure->GU
theorem bt (sh:Sh) (x:D) (xs:IU D):sh.norm x ≠ .agg xs:=by cases sh<;>simp[Sh.norm]
theorem mZ {P T ds i cs} (h:to P T ds i=some cs):∀x∈cs,∀xs,x ≠ .agg xs:=by
 unfold to at h;cases hs:uW P 9 T with
 |none=>rw[hs]at h;simp at h
 |some shs =>
  rw[hs]at h;simp at h;subst h;intro x hx xs;obtain⟨p,_,rfl⟩:=Gd.1 hx;exact bt _ _ _
theorem hO {P n T shs} (h:uW P (n+1) T=some shs) (ha:tC P T=some false):shs.length=1:=by
 unfold uW at h;unfold tC at ha;split at h<;>first
  |(simp at h;subst h;rfl)
  |(rename_i hu;rw[hu]at ha;simp at ha)
  |(simp at h)
section
variable {P:HP}{c:Cx}{H:IU Box}{w:H5}{e:G1->AV}{r:G1->Value}
theorem oA {kd:Dz}{k x:D}{v u:Value}(hk:keyOk kd k=true) (hs:sameKind k x=true) (hv:R1 c.I c.J w v k) (hu:R1 c.I c.J w u x):AZ kd v u=some (beqD k x):=by
 cases hv<;>cases hu<;>simp[sameKind]at hs<;>cases kd<;>simp[keyOk]at hk<;>simp[AZ,beqD]
 ·exact hs
 ·rw[beq_toListBytes];simp
theorem n8 {kd:Dz}{k:D}{v:Value}(hk:keyOk kd k=true) (hv:R1 c.I c.J w v k):∀(es:IU (D×D)) (ents:IU Ea) (i:Nat),zy (λ(x:Ea) (kv:D×D)=>R1 c.I c.J w x.key kv.1/\R1 c.I c.J w x.val kv.2) ents es->(∀kv∈es,sameKind k kv.1=true)->(zT es k=none->D6 kd v ents i=some none)/\(∀x,zT es k=some x->∃j u,D6 kd v ents i=some (some (j,u))/\R1 c.I c.J w u x)
 |[],ents,i,h,_=>by have:=h.nil_right;subst this;simp[zT,D6]
 |kv::es,ents,i,h,hs=>by
  obtain⟨en,ens,rfl,⟨h1,h2⟩,h3⟩:=h.cons_right;have hn:=oA (kd:=kd) hk (hs kv (by simp)) hv h1;have ih:=n8 hk hv es ens (i+1) h3 (λx hx=>hs x (by simp[hx]));simp only[zT,EQ,D6,hn];cases hb:beqD k kv.1 with
  |true=>simp;exact⟨_,_,⟨rfl,rfl⟩,h2⟩
  |false=>simpa[zT]using ih
theorem g8 {K:TypeId}{kd:Dz}{k:D}{v:Value}{b:Bool}(n:Nat) (hk:P.underlying K=some kd) (hck:keyOk kd k=true) (hv:R1 c.I c.J w v k):(Da b (n+1) K v).run P w = .ok () w:=by simp only[Da,Gk,run_underlying hk,Gm];cases hv<;>cases kd<;>simp[keyOk]at hck<;>rfl
theorem sM {K:TypeId}{k:D}(h:RJ P K k=true):∃k1 a k2 b E kk,k = .agg [.int k1 a,.int k2 b]/\P.underlying K=some (.array 2 E)/\P.underlying E=some (.int kk)/\xT P E=some 1:=by
 unfold RJ at h;split at h
 ·rename_i k1 a k2 b;split at h
  ·rename_i E hK;simp only[HC,beq_iff_eq]at h;obtain⟨h1,h2⟩:=h;split at h1
   ·rename_i kk hE;exact⟨k1,a,k2,b,E,kk,rfl,hK,hE,h2⟩
   ·cases h1
  ·cases h
 ·cases h
theorem RV.two {k1 k2:IF}{a b:Int}{v:Value}(h:RV c.I c.J w v (.agg [.int k1 a,.int k2 b])):v = .agg #[.int k1 a,.int k2 b]:=by obtain⟨vs,rfl,hvs⟩:=h;obtain⟨v1,r1,rfl,h1,h2⟩:=hvs.cons_right;obtain⟨v2,r2,rfl,h3,h4⟩:=h2.cons_right;have:=h4.nil_right;subst this;cases h1;cases h3;rfl
theorem g9 {K E:TypeId}{kk k1 k2:IF}{a b a' b':Int}(hK:P.underlying K=some (.array 2 E)) (hE:P.underlying E=some (.int kk)) (hs:xT P E=some 1):(BA K (.agg #[.int k1 a,.int k2 b]) (.agg #[.int k1 a',.int k2 b'])).run P w = .ok (a==a'&&b==b') w:=by
 have ag:tC P E=some false:=by simp[tC,hE]
 have p0:∀x y:Value,(part E #[x,y] 0).run P w = .ok x w:=λx y=>yQ ag rfl;have p1:∀x y:Value,(part E #[x,y] 1).run P w = .ok y w:=λx y=>yQ ag rfl;have hd:zwF=9999+1:=rfl;have q:∀k x y,(zz6 9999 E (.int k x) (.int k y)).run P w = .ok (x==y) w:=λk x y=>run_equalIn_int w 9998 E k kk x y hE;have rg:Dk 0 2=[0,1]:=rfl;simp only[BA,hd];unfold zz6;simp only[Gk,run_underlying hK,Gm,yd hs,B8];cases h1:(a==a')<;>cases h2:(b==b')<;>simp[rg,p0,p1,q,h1,h2]
theorem Ws {K E:TypeId}{kk k1 k2:IF}{a b:Int}{e:Bool}(n:Nat) (hK:P.underlying K=some (.array 2 E)) (hE:P.underlying E=some (.int kk)) (hs:xT P E=some 1):(Da e (n+2) K (.agg #[.int k1 a,.int k2 b])).run P w = .ok () w:=by
 have ag:tC P E=some false:=by simp[tC,hE]
 have p0:∀x y:Value,(part E #[x,y] 0).run P w = .ok x w:=λx y=>yQ ag rfl;have p1:∀x y:Value,(part E #[x,y] 1).run P w = .ok y w:=λx y=>yQ ag rfl;have hc:∀k a,(Da e (n+1) E (.int k a)).run P w = .ok () w:=λk a=>by simp only[Da,Gk,run_underlying hE,Gm];rfl
 have rg:Dk 0 2=[0,1]:=rfl;unfold Da;simp only[Gk,run_underlying hK,Gm];simp[rg,yd hs,p0,p1,hc]
theorem kt {K:TypeId}{kd:Dz}{k:D}{v:Value}{b:Bool}(n:Nat) (hk:P.underlying K=some kd) (hck:oB P K kd k=true) (hv:RV c.I c.J w v k):(Da b (n+2) K v).run P w = .ok () w:=by
 simp only[oB,F9]at hck;rcases hck with hck|hck
 ·refine g8 (n+1) hk hck (hv.one λcs hcs=>?_);subst hcs;cases kd<;>simp[keyOk]at hck
 ·obtain⟨k1,a,k2,b',E,kk,rfl,h1,h2,h3⟩:=sM hck;rw[hv.two];exact Ws n h1 h2 h3
theorem mY {k1 k2:IF}{a b:Int}{x:D}(h:sameKind (.agg [.int k1 a,.int k2 b]) x=true):∃a' b',x = .agg [.int k1 a',.int k2 b']:=by
 unfold sameKind at h;split at h
 ·rename_i h1;cases h1
 ·rename_i h1;cases h1
 ·rename_i h1;cases h1
 ·rename_i k n1 j n2 k' n3 j' n4 h1;simp only[D.agg.injEq,EP,D.int.injEq,and_true]at h1;obtain⟨⟨rfl,rfl⟩,rfl,rfl⟩:=h1;simp only[HC,HS]at h;obtain⟨rfl,rfl⟩:=h;exact⟨_,_,rfl⟩
 ·cases h
def br (c:Cx) (w:H5):IU Ea->IU (D×D)->Prop:=zy (λ(x:Ea) (kv:D×D)=>RV c.I c.J w x.key kv.1/\RV c.I c.J w x.val kv.2)
theorem qf {K:TypeId}{k:D}{v:Value}(hk:RJ P K k=true) (hv:RV c.I c.J w v k):∀(es:IU (D×D)) (ents:IU Ea) (i:Nat),br c w ents es->(∀kv∈es,sameKind k kv.1=true)->(zT es k=none->(D4 K v ents i).run P w = .ok none w)/\(∀x,zT es k=some x->∃j u,(D4 K v ents i).run P w = .ok (some (j,u)) w/\RV c.I c.J w u x)
 |[],ents,i,h,_=>by have:=h.nil_right;subst this;simp[zT,D4]
 |kv::es,ents,i,h,hs=>by
  obtain⟨en,ens,rfl,⟨h1,h2⟩,h3⟩:=h.cons_right;have ih:=qf hk hv es ens (i+1) h3 (λx hx=>hs x (by simp[hx]));obtain⟨k1,a,k2,b,E,kk,rfl,hK,hE,hsz⟩:=sM hk;obtain⟨a',b',hkv⟩:=mY (hs kv (by simp));rw[hkv]at h1;have e1:=hv.two;have e2:=h1.two;have hq:=g9 (w:=w) (k1:=k1) (k2:=k2) (a:=a) (b:=b) (a':=a') (b':=b') hK hE hsz;have hb:beqD (.agg [.int k1 a,.int k2 b]) kv.1=(a==a'&&b==b'):=by rw[hkv];rfl
  simp only[zT,EQ,hb,D4,Gk,e1,e2,hq,Gm];cases hc:(a==a'&&b==b')with
  |true=>simp;exact⟨_,_,⟨rfl,rfl⟩,h2⟩
  |false=>rw[e1]at ih;simpa[zT]using ih
theorem ks {kd:Dz}{k:D}(h:keyOk kd k=true):∀cs,k ≠ .agg cs:=by rintro cs rfl;cases kd<;>simp[keyOk]at h
theorem mX {kd:Dz}{k x:D}(h:keyOk kd k=true) (hs:sameKind k x=true):∀cs,x ≠ .agg cs:=by
 rintro cs rfl;cases k<;>first
  |(simp[sameKind]at hs;done)
  |exact Hu rfl (ks h _)
theorem mW {K:TypeId}{kd:Dz}{k:D}{v:Value}{es:IU (D×D)}{ents:IU Ea}(hku:P.underlying K=some kd) (hk:oB P K kd k=true) (hv:RV c.I c.J w v k) (h:br c w ents es) (h1:∀(i:Nat) x kv,ents[i]? = some x->es[i]? = some kv->R1 c.I c.J w x.val kv.2) (hs:∀kv∈es,sameKind k kv.1=true):(zT es k=none->(D7 K v ents).run P w = .ok none w)/\(∀x,zT es k=some x->(∀cs,x ≠ .agg cs)->∃j u,(D7 K v ents).run P w = .ok (some (j,u)) w/\R1 c.I c.J w u x):=by
 simp only[oB,F9]at hk;rcases hk with hk|hk
 ·have hmr:zy (λ(x:Ea) (kv:D×D)=>R1 c.I c.J w x.key kv.1/\R1 c.I c.J w x.val kv.2) ents es :=
   ⟨h.1,λi x kv hx hkv=>⟨(h.2 i x kv hx hkv).1.one (mX hk (hs kv (GS hkv))),h1 i x kv hx hkv⟩⟩
  obtain⟨a,b⟩:=n8 (kd:=kd) hk (hv.one (ks hk)) es ents 0 hmr hs;refine⟨λhn=>?_,λx hx _=>?_⟩
  ·simp only[D7,Gk,run_underlying hku,Gm,a hn,GF]
  ·obtain⟨j,u,e1,e2⟩:=b x hx;exact⟨j,u,by simp only[D7,Gk,run_underlying hku,Gm,e1,GF],e2⟩
 ·obtain⟨a,b⟩:=qf hk hv es ents 0 h hs;obtain⟨k1,x1,k2,x2,E,kk,rfl,hK,hE,hsz⟩:=sM hk;have e1:=hv.two;have hf:(D7 K v ents).run P w=(D4 K v ents 0).run P w:=by
   have:kd = .array 2 E:=by rw[hK]at hku;cases hku;rfl
   subst this;simp only[D7,Gk,run_underlying hku,Gm];cases ents with
   |nil=>simp[D6,D4]
   |cons en ens=>rw[e1];simp[D6,AZ]
  rw[hf];exact⟨a,λx hx hx1=>by obtain⟨j,u,e1,e2⟩:=b x hx;exact⟨j,u,e1,e2.one hx1⟩⟩
theorem mV {es:IU (D×D)}{k:D}{x:D}(h:zT es k=some x):∃kv∈es,kv.2=x:=by
 unfold zT at h;cases hf:es.find? λkv=>beqD k kv.1 with
 |none=>rw[hf]at h;simp at h
 |some kv=>rw[hf]at h;simp at h;exact⟨kv,IU.mem_of_find?_eq_some hf,h⟩
theorem gz {T:TypeId}{es:IU (D×D)}{k:D}{ok:Bool}{a:AV}{F:Prop}{v:Value}{m:Nat}{ents:IG Ea}{clk:Nat}(hR:HR c H w) (hl:iA P T es k ok=some (a,F)) (hF:F) (hv:RV c.I c.J w v k) (hw:w.heap[m]? = some (.map ents clk)) (hes:zy (λ(x:Ea) (kv:D×D)=>RV c.I c.J w x.key kv.1/\RV c.I c.J w x.val kv.2) ents.toList es): yY P c H w (DY T (.map (some m)) v ok) a:=by
 unfold iA at hl;split at hl
 ·rename_i K E hu;split at hl
  ·rename_i kd z sh hk hz hsh;split at hl
   ·rename_i zd hzd;split at hl
    ·rename_i hcond;simp only[HC]at hcond;obtain⟨hck,hcz⟩:=hcond;simp only[Er,Dm]at hl;obtain⟨hla,hlF⟩:=hl;rw[←hlF]at hF;have hall:=G3.1 hF;have hval:∀(i:Nat) x kv,ents.toList[i]? = some x->es[i]? = some kv->R1 c.I c.J w x.val kv.2:=by intro i x kv hx hkv;obtain⟨h1,h2⟩:=hes.2 i x kv hx hkv;have:=hall kv (GS hkv);simp only[HC]at this;refine h2.one λcs hcs=>?_;rw[hcs]at this;cases sh<;>simp[Ft]at this
     obtain⟨hn,hsome⟩:=mW hk hck hv hes hval (λkv hkv=>by have:=hall kv hkv;simp only[HC]at this;exact this.1);have hchk:∀b:Bool,(Da b 10000 K v).run P w = .ok () w:=λb=>kt 9998 hk hck hv;have hget:(getObj m).run P w = .ok (.map ents clk) w:=by simp[getObj,Bs,hw]
     cases hlk:zT es k with
     |none =>
      have h1:=hn hlk;have hrun:(DY T (.map (some m)) v ok).run P w = .ok (if ok then .tuple #[z,.bool false]else z) w:=by simp only[DY,Gk,run_underlying hu,Gm,hget,GF,hchk,h1,vK hz]
      have hz1:R1 c.I c.J w z zd:=tA hzd;rw[hlk]at hla;simp only[IQ.getD_none,Sh.norm_ok hcz,DP]at hla;subst hla;refine GU hR hrun ?_;cases ok with
      |true =>
       refine .tup (aas:=[.d zd,.d (.bool false)]) (vs:=[z,.bool false]) rfl ?_;intro i x y hx hy;match i with
       |0=>simp at hx hy;subst hx;subst hy;exact .d hz1.rv
       |1=>simp at hx hy;subst hx;subst hy;exact .d (EZ false)
       |i+2=>simp at hx
      |false=>exact .d hz1.rv
     |some x =>
      have hxok:sh.ok x=true:=by obtain⟨kv,hm,rfl⟩:=mV hlk;have:=hall kv hm;simp only[HC]at this;exact this.2
      obtain⟨j,u,h1,h2⟩:=hsome x hlk (λcs hcs=>by rw[hcs]at hxok;cases sh<;>simp[Ft]at hxok);have hrun:(DY T (.map (some m)) v ok).run P w = .ok (if ok then .tuple #[u,.bool true]else u) w:=by simp only[DY,Gk,run_underlying hu,Gm,hget,GF,hchk,h1]
      rw[hlk]at hla;simp only[FT,Sh.norm_ok hxok,Dd]at hla;subst hla;refine GU hR hrun ?_;cases ok with
      |true =>
       refine .tup (aas:=[.d x,.d (.bool true)]) (vs:=[u,.bool true]) rfl ?_;intro i x' y hx hy;match i with
       |0=>simp at hx hy;subst hx;subst hy;exact .d h2.rv
       |1=>simp at hx hy;subst hx;subst hy;exact .d (EZ true)
       |i+2=>simp at hx
      |false=>exact .d h2.rv
    ·simp at hl
   ·split at hl
    ·split at hl
     ·rename_i hck;simp only[Er,Dm]at hl;obtain⟨hla,hlF⟩:=hl;rw[←hlF]at hF;have hall:=G3.1 hF;have hval:∀(i:Nat) x kv,ents.toList[i]? = some x->es[i]? = some kv->R1 c.I c.J w x.val kv.2:=by intro i x kv hx hkv;obtain⟨h1,h2⟩:=hes.2 i x kv hx hkv;have:=hall kv (GS hkv);simp only[HC]at this;refine h2.one λcs hcs=>?_;rw[hcs]at this;simp[Ft]at this
      obtain⟨hn,hsome⟩:=mW hk hck hv hes hval (λkv hkv=>by have:=hall kv hkv;simp only[HC]at this;exact this.1);have hchk:∀b:Bool,(Da b 10000 K v).run P w = .ok () w:=λb=>kt 9998 hk hck hv;have hget:(getObj m).run P w = .ok (.map ents clk) w:=by simp[getObj,Bs,hw]
      cases hlk:zT es k with
      |none =>
       have h1:=hn hlk;have hrun:(DY T (.map (some m)) v ok).run P w = .ok (if ok then .tuple #[.nilFunc,.bool false]else .nilFunc) w:=by simp only[DY,Gk,run_underlying hu,Gm,hget,GF,hchk,h1,vK hz]
       rw[hlk]at hla;simp only[Ee,DP]at hla;subst hla;refine GU hR hrun ?_;cases ok with
       |true =>
        refine .tup (aas:=[.fsym none,.d (.bool false)]) (vs:=[.nilFunc,.bool false]) rfl ?_;intro i x y hx hy;match i with
        |0=>simp at hx hy;subst hx;subst hy;exact .fsym none
        |1=>simp at hx hy;subst hx;subst hy;exact .d (EZ false)
        |i+2=>simp at hx
       |false=>exact .fsym none
      |some x =>
       have hxok:Ft .fn x=true:=by obtain⟨kv,hm,rfl⟩:=mV hlk;have:=hall kv hm;simp only[HC]at this;exact this.2
       cases x with
       |fn n =>
        obtain⟨j,u,h1,h2⟩:=hsome _ hlk (λcs hcs=>by cases hcs);cases h2;have hrun:(DY T (.map (some m)) v ok).run P w = .ok (if ok then .tuple #[.func (.func n) #[] #[],.bool true]else .func (.func n) #[] #[]) w:=by simp only[DY,Gk,run_underlying hu,Gm,hget,GF,hchk,h1]
        rw[hlk]at hla;simp only[Fi,Dd,Cq]at hla;subst hla;refine GU hR hrun ?_;cases ok with
        |true =>
         refine .tup (aas:=[.fsym (some n),.d (.bool true)]) (vs:=[.func (.func n) #[] #[],.bool true]) rfl ?_;intro i x' y hx hy;match i with
         |0=>simp at hx hy;subst hx;subst hy;exact .fsym (some n)
         |1=>simp at hx hy;subst hx;subst hy;exact .d (EZ true)
         |i+2=>simp at hx
        |false=>exact .fsym (some n)
       |_=>simp[Ft]at hxok
     ·simp at hl
    ·simp at hl
  ·simp at hl
 ·simp at hl
theorem mapM_parts:∀{ps:IU (Nat×G1)}{qs:IU (Nat×IU AV)},ps.mapM (λ(p:Nat×G1)=>(avCells (e p.2)).map λx=>(p.1,x))=some qs->(∀x,RA c H w (e x) (r x))->zy (λ(p:Nat×Value) (q:Nat×IU AV)=>p.1=q.1/\zy (λv a=>RA c H w a v) p.2.cells.toList q.2) (ps.map λp=>(p.1,r p.2)) qs
 |[],qs,h,_=>by simp at h;subst h;exact Ga
 |p::ps,qs,h,he=>by
  rw[Db]at h;cases hp:avCells (e p.2)with
  |none=>rw[hp]at h;simp at h
  |some x =>
   rw[hp]at h;cases hr:ps.mapM (λ(p:Nat×G1)=>(avCells (e p.2)).map λx=>(p.1,x))with
   |none=>rw[hr]at h;simp at h
   |some xs=>rw[hr]at h;simp at h;subst h;exact Gw ⟨rfl,(wT (he p.2) hp).1⟩ (mapM_parts hr he)
theorem mapM_vals:∀{ps:IU (Nat×G1)}{qs:IU D},ps.mapM (λ(p:Nat×G1)=>avD (e p.2))=some qs->(∀x,RA c H w (e x) (r x))->zy (RV c.I c.J w) (ps.map λp=>r p.2) qs
 |[],qs,h,_=>by simp at h;subst h;exact Ga
 |p::ps,qs,h,he=>by
  rw[Db]at h;cases hp:avD (e p.2)with
  |none=>rw[hp]at h;simp at h
  |some x =>
   rw[hp]at h;cases hr:ps.mapM (λ(p:Nat×G1)=>avD (e p.2))with
   |none=>rw[hr]at h;simp at h
   |some xs=>rw[hr]at h;simp at h;subst h;exact Gw (wB (he p.2) hp) (mapM_vals hr he)
theorem kr {T E:TypeId}{len sz:Nat}{parts:IG (Nat×G1)}{ds:IU D}{z:Value}(hR:HR c H w) (he:∀x,RA c H w (e x) (r x)) (hu:P.underlying T=some (.slice E)) (hs:xT P E=some sz) (hz:yZ P E=some z) (hm:parts.toList.mapM (λ(p:Nat×G1)=>avD (e p.2))=some ds) (h1:parts.toList.map (·.1)=Gp len) (h2:(ds.all λd=>d.cells.length==sz)=true) (h3:len*sz<=2 ^ 24): yY P c H w (BU T len (parts.map λ(i,x)=>(i,r x))) (.full ds):=by
 have hvals:=mapM_vals (r:=r) hm he;have hlen:ds.length=len:=by have a:=hvals.1;have b:=Gv IR h1;simp at a b;omega
 have hsz:∀d∈ds,d.cells.length=sz:=λd hd=>by have:=G3.1 h2 d hd;simpa using this
 have hvsz:∀v∈parts.toList.map (λp=>r p.2),v.cells.size=sz:=by
  intro v hv;obtain⟨i,hi,he'⟩:=EF.1 hv;have hi':i<ds.length:=by rw[←hvals.1];exact hi
  have:=hvals.2 i v ds[i] (by simp only[Ff hi,he']) (by simp[hi']);have h4:=this.cells.1;simp only[Ey]at h4;rw[h4];exact hsz _ (ED _)
 let zs:IG Value:=if len*sz=0 then #[]else z.cells;let row:IG Value:=(zyJ (len*sz)).map (zs[· % zs.size]!);have hrow:row.size=len*sz:=by simp[row]
 have hvl:(parts.toList.map λp=>r p.2).length=len:=by rw[hvals.1,hlen]
 obtain⟨cs',hf,hsz',htl⟩:=Y4 (size:=sz) (parts.toList.map λp=>r p.2) 0 row hvsz (by rw[hvl,hrow];simp);have hcs:cs'=(((parts.toList.map λ(p:Nat×G1)=>r p.2).map λ(v:Value)=>v.cells.toList).flatten++[]).toArray:=by
  have:cs'.toList=((parts.toList.map λ(p:Nat×G1)=>r p.2).map λ(v:Value)=>v.cells.toList).flatten:=by rw[htl,hvl];simp only[AT,IU.take_zero,BR,E6];rw[Fx (by simp[hrow])];simp
  rw[D5,←this]
 have hparts:(parts.map λ(x:Nat×G1)=>(x.1,r x.2)).toList=((parts.toList.map λp=>r p.2).zipIdx 0).map λp=>(p.2,p.1):=by
  apply IU.ext_getElem
  ·simp
  ·intro i hi1 hi2;simp only[IG.toList_map,zw3,IU.getElem_zipIdx,E6];have hi:i<parts.toList.length:=by simpa using hi1
   have:(parts.toList.map (·.1))[i]'(by simpa using hi)=i:=by simp only[h1];simp
   simp only[zw3]at this;simpa using this
 have hnot:¬ len*sz>2 ^ 24:=by omega
 have hrun:(BU T len (parts.map λ(x:Nat×G1)=>(x.1,r x.2))).run P w = .ok (.slice (some ⟨w.heap.size,0,none⟩) len len) { w with heap:=w.heap.push (.cells cs' E) }:=by
  by_cases hz0:len*sz=0
  ·have hrow':zzu (λx=>(#[]:IG Value)[x % (#[]:IG Value).size]!) (zyJ (len*sz))=row:=by simp only[row,zs,Hv hz0]
   simp only[BU,Gk,run_underlying hu,Gm,yd hs,IE hnot,GF,Hv hz0,hparts,hrow',hf];simp[newRow]
  ·have hrow':zzu (λx=>z.cells[x % z.cells.size]!) (zyJ (len*sz))=row:=by simp only[row,zs,IE hz0]
   simp only[BU,Gk,run_underlying hu,Gm,yd hs,IE hnot,GF,IE hz0,vK hz,hparts,hrow',hf];simp[newRow]
 have hr:=R1.new_row (T:=E) (fr:=(0,0)) (cap:=len) hR hvals hsz [] (by omega);rw[←hcs,hlen]at hr;exact⟨_,_,c.imm w.heap.size (len*sz),hrun,AW c w _ _ hR.ilt hR.jlt,zl.imm c H _ _,hR.push_imm _ _,.full hr⟩
end
theorem Wr (s:IU UInt8) (l h:Nat):(⟨s.toArray⟩:HT).extract l h=⟨((s.take h).drop l).toArray⟩:=by apply HT.ext;simp[HT.data_extract,Ab]
section
variable {P:HP}{c:Cx}{H:IU Box}{w:H5}{e:G1->AV}{r:G1->Value}
theorem yG {k:IF}{i:Int}{y:Nat}{code:BoundsCode}(h0:0<=i) (h1:i<=y):(zw4 (.int k i) y code).run P w = .ok i.toNat w:=by simp[zw4,asIntOf,h0,h1]
theorem RA.int {k:IF}{n:Int}{v:Value}(h:RA c H w (.d (.int k n)) v):v = .int k n:=by
 cases h with
 |d h=>cases h;rfl
theorem RA.str {s:IU UInt8}{v:Value}(h:RA c H w (.d (.str s)) v):v = .string ⟨s.toArray⟩:=by
 cases h with
 |d h=>cases h;rfl
theorem RA.bool {b:Bool}{v:Value}(h:RA c H w (.d (.bool b)) v):v = .bool b:=by
 cases h with
 |d h=>cases h;rfl
theorem tg {n cap:Nat}{lo hi:IQ G1}{l h:Int}{F:Prop}{isSlice:Bool}(he:∀x,RA c H w (e x) (r x)) (hb:vo n (lo.map e) (hi.map e)=some (l,h,F)) (hF:F) (hcap:n<=cap):(Cc isSlice n cap (lo.map r) (hi.map r) none).run P w = .ok (l.toNat,h.toNat,cap) w/\l.toNat<=h.toNat/\h.toNat<=n:=by
 cases lo with
 |none =>
  cases hi with
  |none =>
   simp[vo]at hb;obtain⟨rfl,rfl,_⟩:=hb;simp[Cc]
  |some x =>
   simp only[Ee,Fi,vo]at hb;cases hx:e x<;>rw[hx]at hb<;>try (simp at hb;done)
   rename_i d;cases d<;>try (simp at hb;done)
   cases hb;have hv:=he x;rw[hx]at hv;simp only[Ee,Fi];rw[hv.int];obtain⟨h1,h2⟩:=hF;simp only[Cc,Gk,GF,Gm];rw[yG h1 (by omega)];simp;omega
 |some y =>
  cases hi with
  |none =>
   simp only[Ee,Fi,vo]at hb;cases hx:e y<;>rw[hx]at hb<;>try (simp at hb;done)
   rename_i d;cases d<;>try (simp at hb;done)
   cases hb;have hv:=he y;rw[hx]at hv;simp only[Ee,Fi];rw[hv.int];obtain⟨h1,h2⟩:=hF;simp only[Cc,Gk,GF,Gm];rw[yG h1 (by omega)];simp;omega
  |some x =>
   simp only[Fi,vo]at hb;cases hy:e y<;>rw[hy]at hb<;>try (simp at hb;done)
   rename_i d;cases d<;>try (simp at hb;done)
   cases hx:e x<;>rw[hx]at hb<;>try (simp at hb;done)
   rename_i d;cases d<;>try (simp at hb;done)
   cases hb;have hv:=he y;have hv':=he x;rw[hy]at hv;rw[hx]at hv';simp only[Fi];rw[hv.int,hv'.int];obtain⟨h1,h2,h3⟩:=hF;simp only[Cc,Gk,GF,Gm];rw[yG (by omega) (by omega)];simp only[Gm];rw[yG h1 (by omega)];simp;omega
theorem jI {T:TypeId}{x:G1}{s:IU UInt8}{lo hi:IQ G1}{l h:Int}{F:Prop}(hR:HR c H w) (he:∀x,RA c H w (e x) (r x)) (hu:P.underlying T=some .string) (hx:e x = .d (.str s)) (hb:vo s.length (lo.map e) (hi.map e)=some (l,h,F)) (hF:F):yY P c H w (EU T (r x) (lo.map r) (hi.map r) (BF r none)) (.d (.str ((s.take h.toNat).drop l.toNat))):=by have hv:=he x;rw[hx]at hv;rw[hv.str];obtain⟨h1,_,_⟩:=tg (P:=P) (cap:=s.length) (isSlice:=false) he hb hF (GE _);refine GU hR (v:= .string ⟨((s.take h.toNat).drop l.toNat).toArray⟩) ?_ (.d (R1.str _));simp only[EU,Gk,run_underlying hu,Gm,CS,Ee,DP,FU,if_false,GF,ma,h1,Wr]
theorem mU {ds:IU D}{l h i j:Nat}{d:D}(hc:z1 ((ds.take h).drop l) i j=some d):z1 ds (l+i) j=some d:=by
 unfold z1 at hc ⊢;rw[Ds,Fa]at hc;split at hc
 ·exact hc
 ·simp at hc
theorem gy {T E:TypeId}{x:G1}{ds:IU D}{lo hi:IQ G1}{l h:Int}{F:Prop}(hR:HR c H w) (he:∀x,RA c H w (e x) (r x)) (hu:P.underlying T=some (.slice E)) (hsz:∃sz,xT P E=some sz/\∀d∈ds,d.cells.length=sz) (hx:avSl (e x)=some ds) (hb:vo ds.length (lo.map e) (hi.map e)=some (l,h,F)) (hF:F):yY P c H w (EU T (r x) (lo.map r) (hi.map r) (BF r none)) (.d (.sl ((ds.take h.toNat).drop l.toNat))):=by
 obtain⟨ad,n,k,hv,hr,hn⟩:=vJ (he x) hx;obtain⟨sz,hsz1,hsz2⟩:=hsz;rw[hv]at hr ⊢;cases hr with
 |nil =>
  obtain⟨h1,h2,h3⟩:=tg (P:=P) (cap:=0) (isSlice:=true) he hb hF (GE _);have e1:h.toNat=0:=by simpa using h3
  have e2:l.toNat=0:=by omega
  refine GU hR (v:= .slice none 0 0) ?_ ?_
  ·simp only[FL]at h1;simp only[EU,Gk,run_underlying hu,Gm,CS,Ee,h1,yd hsz1,e1,e2];rfl
  ·simp only[AY,zwq];exact .d R1.nil
 |emp a =>
  obtain⟨h1,h2,h3⟩:=tg (P:=P) (cap:=k) (isSlice:=true) he hb hF (Nat.zero_le _);have e1:h.toNat=0:=by simpa using h3
  have e2:l.toNat=0:=by omega
  refine GU hR (v:= .slice (some a) 0 k) ?_ ?_
  ·simp only[FL]at h1;simp only[EU,Gk,run_underlying hu,Gm,CS,Ee,h1,yd hsz1,e1,e2,Fi,AT,zyX,zzk,if_true];by_cases hk0:k=0
   ·rw[Hv hk0];rfl
   ·rw[IE hk0];rfl
  ·simp only[AY,zwq];exact .d (Az a k)
 |sl b off cap sz' ds vals hsz hc hr hcap =>
  obtain⟨h1,h2,h3⟩:=tg (P:=P) (cap:=k) (isSlice:=true) he hb hF hcap;have hlen:((ds.take h.toNat).drop l.toNat).length=h.toNat - l.toNat:=by simp;omega
  by_cases hkl:k=l.toNat
  ·have e1:h.toNat=l.toNat:=by omega
   refine GU hR (v:= .slice (some ⟨b,off,none⟩) (h.toNat - l.toNat) (k - l.toNat)) ?_ ?_
   ·simp only[EU,Gk,run_underlying hu,Gm,CS,Ee,h1,yd hsz1,Hv hkl];rfl
   ·have:(ds.take h.toNat).drop l.toNat=[]:=by apply Df;omega
    rw[this];have e2:h.toNat - l.toNat=([]:IU D).length:=by simp;omega
    rw[e2];refine .d (Cm b off _ 0 [] (λ_ _=>undef) (by simp) (by intro i j d hd;simp[z1]at hd) (by intro i j d hd;simp[z1]at hd) (by simp))
  ·refine GU hR (v:= .slice (some ⟨b,off+l.toNat*sz,none⟩) (h.toNat - l.toNat) (k - l.toNat)) ?_ ?_
   ·simp only[EU,Gk,run_underlying hu,Gm,CS,Ee,h1,yd hsz1,IE hkl,Fi,wy];rfl
   ·rw[←hlen];have hz:∀d∈(ds.take h.toNat).drop l.toNat,d.cells.length=sz:=λd hd=>hsz2 d (De (IU.mem_of_mem_drop hd));have hss:ds≠[]->sz'=sz:=λhne=>by obtain⟨d,hd⟩:=IU.exists_mem_of_ne_nil ds hne;rw[←hsz d hd,←hsz2 d hd]
    refine .d (Cm b (off+l.toNat*sz) (k - l.toNat) sz _ (λi j=>vals (l.toNat+i) j) hz ?_ (λi j d hd=>hr _ _ _ (mU hd)) (by omega));intro i j d hd;have h5:=mU hd;have hne:ds≠[]:=by intro h0;subst h0;simp[z1]at h5
    have:=hc _ _ _ h5;rw[hss hne]at this;rw[show off+l.toNat*sz+i*sz+j=off+(l.toNat+i)*sz+j by rw[FC];omega];exact this
theorem jH {T E m:Nat}{x:G1}{cs:IU D}{lo hi:IQ G1}{l h:Int}{F:Prop}(hR:HR c H w) (he:∀x,RA c H w (e x) (r x)) (hu:P.underlying T=some (.array m E)) (hs:xT P E=some 1) (hx:e x = .iptr cs) (hb:vo m (lo.map e) (hi.map e)=some (l,h,F)) (hF:F) (hm:m<=cs.length):yY P c H w (EU T (r x) (lo.map r) (hi.map r) (BF r none)) (.d (.sl (((cs.take m).take h.toNat).drop l.toNat))):=by
 have hv:=he x;rw[hx]at hv;generalize r x=rx at *;cases hv with
 |@iptr _ b o hc =>
  obtain⟨h1,h2,h3⟩:=tg (P:=P) (cap:=m) (isSlice:=false) he hb hF (GE _);have hlen:(((cs.take m).take h.toNat).drop l.toNat).length=h.toNat - l.toNat:=by simp;omega
  have run:(EU T (.pointer (some ⟨b,o,none⟩)) (lo.map r) (hi.map r) (BF r none)).run P w = .ok (.slice (some (if m=l.toNat then⟨b,o,none⟩else⟨b,o+l.toNat,none⟩)) (h.toNat - l.toNat) (m - l.toNat)) w:=by simp only[EU,Gk,run_underlying hu,Gm,DL,GF,Ee,h1,yd hs,wy,B8]
  refine GU hR run ?_;by_cases hml:m=l.toNat
  ·have e1:h.toNat=l.toNat:=by omega
   rw[Hv hml];have:((cs.take m).take h.toNat).drop l.toNat=[]:=by apply Df;omega
   rw[this];have e2:h.toNat - l.toNat=0:=by omega
   rw[e2];exact .d (Az _ _)
  ·rw[IE hml,←hlen];have key:∀i j d,z1 (((cs.take m).take h.toNat).drop l.toNat) i j=some d->j=0/\c.I b (o+(l.toNat+i))/\∃v,w.cell? ⟨b,o+(l.toNat+i),none⟩=some v/\R1 c.I c.J w v d:=by
    intro i j d hd;obtain⟨y,hy,hj⟩:=IQ.bind_eq_some_iff.1 hd;rw[Ds,Fa]at hy;split at hy
    ·rw[Fa]at hy;split at hy
     ·obtain⟨i1,v,i2,i3⟩:=hc _ _ hy;have hcell:y.cells=[y]:=by cases i3<;>rfl
      rw[hcell]at hj;cases j with
      |zero=>simp at hj;subst hj;exact⟨rfl,i1,v,i2,i3⟩
      |succ j=>simp at hj
     ·cases hy
    ·cases hy
   refine .d (Cm b (o+l.toNat) (m - l.toNat) 1 _ (λi _=>(w.cell? ⟨b,o+(l.toNat+i),none⟩).getD undef) ?_ ?_ ?_ (by omega))
   ·intro d hd;obtain⟨i,hi'⟩:=IU.getElem?_of_mem hd;rw[Ds,Fa]at hi';split at hi'
    ·rw[Fa]at hi';split at hi'
     ·obtain⟨_,v,_,i3⟩:=hc _ _ hi';cases i3<;>rfl
     ·cases hi'
    ·cases hi'
   ·intro i j d hd;obtain⟨rfl,i1,v,i2,i3⟩:=key i j d hd;rw[show o+l.toNat+i*1+0=o+(l.toNat+i) by omega];exact⟨i1,by simp[i2]⟩
   ·intro i j d hd;obtain⟨rfl,i1,v,i2,i3⟩:=key i j d hd;simp only[i2,FT];exact i3
theorem kq {T E n q sz:Nat}{ad:IQ E2}{ds:IU D}{h:Int}{k1 k2:IF}(hR:HR c H w) (hu:P.underlying T=some (.slice E)) (hs:xT P E=some sz) (hr:R1 c.I c.J w (.slice ad n q) (.sl ds)) (hn:n=ds.length) (h0:0<=h) (h1:h<=ds.length): yY P c H w (EU T (.slice ad n q) none (some (.int k1 h)) (some (.int k2 h))) (.full (ds.take h.toNat)):=by
 have h2:h<=n:=by omega
 clear hn h1;have hq:h.toNat<=q/\(ad=none->q=0):=by
  cases hr with
  |nil=>exact⟨by omega,λ_=>rfl⟩
  |emp=>exact⟨by omega,λh=>by cases h⟩
  |sl _ _ _ _ _ _ _ _ _ hcap=>exact⟨by omega,λh=>by cases h⟩
 have run:(EU T (.slice ad n q) none (some (.int k1 h)) (some (.int k2 h))).run P w = .ok (.slice ad h.toNat h.toNat) w:=by
  have e1:(if h.toNat=0 then ad else BF (λx=>x.add (0*sz)) ad)=ad:=by
   split
   ·rfl
   ·cases ad with
    |none=>rfl
    |some a=>simp[zzk]
  simp only[EU,Gk,run_underlying hu,Gm,CS,Cc,GF,if_true];rw[yG h0 (by omega)];simp only[Gm];rw[yG h0 (by omega)];simp only[Gm,GF,Gk,yd hs,zyX];rw[e1]
 refine GU hR run (.full ?_);cases hr with
 |nil =>
  have:h.toNat=0:=by omega
  rw[this];exact R1.nil
 |emp a =>
  have:h.toNat=0:=by omega
  rw[this,AY];exact Az _ _
 |sl b off cap sz' ds vals hsz hc hr' hcap =>
  have hl:(ds.take h.toNat).length=h.toNat:=by rw[FS];omega
  have:=Cm (I:=c.I) (J:=c.J) (w:=w) b off h.toNat sz' (ds.take h.toNat) vals (λd hd=>hsz d (De hd))
   (λi j d hd=>hc i j d (by
    unfold z1 at hd ⊢;rw[Fa]at hd;split at hd
    ·exact hd
    ·simp at hd))
   (λi j d hd=>hr' i j d (by
    unfold z1 at hd ⊢;rw[Fa]at hd;split at hd
    ·exact hd
    ·simp at hd)) (by omega)
  rw[hl]at this;exact this
def vO (r:G1->Value) (ty:TypeId):Op->HG Value
 |.move x=>pure (r x)
 |.assign x=>pure (r x)
 |.load T a=>DH T (r a)
 |.fieldAddr T x f=>zyd T (r x) f
 |.indexAddr T x i=>CW T (r x) (r i)
 |.index T x i=>zyK T (r x) (r i)
 |.unOp op _ x=>zx5 op (r x)
 |.binOp op T x y _=>do eqGuard op T x y (r x) (r y);binOp op T (r x) (r y)
 |.convert S T x=>convert S T (r x)
 |.extract t i=>C9 (r t) i
 |.build T parts=>AJ T (parts.map λ(i,x)=>(i,r x))
 |.buildSlice T len parts=>BU T len (parts.map λ(i,x)=>(i,r x))
 |.makeFunc fn first cap=>Instr.makeFunc fn (first.map r) (cap.map r)
 |.lookup T x k ok=>DY T (r x) (r k) ok
 |.slice T x lo hi mx=>EU T (r x) (lo.map r) (hi.map r) (mx.map r)
 |.nilCheck x=>pure (r x)
 |.call { callee:= .builtin .len,args,argTypes }=>CU argTypes ty (args.map r)
 |.call { callee:= .builtin .max,args,argTypes }=>zwj argTypes ty (args.map r)
 |_=>stuck ""
theorem gx {av:AV}{v:Value}{b:Bool}(h:RA c H w av v) (hb:nilA av=some b):∃ad n k,v = .slice ad n k/\ad.isNone=b:=by
 have key:∀{x:D}{l:IU D},R1 c.I c.J w v (.sl (x::l))->∃ad n k,v = .slice ad n k/\ad.isNone=false:=by
  intro x l h;cases h with
  |sl=>exact⟨_,_,_,rfl,rfl⟩
 cases h with
 |nils=>cases hb;exact⟨_,_,_,rfl,rfl⟩
 |@d x v h =>
  cases x with
  |sl l=>cases l with
   |nil=>simp[nilA]at hb
   |cons y l=>simp[nilA]at hb;subst hb;exact key h
  |_=>simp[nilA]at hb
 |@full l a n h=>cases l with
   |nil=>simp[nilA]at hb
   |cons y l=>simp[nilA]at hb;subst hb;exact key h
 |@vec q n sz l a m k h=>cases l with
   |nil=>simp[nilA]at hb
   |cons y l=>simp[nilA]at hb;subst hb;exact key h
 |_=>simp[nilA]at hb
theorem jq {av:AV}{v:Value}{b:Bool}(h:RA c H w av v) (hb:nilFA av=some b):(b=true/\v = .nilFunc)∨(b=false/\∃f x y,v = .func f x y):=by
 cases h with
 |nilf=>cases hb;exact .inl ⟨rfl,rfl⟩
 |@d x v h =>
  cases x with
  |fn f=>cases hb;cases h;exact .inr ⟨rfl,_,_,_,rfl⟩
  |_=>simp[nilFA]at hb
 |clo=>cases hb;exact .inr ⟨rfl,_,_,_,rfl⟩
 |yld=>cases hb;exact .inr ⟨rfl,_,_,_,rfl⟩
 |_=>simp[nilFA]at hb
theorem tf {T:TypeId}{ps rs:IG TypeId}{va:Bool}{v:Value}{b:Bool}(hu:P.underlying T=some (.func ps rs va)) (h:(b=true/\v = .nilFunc)∨(b=false/\∃f x y,v = .func f x y)):(BA T v .nilFunc).run P w = .ok b w:=by have e:(BA T v .nilFunc).run P w=(zz6 (9999+1) T v .nilFunc).run P w:=rfl;rw[e];unfold zz6;rcases h with⟨rfl,rfl⟩|⟨rfl,f,x,y,rfl⟩<;>simp only[Gk,run_underlying hu,Gm]<;>rfl
theorem SP {op:EK}{T:TypeId}{x y:G1}{rb:Bool}(hR:HR c H w) (hx:RA c H w (e x) (r x)) (hn:M9 P op T (e x) y=some rb) (hc:∀v,y=AX v->r y=v): yY P c H w (do eqGuard op T x y (r x) (r y);binOp op T (r x) (r y)) (.d (.bool rb)):=by
 unfold M9 at hn;split at hn
 ·split at hn
  ·rename_i E hu;obtain⟨ad,n,k,hv,hb⟩:=gx hx hn;rw[hc _ rfl,hv];have h1:(eqGuard .eql T x (.const (.slice none 0 0)) (.slice ad n k) (.slice none 0 0)).run P w = .ok () w:=xq (by intro h;cases h) (by intro cs h;cases h);refine GU hR (v:= .bool rb) ?_ (.d (EZ _));simp only[Gk,h1,Gm];unfold binOp;simp[run_equal_slice_nil w T E ad n k hu,hb]
  ·cases hn
 ·split at hn
  ·rename_i E hu;cases hna:nilA (e x)with
   |none=>rw[hna]at hn;cases hn
   |some b0 =>
    rw[hna]at hn;cases hn;obtain⟨ad,n,k,hv,hb⟩:=gx hx hna;rw[hc _ rfl,hv];have h1:(eqGuard .neq T x (.const (.slice none 0 0)) (.slice ad n k) (.slice none 0 0)).run P w = .ok () w:=xq (by intro h;cases h) (by intro cs h;cases h);refine GU hR (v:= .bool (!b0)) ?_ (.d (EZ _));simp only[Gk,h1,Gm];unfold binOp;simp[run_equal_slice_nil w T E ad n k hu,hb]
  ·cases hn
 ·split at hn
  ·rename_i hu;have hv:=jq hx hn;have he:=tf (w:=w) hu hv;rw[hc _ rfl];have h1:(eqGuard .eql T x (.const .nilFunc) (r x) .nilFunc).run P w = .ok () w:=by rcases hv with⟨_,h⟩|⟨_,f,x',y',h⟩<;>rw[h]<;>exact xq (by intro h;cases h) (by intro cs h;cases h)
   refine GU hR (v:= .bool rb) ?_ (.d (EZ _));simp only[Gk,h1,Gm];unfold binOp;simp[he]
  ·cases hn
 ·split at hn
  ·rename_i hu;cases hna:nilFA (e x)with
   |none=>rw[hna]at hn;cases hn
   |some b0 =>
    rw[hna]at hn;cases hn;have hv:=jq hx hna;have he:=tf (w:=w) hu hv;rw[hc _ rfl];have h1:(eqGuard .neq T x (.const .nilFunc) (r x) .nilFunc).run P w = .ok () w:=by rcases hv with⟨_,h⟩|⟨_,f,x',y',h⟩<;>rw[h]<;>exact xq (by intro h;cases h) (by intro cs h;cases h)
    refine GU hR (v:= .bool (!b0)) ?_ (.d (EZ _));simp only[Gk,h1,Gm];unfold binOp;simp[he]
  ·cases hn
 ·cases hn
set_option maxHeartbeats 1000000 in
theorem SO {o:Op}{a:AV}{F:Prop}{ty:TypeId}(hR:HR c H w) (he:∀x,RA c H w (e x) (r x)) (hc:∀y v,y=AX v->r y=v) (h:xA P e H o=some (a,F)) (hF:F):yY P c H w (vO r ty o) a:=by
 unfold xA at h
 split at h
 ·cases h;exact GU hR rfl (he _)
 ·cases h;exact GU hR rfl (he _)
 ·rename_i T x
  have hT:F=IN:=by
   revert h
   cases e x<;>simp<;>(try (split<;>simp))<;>intros<;>simp_all
  subst hT
  exact Wt hR (he x) h
 ·rename_i T x f
  split at h
  ·rename_i fs hu
   split at h
   ·rename_i fd hf
    split at h
    ·rename_i n hs
     have hx:=he x
     split at h
     ·rename_i l o hxe
      cases h
      rw[hxe]at hx
      simp only[vO]
      generalize r x=rx at *
      cases hx with
      |ptr hH hl=>exact GU hR (qU hu hf hs) (.ptr hH hl)
     ·rename_i cs hxe
      cases h
      rw[hxe]at hx
      simp only[vO]
      generalize r x=rx at *
      cases hx with
      |iptr hc=>exact GU hR (qU hu hf hs) (.iptr λj y hy=>by
        rw[Ds]at hy
        have:=hc _ _ hy
        rw[←CV]at this
        exact this)
     ·simp at h
    ·simp at h
   ·simp at h
  ·simp at h
 ·rename_i T x i
  split at h
  ·rename_i E k n hu hi
   split at h
   ·rename_i ds ag sz hds hag hsz
    split at h
    ·rename_i cs hcs
     split at h
     ·rename_i hlen
      cases h
      obtain⟨ad,m,q,hv,hr1,hm⟩:=vJ (he x) hds
      have hiv:=he i
      rw[hi]at hiv
      simp only[vO]
      rw[hiv.int]
      refine Y6 hR hu hsz hr1 ?_ ?_ hlen hF.1 hF.2
      ·cases ag with
       |true=>exact .inl rfl
       |false =>
        right
        unfold to at hcs
        cases hs:uW P 9 E with
        |none=>rw[hs]at hcs;simp at hcs
        |some shs =>
         rw[hs]at hcs;simp at hcs;subst hcs
         have:=hO hs hag
         simpa using this
      ·intro hagf xs hxs
       have hne:cs≠[]:=by
        intro h0;subst h0
        cases hs:uW P 9 E with
        |none=>unfold to at hcs;rw[hs]at hcs;simp at hcs
        |some shs =>
         unfold to at hcs
         rw[hs]at hcs;simp at hcs
         subst hagf
         have:=hO hs hag
         rw[hcs]at this;simp at this
       cases cs with
       |nil=>exact hne rfl
       |cons y ys=>exact mZ hcs y (by simp) xs (by simpa using hxs)
     ·simp at h
    ·simp at h
   ·simp at h
  ·rename_i m E k n hu hi
   split at h
   ·rename_i sz hs
    have hiv:=he i
    rw[hi]at hiv
    exact jJ hR hu hs hiv.int (he x) h hF
   ·simp at h
  ·simp at h
 ·rename_i T x i
  split at h
  ·rename_i s k n hu hx hi
   cases h
   have h1:=he x
   have h2:=he i
   rw[hx]at h1
   rw[hi]at h2
   simp only[vO]
   rw[h1.str,h2.int]
   exact GU hR (eC hu hF.1 hF.2) (.d (D1 _ _))
  ·simp at h
 ·rename_i T x
  split at h
  ·rename_i b hx
   cases h
   have h1:=he x
   rw[hx]at h1
   simp only[vO]
   rw[h1.bool]
   exact GU hR (v:= .bool (!b)) (by simp[zx5]) (.d (EZ _))
  ·simp at h
 ·rename_i T x
  split at h
  ·rename_i k n hx
   cases h
   have h1:=he x
   rw[hx]at h1
   simp only[vO]
   rw[h1.int]
   exact GU hR (v:= .int k (k.wrap (0 - n))) (by simp[zx5,zwH]) (.d (D1 _ _))
  ·simp at h
 ·rename_i op T x y yT
  split at h
  ·rename_i rb hn
   cases h
   exact SP hR (he x) hn (λv hv=>hc y v hv)
  split at h
  ·rename_i p q hx hy
   cases hb:Wx P op T p q with
   |none=>rw[hb]at h;simp at h
   |some res =>
    obtain⟨rd,rF⟩:=res
    rw[hb]at h
    cases h
    obtain⟨z,h1,h2⟩:=Wv (ox:=x) (oy:=y) hb hF (wB (he x) hx) (wB (he y) hy)
    exact GU hR h1 (.d h2.rv)
  ·simp at h
 ·rename_i S T x
  split at h
  ·rename_i sd k k' n hs hu hx
   cases h
   have h1:=he x
   rw[hx]at h1
   simp only[vO]
   rw[h1.int]
   refine GU hR (v:= .int k (k.wrap n)) ?_ (.d (D1 _ _))
   simp[convert,run_underlying hs,run_underlying hu,Conv.intToInt]
  ·rename_i sd s hs hu hx
   cases h
   have h1:=he x
   rw[hx]at h1
   simp only[vO]
   rw[h1.str]
   refine GU hR (v:= .string ⟨s.toArray⟩) ?_ (.d (R1.str _))
   simp[convert,run_underlying hs,run_underlying hu]
  ·simp at h
 ·rename_i t i
  split at h
  ·rename_i vs ht
   have h1:=he t
   rw[ht]at h1
   simp only[vO]
   generalize r t=rt at *
   cases h1 with
   |@tup aas us hl hu =>
    cases hi:vs[i]? with
    |none=>rw[hi]at h;simp at h
    |some a' =>
     rw[hi]at h;cases h
     have hlt:i<us.length:=by
      rw[←hl]
      rcases G4 i vs.length with h' |h'
      ·exact h'
      ·simp[Gt h']at hi
     refine GU hR (v:=us[i]) ?_ (hu i a us[i] hi (by simp[hlt]))
     simp[C9,hlt]
  ·simp at h
 ·rename_i T parts
  split at h
  ·rename_i ps hps
   cases hb:bv P T ps with
   |none=>rw[hb]at h;simp at h
   |some x =>
    rw[hb]at h;cases h
    obtain⟨v,h1,h2⟩:=bu hb (mapM_parts (r:=r) hps he)
    refine GU hR (v:=v) ?_ h2
    have:(parts.toList.map λp=>(p.1,r p.2)).toArray=parts.map λ(x:Nat×G1)=>(x.1,r x.2):=by
     apply FP;simp
    rw[this]at h1
    exact h1
  ·simp at h
 ·rename_i T len parts
  split at h
  ·rename_i E hu
   split at h
   ·rename_i sz z ds hs hz hm
    split at h
    ·rename_i hc
     cases h
     exact kr hR he hu hs hz hm hc.1 hc.2.1 hc.2.2
    ·simp at h
   ·simp at h
  ·simp at h
 ·rename_i f first cap
  cases h
  refine GU hR (v:= .func (.func f) (first.map r) (cap.map r)) rfl ?_
  have e1:first.map r=(first.toList.map r).toArray:=by apply FP;simp
  have e2:cap.map r=(cap.toList.map r).toArray:=by apply FP;simp
  rw[e1,e2]
  refine .clo (by simp) (by simp) ?_ ?_
  ·intro i a v h1 h2
   simp only[G5]at h1 h2
   cases hx:first.toList[i]? with
   |none=>rw[hx]at h1;simp at h1
   |some x=>rw[hx]at h1 h2;simp at h1 h2;subst h1;subst h2;exact he x
  ·intro i a v h1 h2
   simp only[G5]at h1 h2
   cases hx:cap.toList[i]? with
   |none=>rw[hx]at h1;simp at h1
   |some x=>rw[hx]at h1 h2;simp at h1 h2;subst h1;subst h2;exact he x
 ·rename_i T x k ok
  split at h
  ·rename_i es kd hx hk
   have h1:=he x
   rw[hx]at h1
   simp only[vO]
   generalize r x=rx at *
   cases h1 with
   |d h1 =>
    cases h1 with
    |gmap m ents clk es hJ hw hlen hkk hvv =>
     refine gz hR h hF (ku (he k) hk) hw ⟨by simpa using hlen,λi x kv hx hkv=>?_⟩
     have e1:ents.getD i default=x:=by
      simp only[Du]at hx
      simp[FN,hx]
     have a1:=hkk i kv hkv
     have a2:=hvv i kv hkv
     rw[e1]at a1 a2
     exact⟨a1.rv,a2.rv⟩
  ·rename_i l kd hx hk
   split at h
   ·rename_i es hH
    have h1:=he x
    rw[hx]at h1
    simp only[vO]
    generalize r x=rx at *
    cases h1 with
    |@map _ b q es' hH' hl =>
     obtain⟨ents,clk,hw,hes⟩:=hR.box l b q _ hl hH
     exact gz hR h hF (ku (he k) hk) hw hes
   ·simp at h
  ·simp at h
 ·rename_i T x lo hi
  split at h
  ·rename_i s hu hx
   split at h
   ·rename_i l hh FF hb
    cases h
    exact jI hR he hu hx hb hF
   ·simp at h
  ·rename_i E hu
   split at h
   ·rename_i ds sz hds hsz
    split at h
    ·rename_i l hh FF hb
     cases h
     refine gy hR he hu ⟨sz,hsz,λd hd=>?_⟩ hds hb hF.1
     have:=G3.1 (show(ds.all λd=>d.cells.length==sz)=true from hF.2) d hd
     simpa using this
    ·simp at h
   ·simp at h
  ·rename_i m E cs hu hx
   split at h
   ·rename_i sz hs
    split at h
    ·rename_i h1
     obtain⟨rfl,h1⟩:=h1
     split at h
     ·rename_i l hh FF hb
      cases h
      exact jH hR he hu hs hx hb hF h1
     ·simp at h
    ·simp at h
   ·simp at h
  ·simp at h
 ·rename_i x
  split at h
  all_goals first
   |(simp at h;done)
   |(rename_i hx;cases h;have h1:=he x;rw[hx]at h1;exact GU hR rfl h1)
 ·rename_i args argTypes
  split at h
  ·rename_i x T hx hT
   have ea:args = #[x]:=by apply FP;simpa using hx
   have et:argTypes = #[T]:=by apply FP;simpa using hT
   subst ea;subst et
   split at h
   ·rename_i s hu hxs
    cases h
    have h1:=he x
    rw[hxs]at h1
    simp only[vO,zy8,Gb,FQ]
    rw[h1.str]
    exact GU hR (Y0 hu) (.d (D1 _ _))
   ·rename_i E hu
    cases hds:avSl (e x)with
    |none=>rw[hds]at h;simp at h
    |some ds =>
     rw[hds]at h;cases h
     obtain⟨ad,n,k,hv,hr1,hn⟩:=vJ (he x) hds
     simp only[vO,zy8,Gb,FQ]
     rw[hv,hn]
     exact GU hR (oE hu) (.d (D1 _ _))
   ·simp at h
  ·simp at h
 ·rename_i args argTypes
  split at h
  ·rename_i x y hxy
   have ea:args = #[x,y]:=by apply FP;simpa using hxy
   subst ea
   split at h
   ·rename_i k p k' q hx hy
    split at h
    ·rename_i hk
     subst hk
     cases h
     have h1:=he x
     have h2:=he y
     rw[hx]at h1
     rw[hy]at h2
     simp only[vO,zy8,Gb,FQ]
     rw[h1.int,h2.int]
     refine GU hR (v:= .int k (if q>p then q else p)) ?_ (.d (D1 _ _))
     simp[zwj,Fy.max2]
    ·simp at h
   ·simp at h
  ·simp at h
 ·rename_i T x hi mx
  split at h
  ·rename_i E ds k1 hh k2 mm hu hds h1 h2
   split at h
   ·rename_i sz hs
    cases h
    obtain⟨f0,f1,rfl⟩:=hF
    obtain⟨ad,n,q,hv,hr,hn⟩:=vJ (he x) hds
    have e1:=he hi
    rw[h1]at e1
    have e2:=he mx
    rw[h2]at e2
    simp only[vO]
    rw[hv,Ee,Fi,Fi,e1.int,e2.int]
    exact kq hR hu hs (hv ▸ hr) hn f0 f1
   ·simp at h
  ·simp at h
 ·simp at h
end
def yh (vs:IU Value):IU Value:=(vs.map λv=>v.cells.toList).flatten
section
variable {P:HP}{c:Cx}{H:IU Box}{w:H5}
theorem jp (xs ys:IU Value):yh (xs++ys)=yh xs++yh ys:=by simp[yh]
theorem Y7 {I:Nat->Nat->Prop}{J:Nat->Prop}{vs:IU Value}{ds:IU D}{sz:Nat}(h:zy (RV I J w) vs ds) (hsz:∀d∈ds,d.cells.length=sz):∀l∈vs.map (λv=>v.cells.toList),l.length=sz:=by
 intro l hl;obtain⟨v,hv,rfl⟩:=Gd.1 hl;obtain⟨i,hi,he⟩:=EF.1 hv;have hi':i<ds.length:=by rw[←h.1];exact hi
 have:=h.2 i v ds[i] (by simp[hi,he]) (by simp[hi']);rw[this.cells.1];exact hsz _ (ED _)
theorem vn {α:Type}{sz:Nat}:∀(L:IU (IU α)),(∀l∈L,l.length=sz)->L.flatten.length=L.length*sz
 |[],_=>by simp
 |l::L,h=>by rw[BY,FG,vn L (λx hx=>h x (by simp[hx])),h l (by simp),F2,FC];omega
theorem ww {I:Nat->Nat->Prop}{J:Nat->Prop}{vs:IU Value}{ds:IU D}{sz:Nat}(h:zy (RV I J w) vs ds) (hsz:∀d∈ds,d.cells.length=sz):(yh vs).length=ds.length*sz:=by rw[yh,vn _ (Y7 h hsz)];simp[h.1]
theorem R1.of_row {I:Nat->Nat->Prop}{J:Nat->Prop}{vs:IU Value}{ds:IU D}{sz cap b off:Nat}(h:zy (RV I J w) vs ds) (hsz:∀d∈ds,d.cells.length=sz) (hc:∀(j:Nat) u,(yh vs)[j]? = some u->I b (off+j)/\w.cell? ⟨b,off+j,none⟩=some u) (hcap:ds.length<=cap):R1 I J w (.slice (some ⟨b,off,none⟩) ds.length cap) (.sl ds):=by
 have hget:∀i j d,z1 ds i j=some d->∃u,(yh vs)[i*sz+j]? = some u/\R1 I J w u d:=by
  intro i j d hd;unfold z1 at hd;cases hi:ds[i]? with
  |none=>rw[hi]at hd;simp at hd
  |some x =>
   rw[hi]at hd;simp only[CZ]at hd;obtain⟨v,hv,hr⟩:=h.get hi;obtain⟨u,hu,hr'⟩:=hr.cells.get hd;have hj:j<sz:=by
    have:j<x.cells.length:=by rcases G4 j x.cells.length with h' |h';exact h';simp[Gt h']at hd
    rw[hsz x (GS hi)]at this;exact this
   refine⟨u,?_,hr'⟩;rw[yh,sN _ _ _ (Y7 h hsz) hj];simp[hv];simpa using hu
 refine Cm b off cap sz ds (λi j=>((yh vs)[i*sz+j]?).getD undef) hsz ?_ ?_ hcap
 ·intro i j d hd;obtain⟨u,hu,_⟩:=hget i j d hd;have:=hc _ _ hu;rw[hu,CV];exact this
 ·intro i j d hd;obtain⟨u,hu,hr⟩:=hget i j d hd;rw[hu];exact hr
theorem rS {ds:IU D}{i:Nat}{d:D}(h:ds[i]? = some d) {j:Nat}{x:D}(hj:d.cells[j]? = some x):z1 ds i j=some x:=by simp[z1,h,hj]
theorem R1.row {I:Nat->Nat->Prop}{J:Nat->Prop}{b off n cap:Nat}{ds:IU D}{sz:Nat}(h:R1 I J w (.slice (some ⟨b,off,none⟩) n cap) (.sl ds)) (hsz:∀d∈ds,d.cells.length=sz):∃vs:IU Value,zy (RV I J w) vs ds/\∀(j:Nat) u,(yh vs)[j]? = some u->I b (off+j)/\w.cell? ⟨b,off+j,none⟩=some u:=by
 cases h with
 |emp=>exact⟨[],Ga,λj u hu=>by simp[yh]at hu⟩
 |sl b off cap sz' ds vals hsz' hc hr hcap =>
  have hss:∀d∈ds,sz'=sz:=λd hd=>by rw[←hsz' d hd,←hsz d hd]
  let mk:Nat->D->Value:=λi d=>match d with
   |.agg cs=>.agg ((Gp cs.length).map λj=>vals i j).toArray
   |_=>vals i 0
  have hcells:∀i d,ds[i]? = some d->(mk i d).cells.toList=(Gp sz).map λj=>vals i j:=by
   intro i d hd;have hl:=hsz d (GS hd);cases d with
   |agg cs=>simp only[Gq]at hl;simp[mk,E7,hl]
   |_ =>
    simp only[Gq,F2,FL]at hl;have hone:(vals i 0).oneCell'=true:=(hr i 0 _ (rS hd rfl)).oneCell;rw[←hl];simp[mk];generalize vals i 0=z at *;cases z<;>first|rfl|(simp[Value.oneCell']at hone)
  refine⟨(ds.zipIdx).map λp=>mk p.2 p.1,⟨by simp,λi v d hv hd=>?_⟩,λj u hu=>?_⟩
  ·simp only[G5,zxT,hd]at hv;simp at hv;subst hv;cases d with
   |agg cs =>
    refine⟨_,rfl,by simp,λj v x hv hx=>?_⟩;have hlt:j<cs.length:=by rcases G4 j cs.length with h' |h';exact h';simp[Gt h']at hx
    simp[hlt]at hv;subst hv;exact hr i j x (rS hd hx)
   |_=>exact(hr i 0 _ (rS hd rfl)).rv
  ·have hflat:yh ((ds.zipIdx).map λp=>mk p.2 p.1)=((Gp ds.length).map λi=>(Gp sz).map λj=>vals i j).flatten:=by
    unfold yh;congr 1;apply DO;intro i;simp only[G5,zxT];by_cases hi:i<ds.length
    ·have e1:ds[i]? = some ds[i]:=by simp[hi]
     simp only[e1,Fi,E6,hcells i _ e1];simp[hi]
    ·simp[hi]
   rw[hflat]at hu;by_cases hsz0:sz=0
   ·have:((Gp ds.length).map λi=>(Gp sz).map λj=>vals i j).flatten=[]:=by rw[IU.flatten_eq_nil_iff];intro l hl;obtain⟨i,_,rfl⟩:=Gd.1 hl;simp[hsz0]
    rw[this]at hu;simp at hu
   ·have e2:j=j / sz*sz+j % sz:=by rw[Cy];exact(BQ j sz).symm
    rw[e2,sN (sz:=sz) _ _ _ (by intro l hl;obtain⟨i,_,rfl⟩:=Gd.1 hl;simp) (By _ (by omega))]at hu;have hi:j / sz<ds.length:=by
     rcases G4 (j / sz) ds.length with h' |h'
     ·exact h'
     ·simp[Gt (show(Gp ds.length).length<=j / sz by simpa using h')]at hu
    have hjm:j % sz<sz:=By _ (by omega);simp[hi,hjm]at hu;subst hu;have e1:ds[j / sz]? = some ds[j / sz]:=by simp[hi]
    have hl:=hsz _ (GS e1);have hx:ds[j / sz].cells[j % sz]? = some (ds[j / sz].cells[j % sz]'(by rw[hl];exact hjm)):=by simp[hl,hjm]
    have:=hc _ _ _ (rS e1 hx);rw[hss _ (GS e1),CV,←e2]at this;exact this
end
open Go.Sx.R1 renaming of_row->zzt
section
variable {P:HP}{c:Cx}{H:IU Box}{w w':H5}
def Cx.more (c:Cx) (S:Nat->Nat->Prop):Cx:= { c with I:=λb o=>c.I b o∨S b o }
theorem Ext.more (c:Cx) (w:H5) (S:Nat->Nat->Prop) (hS:∀b o,S b o->∃l k:Nat,c.ρ[l]? = some (some (b,k))):Hs c w (c.more S) w :=⟨rfl,rfl,rfl,λ_ _ h=>.inl h,λ_ h=>h,λ_ _ _=>rfl,λ_ _=>rfl,GE _,λ_ _ _=>rfl,λb o h=>by
  rcases h with h|h
  ·exact .inl h
  ·exact .inr (.inr (hS b o h)),λ_ h=>.inl h,λl _ k h=>.inl ⟨l,k,h⟩⟩
theorem zl.more (c:Cx) (H:IU Box) (S:Nat->Nat->Prop):zl c H (c.more S) H:=GV c H
theorem HR.more (hR:HR c H w) (S:Nat->Nat->Prop) (hS:∀b o,S b o->∃l k:Nat,c.ρ[l]? = some (some (b,k))) (h1:∀b o,S b o->b<w.heap.size) (h2:∀b o l k:Nat,S b o->c.ρ[l]? = some (some (b,k))->∃n sz,H[l]? = some (.vec n sz)/\o<n*sz):HR (c.more S) H w where
 len:=hR.len
 inj:=hR.inj
 box l b k x a b':=(hR.box l b k x a b').ext (Ext.more c w S hS) (zl.more c H S) rfl
 non:=hR.non
 lt:=hR.lt
 ilt b o h:=by rcases h with h|h;exact hR.ilt b o h;exact h1 b o h
 jlt:=hR.jlt
 iap b o l k h h':=by rcases h with h|h;exact hR.iap b o l k h h';exact h2 b o l k h h'
 jap:=hR.jap
def Cx.moved (c:Cx) (l b k:Nat):Cx:= { c with ρ:=c.ρ.set l (some (b,k)) }
theorem Ext.moved {l:Nat}(o:FV) (k:Nat) (hR:HR c H w):Hs c w (c.moved l w.heap.size k) { w with heap:=w.heap.push o } where
 os:=rfl
 tape:=rfl
 output:=rfl
 isub _ _ h:=h
 jsub _ h:=h
 icell b o h:=xc (y8 (hR.ilt b o h)) _ _
 jobj r h:=y8 (hR.jlt r h)
 size:=by simp
 frame b hb _:=y8 hb
 inew _ _ h:= .inl h
 jnew _ h:= .inl h
 fresh l' b k' h:=by
  by_cases e:l=l'
  ·subst e;by_cases hl:l<c.ρ.length
   ·simp only[Cx.moved]at h;rw[E4]at h;simp[hl]at h;right;omega
   ·simp only[Cx.moved]at h;rw[E4]at h;simp[hl]at h
  ·simp only[Cx.moved]at h;rw[zD e]at h;exact .inl ⟨l',k',h⟩
theorem zl.vec {l n n' sz:Nat}{c':Cx}(hl:H[l]? = some (.vec n sz)) (hn:n<=n') (ho:∀m,m≠l->c'.ρ[m]? = c.ρ[m]?) (he:n=n'->c'.ρ[l]? = c.ρ[l]?):zl c H c' (H.set l (.vec n' sz)):=by
 intro m y hy;by_cases e:l=m
 ·subst e;rw[hl]at hy;simp at hy;subst hy;exact⟨n',xb hl,hn,he⟩
 ·have:=ho m (D0 e);cases y<;>simp only[zD e,hy,this]<;>simp
theorem HR.moved {l n n' sz k:Nat}(o:FV) (hR:HR c H w) (hl:H[l]? = some (.vec n sz)) (hn:n<n') (hx:qW (c.moved l w.heap.size k) (H.set l (.vec n' sz)) { w with heap:=w.heap.push o } w.heap.size k (.vec n' sz)): HR (c.moved l w.heap.size k) (H.set l (.vec n' sz)) { w with heap:=w.heap.push o }:=by
 have hlt:l<c.ρ.length:=by rw[hR.len];rcases G4 l H.length with h' |h';exact h';simp[Gt h']at hl
 have hat:(c.moved l w.heap.size k).ρ[l]? = some (some (w.heap.size,k)):=by simp only[Cx.moved];rw[E4];simp[hlt]
 have hoth:∀m,m≠l->(c.moved l w.heap.size k).ρ[m]? = c.ρ[m]? :=λm hm=>by simp only[Cx.moved];exact zD (D0 hm)
 have kp:zl c H (c.moved l w.heap.size k) (H.set l (.vec n' sz)):=zl.vec hl (Nat.le_of_lt hn) hoth (λe=>by omega);refine⟨by simp[Cx.moved,hR.len],?_,?_,?_,?_,?_,?_,?_,?_⟩
 ·intro l1 l2 b k1 k2 h1 h2;by_cases e1:l1=l<;>by_cases e2:l2=l
  ·omega
  ·subst e1;rw[hat]at h1;rw[hoth l2 e2]at h2;simp at h1;have:=hR.lt l2 b k2 h2;omega
  ·subst e2;rw[hat]at h2;rw[hoth l1 e1]at h1;simp at h2;have:=hR.lt l1 b k1 h1;omega
  ·rw[hoth l1 e1]at h1;rw[hoth l2 e2]at h2;exact hR.inj l1 l2 b k1 k2 h1 h2
 ·intro m b k1 x h1 h2;by_cases e:m=l
  ·subst e;rw[hat]at h1;rw[xb hl]at h2;simp at h1 h2;obtain⟨rfl,rfl⟩:=h1;subst h2;exact hx
  ·rw[hoth m e]at h1;rw[zD (D0 e)]at h2;exact(hR.box m b k1 x h1 h2).ext (Ext.moved o k hR) kp (y8 (hR.lt m b k1 h1))
 ·intro m x h1 h2;by_cases e:m=l
  ·subst e;rw[hat]at h1;simp at h1
  ·rw[hoth m e]at h1;rw[zD (D0 e)]at h2;exact hR.non m x h1 h2
 ·intro m b k1 h1;by_cases e:m=l
  ·subst e;rw[hat]at h1;simp at h1;simp;omega
  ·rw[hoth m e]at h1;have:=hR.lt m b k1 h1;simp;omega
 ·intro b o hi;have:=hR.ilt b o hi;simp;omega
 ·intro r hr;have:=hR.jlt r hr;simp;omega
 ·intro b o m k1 hi h1;by_cases e:m=l
  ·subst e;rw[hat]at h1;simp at h1;have:=hR.ilt b o hi;omega
  ·rw[hoth m e]at h1;obtain⟨a,b',h3,h4⟩:=hR.iap b o m k1 hi h1;exact⟨a,b',by rw[zD (D0 e)];exact h3,h4⟩
 ·intro r m k1 hr h1;by_cases e:m=l
  ·subst e;rw[hat]at h1;simp at h1;have:=hR.jlt r hr;omega
  ·rw[hoth m e]at h1;exact hR.jap r m k1 hr h1
theorem Ext.setRow {b:Nat}{cs old:IG Value}{T:TypeId}(hb:w.heap[b]? = some (.cells old T (0,0))) (hi:∀o,c.I b o->cs[o]? = old[o]?) (hj:¬ c.J b) (hρ:∃l k:Nat,c.ρ[l]? = some (some (b,k))):Hs c w c (w.setRow b cs) where
 os:=rfl
 tape:=rfl
 output:=rfl
 isub _ _ h:=h
 jsub _ h:=h
 icell b' o h:=by
  by_cases e:b'=b
  ·subst e;simp only[Ec,setRow_heap w b' old cs T (0,0) hb,hb];simp[hi o h]
  ·exact xc (setRow_other w b b' cs e) _ _
 jobj r h:=setRow_other w b r cs (λe=>hj (e ▸ h))
 size:=by simp
 frame b' _ hn:=setRow_other w b b' cs (λe=>by subst e;obtain⟨l,k,hl⟩:=hρ;exact hn l k hl)
 inew _ _ h:= .inl h
 jnew _ h:= .inl h
 fresh l b k h:= .inl ⟨l,k,h⟩
theorem HR.setRow {l b k n n' sz:Nat}{cs old:IG Value}{T:TypeId}(hR:HR c H w) (hl:H[l]? = some (.vec n sz)) (hρ:c.ρ[l]? = some (some (b,k))) (hb:w.heap[b]? = some (.cells old T (0,0))) (hi:∀o,c.I b o->cs[o]? = old[o]?) (hn:n<=n') (hk:n'<=k) (hs:cs.size=k*sz):HR c (H.set l (.vec n' sz)) (w.setRow b cs):=by
 have hj:¬ c.J b:=λh=>hR.jap b l k h hρ;have e:=Ext.setRow (cs:=cs) hb hi hj ⟨l,k,hρ⟩;have kp:zl c H c (H.set l (.vec n' sz)):=zl.vec hl hn (λ_ _=>rfl) (λ_=>rfl);refine⟨by simp[hR.len],hR.inj,?_,?_,?_,?_,?_,?_,hR.jap⟩
 ·intro m b1 k1 x h1 h2;by_cases em:m=l
  ·subst em;rw[xb hl]at h2;rw[hρ]at h1;simp at h1 h2;obtain⟨rfl,rfl⟩:=h1;subst h2;exact⟨cs,T,setRow_heap w b old cs T (0,0) hb,hs,hk⟩
  ·rw[zD (D0 em)]at h2;refine(hR.box m b1 k1 x h1 h2).ext e kp (setRow_other w b b1 cs (λe'=>?_));subst e';exact em (hR.inj m l b1 k1 k h1 hρ)
 ·intro m x h1 h2;by_cases em:m=l
  ·subst em;rw[hρ]at h1;simp at h1
  ·rw[zD (D0 em)]at h2;exact hR.non m x h1 h2
 ·intro m b1 k1 h1;simp;exact hR.lt m b1 k1 h1
 ·intro b1 o h;simp;exact hR.ilt b1 o h
 ·intro r h;simp;exact hR.jlt r h
 ·intro b1 o m k1 h h1;obtain⟨a,s,h3,h4⟩:=hR.iap b1 o m k1 h h1;by_cases em:m=l
  ·subst em;rw[hl]at h3;simp at h3;obtain⟨rfl,rfl⟩:=h3;exact⟨n',sz,xb hl,F4 h4 (Be _ hn)⟩
  ·exact⟨a,s,by rw[zD (D0 em)];exact h3,h4⟩
end
def Y8 (P:HP) (c:Cx) (H:IU Box) (w:H5) (s:HG Value) (a:AV) (H':IU Box):Prop :=∃v w' c',s.run P w = .ok v w'/\Hs c w c' w'/\zl c H c' H'/\HR c' H' w'/\RA c' H' w' a v
def FA (ds es:IU D) (sz bytes:Nat):Prop:=((ds++es).all λd=>d.cells.length==sz)=true/\(ds.length+es.length)*bytes<=140737488355328
section
variable {P:HP}{c:Cx}{H:IU Box}{w:H5}
theorem uV {T E ty:TypeId}{i:Cv}{a:IQ E2}{n k:Nat}{u:Value}(hu:P.underlying T=some (.slice E)) (hi:P.info? E=some i) (hk:n<=k) (hx:u = .slice none 0 0∨ ∃b q,u = .slice (some b) 0 q):(Dq #[T,T] ty #[.slice a n k,u]).run P w = .ok (.slice a n k) w:=by
 rcases hx with rfl|⟨b,q,rfl⟩<;>cases a <;>
  simp[Dq,run_underlying hu,sizeOf,typeInfo,hi,zwp,hk,Fy.firstCells,loadCells,loadCellsFrom,storeCells]
theorem ko (t ty e T':TypeId) (i:Cv) (ht:P.underlying t=some (.slice e)) (hi:P.info? e=some i) (g sLen sCap:Nat) (cur:IG Value) (hg:w.heap[g]? = some (.cells cur T' (0,0))) (a:E2) (m c:Nat) (news:IU Value) (hl:news.length=m*i.size) (hnews:∀(j:Nat) u,news[j]? = some u->w.cell? (a.add j)=some u) (h1:∀u∈news,u.oneCell'=true) (hroom:sLen+m<=sCap) (hfit:sLen*i.size+news.length<=cur.size):(Dq #[t,t] ty #[.slice (some ⟨g,0,none⟩) sLen sCap,.slice (some a) m c]).run P w = .ok (.slice (some ⟨g,0,none⟩) (sLen+m) sCap) (w.setRow g (cur.toList.take (sLen*i.size)++news++cur.toList.drop (sLen*i.size+news.length)).toArray):=by have hf:=run_firstCells_some (P:=P) w i.size m a m c news hl hnews;have hst:=run_storeCells_at P g (sLen*i.size) T' news 0 cur w hg (by simpa using hfit) h1;simp only[DX]at hst;simp[Dq,run_underlying ht,sizeOf,typeInfo,hi,zwp,hroom,hf,wy,hst]
theorem RI {I:Nat->Nat->Prop}{J:Nat->Prop}{vs:IU Value}{ds:IU D}(h:zy (RV I J w) vs ds):∀u∈yh vs,u.oneCell'=true:=by
 intro u hu;unfold yh at hu;obtain⟨l,hl,hul⟩:=IU.mem_flatten.1 hu;obtain⟨v,hv,rfl⟩:=Gd.1 hl;obtain⟨i,hi,he⟩:=EF.1 hv;have hi':i<ds.length:=by rw[←h.1];exact hi
 have h2:=(h.2 i v ds[i] (by simp[hi,he]) (by simp[hi'])).cells;obtain⟨j,hj,hej⟩:=EF.1 hul;have hj':j<ds[i].cells.length:=by rw[←h2.1];exact hj
 exact(h2.2 j u _ (by rw[Ff hj,hej]) (Ff hj')).oneCell
theorem sL {ds es:IU D}{sz bytes:Nat}(h:FA ds es sz bytes):(∀d∈ds,d.cells.length=sz)/\(∀d∈es,d.cells.length=sz)/\(∀d∈ds++es,d.cells.length=sz):=by
 have:=G3.1 h.1;have h' :∀d∈ds++es,d.cells.length=sz:=λd hd=>by simpa using this d hd
 exact⟨λd hd=>h' d (by simp[hd]),λd hd=>h' d (by simp[hd]),h'⟩
theorem R1.src {I:Nat->Nat->Prop}{J:Nat->Prop}{b off n cap:Nat}{ds:IU D}{sz:Nat}(h:R1 I J w (.slice (some ⟨b,off,none⟩) n cap) (.sl ds)) (hsz:∀d∈ds,d.cells.length=sz):∃us,zy (RV I J w) us ds/\∀(j:Nat) u,(yh us)[j]? = some u->w.cell? ⟨b,off+j,none⟩=some u:=by obtain⟨us,h1,h2⟩:=h.row hsz;exact⟨us,h1,λj u hu=>(h2 j u hu).2⟩
theorem Y9 {T E ty:TypeId}{i:Cv}{z:Value}{ds es:IU D}{a:IQ E2}{n k:Nat}{b':Nat}{o' q:Nat}(hu:P.underlying T=some (.slice E)) (hi:P.info? E=some i) (hz:i.zero=some z) (hs:R1 c.I c.J w (.slice a n k) (.sl ds)) (hx:∃us,zy (RV c.I c.J w) us es/\∀(j:Nat) u,(yh us)[j]? = some u->w.cell? ⟨b',o'+j,none⟩=some u) (hF:FA ds es i.size i.bytes) (hb:0<i.bytes) (hne:0<es.length) (hg:k<ds.length+es.length):∃vs us cap,zy (RV c.I c.J w) vs ds/\zy (RV c.I c.J w) us es/\ds.length+es.length<=cap/\(Dq #[T,T] ty #[.slice a n k,.slice (some ⟨b',o',none⟩) es.length q]).run P w = .ok (.slice (some ⟨w.heap.size,0,none⟩) (ds.length+es.length) cap) (w.drew.alloc (.cells (yh (vs++us)++(zy4 z.cells (cap - (ds.length+es.length))).toList).toArray E)):=by
 obtain⟨a1,a2,a3⟩:=sL hF;obtain⟨us,hus,hcu⟩:=hx;have hl2:(yh us).length=es.length*i.size:=ww hus a2;have hnews:∀(j:Nat) v,(yh us)[j]? = some v->w.cell? ((⟨b',o',none⟩:E2).add j)=some v:=λj v hj=>by rw[wy];exact hcu j v hj
 have h47:ds.length+es.length<=140737488355328:=EN (Nat.le_mul_of_pos_right _ hb) hF.2;cases hs with
 |nil =>
  refine⟨[],us,grownCap w es.length 0 E,Ga,hus,by have:=grownCap_ge w es.length 0 E;simpa using this,?_⟩;rw[run_append_nil (P:=P) w T ty E i z hu hi hz ⟨b',o',none⟩ es.length q (yh us) hl2 hnews hne (by simp at h47;omega) (by have:=hF.2;simp at this;omega)];simp only[FL,E6,BR];congr 2;apply Gv (λx=>zyA x E);apply FP;simp
 |emp a =>
  refine⟨[],us,grownCap w (0+es.length) k E,Ga,hus,grownCap_ge w _ _ E,?_⟩;rw[run_append_grow (P:=P) w T ty E i z hu hi hz a 0 k [] (by simp) (by intro j v hj;simp at hj) ⟨b',o',none⟩ es.length q (yh us) hl2 hnews (by simpa using hg) (by simp at h47;omega) (growslice_fits (by simpa using hg) (by simpa using hF.2))];congr 2;apply Gv (λx=>zyA x E);apply FP;simp[yh]
 |sl b off cap' sz' ds vals hsz hc hr hcap =>
  obtain⟨vs,hvs,hcv⟩:=(Cm (I:=c.I) (J:=c.J) (w:=w) b off k sz' ds vals hsz hc hr hcap).row a1;have hl1:(yh vs).length=ds.length*i.size:=ww hvs a1;have holds:∀(j:Nat) v,(yh vs)[j]? = some v->w.cell? ((⟨b,off,none⟩:E2).add j)=some v:=λj v hj=>by rw[wy];exact(hcv j v hj).2
  refine⟨vs,us,grownCap w (ds.length+es.length) k E,hvs,hus,grownCap_ge w _ _ E,?_⟩;rw[run_append_grow (P:=P) w T ty E i z hu hi hz ⟨b,off,none⟩ ds.length k (yh vs) hl1 holds ⟨b',o',none⟩ es.length q (yh us) hl2 hnews hg (by omega) (growslice_fits hg hF.2)];congr 2;apply Gv (λx=>zyA x E);apply FP;simp[jp]
theorem Yz {w1:H5}{cs:IU Value}{E:TypeId}{fr:Nat×Nat}{j:Nat}{u:Value}(h:cs[j]? = some u):({ w1 with heap:=w1.heap.push (.cells cs.toArray E fr) }:H5).cell? ⟨w1.heap.size,0+j,none⟩=some u:=by simp only[Ec,zxY,E6];simp[h]
theorem zy.ext' {c':Cx}{w':H5}{vs:IU Value}{ds:IU D}(e:Hs c w c' w') (h:zy (RV c.I c.J w) vs ds):zy (RV c'.I c'.J w') vs ds:=h.mono λ_ _ h=>h.ext e
theorem R1.len {I:Nat->Nat->Prop}{J:Nat->Prop}{a:IQ E2}{n k:Nat}{ds:IU D}(h:R1 I J w (.slice a n k) (.sl ds)):n=ds.length/\n<=k:=by
 cases h with
 |nil=>simp
 |emp=>simp
 |sl=>exact⟨rfl,by assumption⟩
theorem dx {T E ty:TypeId}{i:Cv}{z:Value}{ds es:IU D}{a:IQ E2}{n b' o' q:Nat}(hR:HR c H w) (hu:P.underlying T=some (.slice E)) (hi:P.info? E=some i) (hz:i.zero=some z) (hzs:z.cells.size=i.size) (hs:R1 c.I c.J w (.slice a n n) (.sl ds)) (hx:∃us,zy (RV c.I c.J w) us es/\∀(j:Nat) u,(yh us)[j]? = some u->w.cell? ⟨b',o'+j,none⟩=some u) (hF:FA ds es i.size i.bytes) (hb:0<i.bytes) (hne:0<es.length): Y8 P c H w (Dq #[T,T] ty #[.slice a n n,.slice (some ⟨b',o',none⟩) es.length q]) (.vec H.length (ds++es)) (H++[.vec (ds.length+es.length) i.size]):=by
 obtain⟨a1,a2,a3⟩:=sL hF;have hn:=hs.len.1;obtain⟨vs,us,cap,hvs,hus,hcap,hrun⟩:=Y9 (ty:=ty) hu hi hz hs hx hF hb hne (by omega);have hall:zy (RV c.I c.J w) (vs++us) (ds++es):=hvs.append hus;have hfl:(yh (vs++us)).length=(ds.length+es.length)*i.size:=by rw[ww hall a3];simp
 let w1:H5:= { w with drawn:=w.drawn+1 };have hR1:HR c H w1:=hR.drew _;let row:=yh (vs++us)++(zy4 z.cells (cap - (ds.length+es.length))).toList;have hrow:row.length=cap*i.size:=by simp only[row,FG,hfl,Ey,size_zeroCells,hzs,←FC];congr 1;omega
 have e1:=B6 c w1 (.cells row.toArray E) cap hR1.ilt hR1.jlt;have hR2:=BG hR1 (.cells row.toArray E) cap (.vec (ds.length+es.length) i.size) ⟨row.toArray,E,vr w1 _,by simpa using hrow,hcap⟩;let S:Nat->Nat->Prop:=λb o=>b=w1.heap.size/\o<(ds.length+es.length)*i.size;have hat:(c.grow w1.heap.size cap).ρ[H.length]? = some (some (w1.heap.size,cap)):=by have:(c.grow w1.heap.size cap).ρ=c.ρ++[some (w1.heap.size,cap)]:=rfl;rw[this,←hR.len];simp
 have hS:∀b o,S b o->∃l k:Nat,(c.grow w1.heap.size cap).ρ[l]? = some (some (b,k)):=λb o h=>⟨_,_,(by have h1:=h.1;subst h1;exact hat)⟩;have hR3:=HR.more hR2 S hS (λb o h=>by rw[h.1];simp) (λb o l k h hl=>by obtain⟨rfl,ho⟩:=h;have hll:=hR2.inj l H.length _ _ _ hl hat;subst hll;exact⟨_,_,by simp,ho⟩);have e2:=Hs.more (c.grow w1.heap.size cap) { w1 with heap:=w1.heap.push (.cells row.toArray E) } S hS;have eall:Hs c w ((c.grow w1.heap.size cap).more S) { w1 with heap:=w1.heap.push (.cells row.toArray E) }:=(Hs.drew c w _).trans (e1.trans e2);refine⟨_,_,_,hrun,eall,(Ct c H _ cap _ hR.len).trans (zl.more _ _ _),hR3,?_⟩;have hread:R1 ((c.grow w1.heap.size cap).more S).I ((c.grow w1.heap.size cap).more S).J { w1 with heap:=w1.heap.push (.cells row.toArray E) } (.slice (some ⟨w1.heap.size,0,none⟩) (ds++es).length cap) (.sl (ds++es)):=by
  refine zzt (zy.ext' eall hall) a3 (λj u hj=>⟨.inr ⟨rfl,?_⟩,?_⟩) (by simpa using hcap)
  ·have:j<(yh (vs++us)).length:=by rcases G4 j (yh (vs++us)).length with h' |h';exact h';simp[Gt h']at hj
   rw[hfl]at this;omega
  ·refine Yz ?_;have:j<(yh (vs++us)).length:=by rcases G4 j (yh (vs++us)).length with h' |h';exact h';simp[Gt h']at hj
   simp only[row];rw[Ez this];exact hj
 have hlen:(ds++es).length=ds.length+es.length:=by simp
 rw[hlen]at hread;refine Bn (n:=ds.length+es.length) (sz:=i.size) hread (by simp) (by simp) (λ_=>.inr ⟨w1.heap.size,rfl,hat⟩)
end
def jB (P:HP) (H:IU Box) (T:TypeId) (s x:AV):IQ (AV×IU Box×Prop) :=match P.underlying T with
 |some (.slice E)=>match P.info? E with
  |some i=>match i.zero with
   |some z =>
    if 0<i.size/\0<i.bytes/\z.cells.size=i.size then
     match avSl x with
     |some es=>match s with
      |.full ds=>some (.vec H.length (ds++es),H++[.vec (ds.length+es.length) i.size],FA ds es i.size i.bytes)
      |.vec l ds=>match H[l]? with
       |some (.vec n sz)=>some (.vec l (ds++es),H.set l (.vec (ds.length+es.length) sz),n=ds.length/\sz=i.size/\FA ds es i.size i.bytes)
       |_=>none
      |_=>none
     |none=>none
    else none
   |none=>none
  |none=>none
 |_=>none
section
variable {P:HP}{c:Cx}{H:IU Box}{w:H5}
theorem gw {α:Type}{xs:IU α}{x:α}{l:Nat}(h:xs[l]? = some x):xs.set l x=xs:=by
 apply DO;intro i;by_cases e:l=i
 ·subst e;rw[xb h,h]
 ·rw[zD e]
theorem HR.push_none {n sz:Nat}(hR:HR c H w):HR { c with ρ:=c.ρ++[none] } (H++[.vec n sz]) w/\zl c H { c with ρ:=c.ρ++[none] } (H++[.vec n sz])/\Hs c w { c with ρ:=c.ρ++[none] } w:=by
 have e:Hs c w { c with ρ:=c.ρ++[none] } w:=⟨rfl,rfl,rfl,λ_ _ h=>h,λ_ h=>h,λ_ _ _=>rfl,λ_ _=>rfl,GE _,λ_ _ _=>rfl,λ_ _ h=>.inl h,λ_ h=>.inl h,λl b k h=>by
  rcases zo h with h|⟨_,h⟩
  ·exact .inl ⟨l,k,h⟩
  ·simp at h⟩
 have kp:zl c H { c with ρ:=c.ρ++[none] } (H++[.vec n sz]):=by
  intro l y hy;have hlt:l<H.length:=by rcases G4 l H.length with h' |h';exact h';simp[Gt h']at hy
  have e1:(H++[FY n sz])[l]? = some y:=xr hy;have e2:(c.ρ++[none])[l]? = c.ρ[l]? :=qV (by have:=hR.len;omega);cases y<;>simp only[e1,e2]<;>simp
 refine⟨⟨by simp[hR.len],?_,?_,?_,?_,hR.ilt,hR.jlt,?_,?_⟩,kp,e⟩
 ·intro l l' b k k' h1 h2;rcases zo h1 with h1|⟨_,h1⟩<;>rcases zo h2 with h2|⟨_,h2⟩<;>first|(simp at h1;done)|(simp at h2;done)|exact hR.inj l l' b k k' h1 h2
 ·intro l b k x h1 h2;rcases zo h1 with h1|⟨_,h1⟩
  ·rcases zo h2 with h2|⟨e2,h2⟩
   ·exact(hR.box l b k x h1 h2).ext e kp rfl
   ·have:=hR.len;rw[Gt (by omega)]at h1;simp at h1
  ·simp at h1
 ·intro l x h1 h2;rcases zo h2 with h2|⟨e2,h2⟩
  ·rcases zo h1 with h1|⟨e1,_⟩
   ·exact hR.non l x h1 h2
   ·have:=hR.len;rw[Gt (by omega)]at h2;simp at h2
  ·exact .inl ⟨_,_,h2⟩
 ·intro l b k h1;rcases zo h1 with h1|⟨_,h1⟩
  ·exact hR.lt l b k h1
  ·simp at h1
 ·intro b o l k hi h1;rcases zo h1 with h1|⟨_,h1⟩
  ·obtain⟨a,s,h3,h4⟩:=hR.iap b o l k hi h1;exact⟨a,s,xr h3,h4⟩
  ·simp at h1
 ·intro r l k hr h1;rcases zo h1 with h1|⟨_,h1⟩
  ·exact hR.jap r l k hr h1
  ·simp at h1
theorem dw {u:Value}{es:IU D}(h:R1 c.I c.J w u (.sl es)):(es=[]/\(u = .slice none 0 0∨ ∃b q,u = .slice (some b) 0 q))∨(0<es.length/\∃b o q,u = .slice (some ⟨b,o,none⟩) es.length q):=by
 cases h with
 |nil=>exact .inl ⟨rfl,.inl rfl⟩
 |emp a cap=>exact .inl ⟨rfl,.inr ⟨_,_,rfl⟩⟩
 |sl b off cap sz ds vals hsz hc hr hcap =>
  rcases Nat.eq_zero_or_pos es.length with h0|h0
  ·have:es=[]:=Df h0;subst this;exact .inl ⟨rfl,.inr ⟨_,_,rfl⟩⟩
  ·exact .inr ⟨h0,b,off,cap,rfl⟩
theorem RH {T E ty:TypeId}{i:Cv}{z:Value}{ds es:IU D}{a:IQ E2}{n k l b' o' q:Nat}(hR:HR c H w) (hu:P.underlying T=some (.slice E)) (hi:P.info? E=some i) (hz:i.zero=some z) (hzs:z.cells.size=i.size) (hl:H[l]? = some (.vec ds.length i.size)) (hs:R1 c.I c.J w (.slice a n k) (.sl ds)) (hx:R1 c.I c.J w (.slice (some ⟨b',o',none⟩) es.length q) (.sl es)) (hF:FA ds es i.size i.bytes) (hb:0<i.bytes) (hne:0<es.length) (hg:k<ds.length+es.length): Y8 P c H w (Dq #[T,T] ty #[.slice a n k,.slice (some ⟨b',o',none⟩) es.length q]) (.vec l (ds++es)) (H.set l (.vec (ds.length+es.length) i.size)):=by
 obtain⟨a1,a2,a3⟩:=sL hF;obtain⟨vs,us,cap,hvs,hus,hcap,hrun⟩:=Y9 (ty:=ty) (q:=q) hu hi hz hs (hx.src a2) hF hb hne hg;have hall:zy (RV c.I c.J w) (vs++us) (ds++es):=hvs.append hus;have hfl:(yh (vs++us)).length=(ds.length+es.length)*i.size:=by rw[ww hall a3];simp
 let w1:H5:= { w with drawn:=w.drawn+1 };have hR1:HR c H w1:=hR.drew _;let row:=yh (vs++us)++(zy4 z.cells (cap - (ds.length+es.length))).toList;have hrow:row.length=cap*i.size:=by simp only[row,FG,hfl,Ey,size_zeroCells,hzs,←FC];congr 1;omega
 have e1:=Hs.moved (l:=l) (.cells row.toArray E) cap hR1;have hR2:=HR.moved (k:=cap) (n':=ds.length+es.length) (.cells row.toArray E) hR1 hl (by omega) ⟨row.toArray,E,vr w1 _,by simpa using hrow,hcap⟩;let S:Nat->Nat->Prop:=λb o=>b=w1.heap.size/\o<(ds.length+es.length)*i.size;have hlt:l<c.ρ.length:=by rw[hR.len];rcases G4 l H.length with h' |h';exact h';simp[Gt h']at hl
 have hat:(c.moved l w1.heap.size cap).ρ[l]? = some (some (w1.heap.size,cap)):=by have:(c.moved l w1.heap.size cap).ρ=c.ρ.set l (some (w1.heap.size,cap)):=rfl;rw[this,E4];simp[hlt]
 have hS:∀b o,S b o->∃m k:Nat,(c.moved l w1.heap.size cap).ρ[m]? = some (some (b,k)):=λb o h=>⟨_,_,(by have h1:=h.1;subst h1;exact hat)⟩;have hR3:=HR.more hR2 S hS (λb o h=>by rw[h.1];simp) (λb o m k h hm=>by obtain⟨rfl,ho⟩:=h;have hll:=hR2.inj m l _ _ _ hm hat;subst hll;exact⟨_,_,xb hl,ho⟩);have e2:=Hs.more (c.moved l w1.heap.size cap) { w1 with heap:=w1.heap.push (.cells row.toArray E) } S hS;have eall:Hs c w ((c.moved l w1.heap.size cap).more S) { w1 with heap:=w1.heap.push (.cells row.toArray E) }:=(Hs.drew c w _).trans (e1.trans e2);have kp:zl c H (c.moved l w1.heap.size cap) (H.set l (.vec (ds.length+es.length) i.size)):=zl.vec hl (by omega) (λm hm=>by have:(c.moved l w1.heap.size cap).ρ=c.ρ.set l (some (w1.heap.size,cap)):=rfl;rw[this];exact zD (D0 hm)) (λe=>by omega);refine⟨_,_,_,hrun,eall,kp.trans (zl.more _ _ _),hR3,?_⟩;have hread:R1 ((c.moved l w1.heap.size cap).more S).I ((c.moved l w1.heap.size cap).more S).J { w1 with heap:=w1.heap.push (.cells row.toArray E) } (.slice (some ⟨w1.heap.size,0,none⟩) (ds++es).length cap) (.sl (ds++es)):=by
  refine zzt (zy.ext' eall hall) a3 (λj u hj=>⟨.inr ⟨rfl,?_⟩,?_⟩) (by simpa using hcap)
  ·have:j<(yh (vs++us)).length:=by rcases G4 j (yh (vs++us)).length with h' |h';exact h';simp[Gt h']at hj
   rw[hfl]at this;omega
  ·refine Yz ?_;have:j<(yh (vs++us)).length:=by rcases G4 j (yh (vs++us)).length with h' |h';exact h';simp[Gt h']at hj
   simp only[row];rw[Ez this];exact hj
 have hlen:(ds++es).length=ds.length+es.length:=by simp
 rw[hlen]at hread;exact Bn (n:=ds.length+es.length) (sz:=i.size) hread (xb hl) (by simp) (λ_=>.inr ⟨w1.heap.size,rfl,hat⟩)
theorem RG {T E ty:TypeId}{i:Cv}{ds es:IU D}{k l b b' o' q:Nat}(hR:HR c H w) (hu:P.underlying T=some (.slice E)) (hi:P.info? E=some i) (hl:H[l]? = some (.vec ds.length i.size)) (hρ:c.ρ[l]? = some (some (b,k))) (hs:R1 c.I c.J w (.slice (some ⟨b,0,none⟩) ds.length k) (.sl ds)) (hx:R1 c.I c.J w (.slice (some ⟨b',o',none⟩) es.length q) (.sl es)) (hF:FA ds es i.size i.bytes) (hg:ds.length+es.length<=k): Y8 P c H w (Dq #[T,T] ty #[.slice (some ⟨b,0,none⟩) ds.length k,.slice (some ⟨b',o',none⟩) es.length q]) (.vec l (ds++es)) (H.set l (.vec (ds.length+es.length) i.size)):=by
 obtain⟨a1,a2,a3⟩:=sL hF;obtain⟨vs,hvs,hcv⟩:=hs.row a1;obtain⟨us,hus,hcu⟩:=hx.row a2;have hl1:(yh vs).length=ds.length*i.size:=ww hvs a1;have hl2:(yh us).length=es.length*i.size:=ww hus a2;obtain⟨old,T',hb,hsz,hnk⟩:=hR.box l b k _ hρ hl;have hfit:ds.length*i.size+(yh us).length<=old.size:=by rw[hl2,hsz,←FC];exact Be _ hg
 have hrun:=ko (P:=P) (w:=w) T ty E T' i hu hi b ds.length k old hb ⟨b',o',none⟩ es.length q (yh us) hl2 (λj v hj=>by rw[wy];exact(hcu j v hj).2) (RI hus) hg hfit;let row:=old.toList.take (ds.length*i.size)++yh us++old.toList.drop (ds.length*i.size+(yh us).length);have hrow:row.toArray.size=k*i.size:=by simp only[row,BX,FG,FS,IU.length_drop,Ey];omega
 have htk:(old.toList.take (ds.length*i.size)).length=ds.length*i.size:=by simp;omega
 have hlow:∀o,o<ds.length*i.size->row.toArray[o]? = old[o]? :=by intro o ho;simp only[row,CE];rw[DN,Ez (by omega),Fa,Hv ho];simp
 have hI:∀o,c.I b o->row.toArray[o]? = old[o]? :=by intro o ho;obtain⟨n,sz,h1,h2⟩:=hR.iap b o l k ho hρ;rw[hl]at h1;simp at h1;obtain⟨rfl,rfl⟩:=h1;exact hlow o h2
 have hj:¬ c.J b:=λh=>hR.jap b l k h hρ;have e1:=Hs.setRow (cs:=row.toArray) hb hI hj ⟨l,k,hρ⟩;have hR2:=HR.setRow (cs:=row.toArray) (n':=ds.length+es.length) hR hl hρ hb hI (by omega) hg hrow;let S:Nat->Nat->Prop:=λb1 o=>b1=b/\o<(ds.length+es.length)*i.size;have hS:∀b1 o,S b1 o->∃l k:Nat,c.ρ[l]? = some (some (b1,k)):=λb1 o h=>⟨l,k,(by have h1:=h.1;subst h1;exact hρ)⟩;have hR3:=HR.more hR2 S hS (λb1 o h=>by rw[h.1];simp;exact hR.lt l b k hρ) (λb1 o m k1 h hm=>by obtain⟨rfl,ho⟩:=h;have hll:=hR.inj m l _ _ _ hm hρ;subst hll;exact⟨_,_,xb hl,ho⟩);have eall:Hs c w (c.more S) (w.setRow b row.toArray):=e1.trans (Hs.more _ _ S hS);have kp:zl c H c (H.set l (.vec (ds.length+es.length) i.size)):=zl.vec hl (by omega) (λ_ _=>rfl) (λ_=>rfl);refine⟨_,_,_,hrun,eall,kp.trans (zl.more _ _ _),hR3,?_⟩;have hall:zy (RV c.I c.J w) (vs++us) (ds++es):=hvs.append hus;have hfl:(yh (vs++us)).length=(ds.length+es.length)*i.size:=by rw[ww hall a3];simp
 have hread:R1 (c.more S).I (c.more S).J (w.setRow b row.toArray) (.slice (some ⟨b,0,none⟩) (ds++es).length k) (.sl (ds++es)):=by
  refine zzt (zy.ext' eall hall) a3 (λj u hj=>⟨.inr ⟨rfl,?_⟩,?_⟩) (by simpa using hg)
  ·have:j<(yh (vs++us)).length:=by rcases G4 j (yh (vs++us)).length with h' |h';exact h';simp[Gt h']at hj
   rw[hfl]at this;omega
  ·simp only[Ec,setRow_heap w b old row.toArray T' (0,0) hb,E6,DP,FU,if_false];rw[jp]at hj;by_cases hjl:j<(yh vs).length
   ·rw[Ez hjl]at hj;rw[hlow j (by omega)];have:=(hcv j u hj).2;simp only[Ec,hb,E6,DP,FU,if_false]at this;exact this
   ·have hj':=hj;rw[EG (by omega)]at hj';have hju:j - (yh vs).length<(yh us).length:=by rcases G4 (j - (yh vs).length) (yh us).length with h' |h';exact h';simp[Gt h']at hj'
    simp only[row,CE];rw[DN,EG (by omega),Ez (by omega),htk,←hl1];exact hj'
 have hlen:(ds++es).length=ds.length+es.length:=by simp
 rw[hlen]at hread;exact Bn (n:=ds.length+es.length) (sz:=i.size) hread (xb hl) (by simp) (λ_=>.inr ⟨b,rfl,hρ⟩)
theorem eB {T ty:TypeId}{s x a:AV}{sv xv:Value}{H':IU Box}{F:Prop}(hR:HR c H w) (h:jB P H T s x=some (a,H',F)) (hF:F) (hs:RA c H w s sv) (hx:RA c H w x xv): Y8 P c H w (Dq #[T,T] ty #[sv,xv]) a H':=by
 unfold jB at h;split at h
 ·rename_i E hu;split at h
  ·rename_i i hi;split at h
   ·rename_i z hz;split at h
    ·rename_i hpos;obtain⟨hp1,hp2,hp3⟩:=hpos;split at h
     ·rename_i es hes;obtain⟨_,_,_,hxv,hxr,_⟩:=vJ hx hes;split at h
      ·rename_i ds;cases h;cases hs with
       |@full _ a n hs =>
        rcases dw hxr with⟨rfl,hu0⟩|⟨h0,b',o',q,rfl⟩
        ·obtain⟨h1,h2,h3⟩:=HR.push_none (n:=ds.length+([]:IU D).length) (sz:=i.size) hR;refine⟨_,w,_,uV hu hi (GE _) hu0,h3,h2,h1,?_⟩;rw[D5];exact Bn (n:=ds.length+([]:IU D).length) (sz:=i.size) hs (by simp) (by simp) (λ_=>.inl rfl)
        ·exact dx hR hu hi hz hp3 hs (hxr.src (sL hF).2.1) hF hp2 h0
      ·rename_i l ds;split at h
       ·rename_i n sz hl;cases h;obtain⟨rfl,rfl,hF⟩:=hF;cases hs with
        |@vec _ n' sz' _ a m k hs hH hn he =>
         obtain⟨hm1,hm2⟩:=hs.len;subst hm1;rcases dw hxr with⟨rfl,hu0⟩|⟨h0,b',o',q,rfl⟩
         ·refine⟨_,w,c,uV hu hi hm2 hu0,Fq _ _,?_,?_,?_⟩
          ·simp only[FL,DX];rw[gw hl];exact GV _ _
          ·simp only[FL,DX];rw[gw hl];exact hR
          ·simp only[FL,DX,D5];rw[gw hl];exact Bn hs hH hn he
         ·rw[hl]at hH;simp at hH;obtain⟨rfl,rfl⟩:=hH;by_cases hg:ds.length+es.length<=k
          ·rcases he rfl with hk|⟨b,rfl,hρ⟩
           ·omega
           ·exact RG hR hu hi hl hρ hs hxr hF hg
          ·exact RH hR hu hi hz hp3 hl hs hxr hF hp2 h0 (by omega)
       ·simp at h
      ·simp at h
     ·simp at h
    ·simp at h
   ·simp at h
  ·simp at h
 ·simp at h
end
open Go.Sx.HR renaming push_none->AS
def updD:IU (D×D)->D->D->IU (D×D)
 |[],k,x=>[(k,x)]
 |kv::r,k,x=>if beqD k kv.1 then(k,x)::r else kv::updD r k x
def um (P:HP) (e:G1->AV) (H:IU Box):Op->IQ (AV×IU Box×Prop)
 |.alloc T=>(yZ P T).map λz=>(.ptr H.length 0,H++[.cells T (z.cells.toList.map vq)],IN)
 |.box T x=>(avCells (e x)).map λcs=>(.ptr H.length 0,H++[.cells T cs],IN)
 |.store T a x =>
  match e a,avCells (e x),xT P T with
  |.ptr l o,some xs,some n=>match H[l]? with
   |some (.cells T' cs)=>if xs.length=n/\o+n<=cs.length then some (.any,H.set l (.cells T' (putL cs o xs)),IN)else none
   |_=>none
  |_,_,_=>none
 |.makeMap _ none=>some (.map H.length,H++[.map []],IN)
 |.mapUpdate T m k x =>
  match e m,MI (e k),avD (e x),P.underlying T with
  |.map l,some kd,some xd,some (.map K _)=>match H[l]?,P.underlying K with
   |some (.map es),some kk=>if oB P K kk kd then some (.any,H.set l (.map (updD es kd xd)),(es.all λkv=>sameKind kd kv.1)=true)else none
   |_,_=>none
  |_,_,_,_=>none
 |.call { callee:= .builtin .append,args,argTypes } =>
  match args.toList,argTypes.toList with
  |[s,x],[T,T']=>if T=T' then jB P H T (e s) (e x)else none
  |_,_=>none
 |_=>none
section
variable {P:HP}{c:Cx}{H:IU Box}{w:H5}{e:G1->AV}{r:G1->Value}
theorem dv {T:TypeId}{vs:IU Value}{cs:IU AV}(hR:HR c H w) (hv:zy (λv a=>RA c H w a v) vs cs): let w':H5:= { w with heap:=w.heap.push (.cells vs.toArray T) }
  Hs c w (c.grow w.heap.size 0) w'/\zl c H (c.grow w.heap.size 0) (H++[.cells T cs])/\HR (c.grow w.heap.size 0) (H++[.cells T cs]) w' /\
   RA (c.grow w.heap.size 0) (H++[.cells T cs]) w' (.ptr H.length 0) (.pointer (some ⟨w.heap.size,0,none⟩)):=by
 intro w';have e1:=B6 c w (.cells vs.toArray T) 0 hR.ilt hR.jlt;have kp:=Ct c H w.heap.size 0 (.cells T cs) hR.len;refine⟨e1,kp,BG hR _ 0 _ ⟨vs,vr w _,hv.mono λ_ _ h=>h.ext e1 kp⟩,.ptr (T:=T) (cs:=cs) (k:=0) (by simp) ?_⟩;have:(c.grow w.heap.size 0).ρ=c.ρ++[some (w.heap.size,0)]:=rfl;rw[this,←hR.len];simp
theorem Ny (hR:HR c H w): let w':H5:= { w with heap:=w.heap.push (.map #[] 0) }
  Hs c w (c.grow w.heap.size 0) w'/\zl c H (c.grow w.heap.size 0) (H++[.map []])/\HR (c.grow w.heap.size 0) (H++[.map []]) w' /\
   RA (c.grow w.heap.size 0) (H++[.map []]) w' (.map H.length) (.map (some w.heap.size)):=by
 intro w';have e1:=B6 c w (.map #[] 0) 0 hR.ilt hR.jlt;have kp:=Ct c H w.heap.size 0 (.map []) hR.len;refine⟨e1,kp,BG hR _ 0 _ ⟨#[],0,vr w _,Ga⟩,.map (es:=[]) (k:=0) (by simp) ?_⟩;have:(c.grow w.heap.size 0).ρ=c.ρ++[some (w.heap.size,0)]:=rfl;rw[this,←hR.len];simp
theorem SN {T T':TypeId}{l o b k:Nat}{cs xs:IU AV}{v:Value}(hR:HR c H w) (hl:H[l]? = some (.cells T' cs)) (hρ:c.ρ[l]? = some (some (b,k))) (hv:zy (λv a=>RA c H w a v) v.cells.toList xs) (h1:∀u∈v.cells.toList,u.oneCell'=true) (hs:xT P T=some xs.length) (hfit:o+xs.length<=cs.length):∃w',(Dl T (.pointer (some ⟨b,o,none⟩)) v).run P w = .ok () w'/\Hs c w c w'/\zl c H c (H.set l (.cells T' (putL cs o xs)))/\HR c (H.set l (.cells T' (putL cs o xs))) w':=by
 obtain⟨vs,hw,hvs⟩:=hR.box l b k _ hρ hl;have hlen:v.cells.toList.length=xs.length:=hv.1;have hfit':o+0+v.cells.toList.length<=vs.toArray.size:=by have:=hvs.1;simp only[BX];omega
 have hrun:=run_storeCells_at P b o T' v.cells.toList 0 vs.toArray w hw hfit' h1;simp only[DX,←jD _ _ _ (show o+v.cells.toList.length<=vs.toArray.toList.length by have:=hvs.1;simp only[Ey];omega)]at hrun;let row:=putL vs o v.cells.toList;have hw':(w.setRow b row.toArray).heap[b]? = some (.cells row.toArray T' (0,0)):=setRow_heap w b vs.toArray row.toArray T' (0,0) hw;have hnv:∀n sz,Box.cells T' cs ≠ .vec n sz:=by intro n sz h;cases h
 have e1:Hs c w c (w.setRow b row.toArray):=AI (l:=l) (b:=b) (k:=k) hρ hR rfl rfl rfl (by simp) (λb' h=>setRow_other w b b' _ h) (by rw[hl];intro n sz h;cases h);have kp:zl c H c (H.set l (.cells T' (putL cs o xs))):=zl.set_cells hl _;refine⟨_,?_,e1,kp,zz7 hρ hR hl (by simp) (λb' h=>setRow_other w b b' _ h) hnv e1 kp ⟨row,hw',?_⟩⟩
 ·have hsz:¬ v.cells.size≠xs.length:=by have:=hlen;simp only[Ey]at this;omega
  simp only[Dl,Gk,DL,GF,Gm,storeVar,yd hs,IE hsz];exact hrun
 ·exact(zy.putL o (hvs) hv).mono λ_ _ h=>h.ext e1 kp
end
section
variable {P:HP}{c:Cx}{H:IU Box}{w:H5}{e:G1->AV}{r:G1->Value}
theorem gu {k x:D}{v u:Value}(hs:sameKind k x=true) (hb:beqD k x=true) (hv:R1 c.I c.J w v k) (hu:R1 c.I c.J w u x):B3 10000 u v=true:=by
 cases hv<;>cases hu<;>simp[sameKind]at hs<;>simp[beqD]at hb<;>subst hb<;>(try subst hs)<;>simp[B3]
 rw[beq_toListBytes];simp
theorem jo {kd:Dz}{k x:D}{v xv:Value}(hk:keyOk kd k=true) (hv0:RV c.I c.J w v k) (hx:RV c.I c.J w xv x):∀(es:IU (D×D)) (ents:IU Ea) (i:Nat),br c w ents es->(∀kv∈es,sameKind k kv.1=true)->(∃j u en,D6 kd v ents i=some (some (i+j,u))/\ents[j]? = some en/\B3 10000 en.key v=true/\br c w (ents.modify j λen=>{ en with key:=v,val:=xv }) (updD es k x)) ∨(D6 kd v ents i=some none/\updD es k x=es++[(k,x)])
 |[],ents,i,h,_=>by have:=h.nil_right;subst this;right;simp[D6,updD]
 |kv::es,ents,i,h,hs=>by
  obtain⟨en,ens,rfl,⟨h0,h2⟩,h3⟩:=h.cons_right;have hv:=hv0.one (ks hk);have h1:=h0.one (mX hk (hs kv (by simp)));have hn:=oA (kd:=kd) hk (hs kv (by simp)) hv h1;have ih:=jo hk hv0 hx es ens (i+1) h3 (λx hx=>hs x (by simp[hx]));simp only[D6,hn,updD];cases hb:beqD k kv.1 with
  |true =>
   left;refine⟨0,en.val,en,by simp,by simp,gu (hs kv (by simp)) hb hv h1,?_⟩;simp only[if_true,zxW];exact Gw ⟨hv0,hx⟩ h3
  |false =>
   simp only[FU,if_false];rcases ih with⟨j,u,en',e1,e2,e3,e4⟩|⟨e1,e2⟩
   ·left;refine⟨j+1,u,en',by rw[e1];congr 3;omega,by simpa using e2,e3,?_⟩;simp only[zxV];exact Gw ⟨h0,h2⟩ e4
   ·right;exact⟨e1,by rw[e2];rfl⟩
theorem qS {K:TypeId}{k x:D}{v xv:Value}(hk:RJ P K k=true) (hv:RV c.I c.J w v k) (hx:RV c.I c.J w xv x):∀(es:IU (D×D)) (ents:IU Ea) (i:Nat),br c w ents es->(∀kv∈es,sameKind k kv.1=true)->(∃j u en,(D4 K v ents i).run P w = .ok (some (i+j,u)) w/\ents[j]? = some en/\B3 10000 en.key v=true/\br c w (ents.modify j λen=>{ en with key:=v,val:=xv }) (updD es k x)) ∨((D4 K v ents i).run P w = .ok none w/\updD es k x=es++[(k,x)])
 |[],ents,i,h,_=>by have:=h.nil_right;subst this;right;simp[D4,updD]
 |kv::es,ents,i,h,hs=>by
  obtain⟨en,ens,rfl,⟨h1,h2⟩,h3⟩:=h.cons_right;have ih:=qS hk hv hx es ens (i+1) h3 (λx hx=>hs x (by simp[hx]));obtain⟨k1,a,k2,b,E,kk,rfl,hK,hE,hsz⟩:=sM hk;obtain⟨a',b',hkv⟩:=mY (hs kv (by simp));have h1':=h1;rw[hkv]at h1';have e1:=hv.two;have e2:=h1'.two;have hq:=g9 (w:=w) (k1:=k1) (k2:=k2) (a:=a) (b:=b) (a':=a') (b':=b') hK hE hsz;have hb:beqD (.agg [.int k1 a,.int k2 b]) kv.1=(a==a'&&b==b'):=by rw[hkv];rfl
  simp only[updD,hb,D4,Gk,e1,e2,hq,Gm];cases hc:(a==a'&&b==b')with
  |true =>
   left;simp only[HC,beq_iff_eq]at hc;obtain⟨rfl,rfl⟩:=hc;refine⟨0,en.val,en,by simp,by simp,by rw[e2];simp[B3],?_⟩;simp only[if_true,zxW];rw[e1]at hv;exact Gw ⟨hv,hx⟩ h3
  |false =>
   simp only[FU,if_false];rw[e1]at ih;rcases ih with⟨j,u,en',f1,f2,f3,f4⟩|⟨f1,f2⟩
   ·left;refine⟨j+1,u,en',by rw[f1];congr 3;omega,by simpa using f2,f3,?_⟩;simp only[zxV];exact Gw ⟨h1,h2⟩ f4
   ·right;exact⟨f1,by rw[f2];rfl⟩
theorem Yy {K:TypeId}{kd:Dz}{k x:D}{v xv:Value}{es:IU (D×D)}{ents:IU Ea}(hku:P.underlying K=some kd) (hk:oB P K kd k=true) (hv:RV c.I c.J w v k) (hx:RV c.I c.J w xv x) (h:br c w ents es) (hs:∀kv∈es,sameKind k kv.1=true):(∃j u en,(D7 K v ents).run P w = .ok (some (j,u)) w/\ents[j]? = some en/\B3 10000 en.key v=true/\br c w (ents.modify j λen=>{ en with key:=v,val:=xv }) (updD es k x)) ∨((D7 K v ents).run P w = .ok none w/\updD es k x=es++[(k,x)]):=by
 simp only[oB,F9]at hk;rcases hk with hk|hk
 ·rcases jo (kd:=kd) hk hv hx es ents 0 h hs with⟨j,u,en,e1,e2⟩|⟨e1,e2⟩
  ·left;exact⟨j,u,en,by rw[E6]at e1;simp only[D7,Gk,run_underlying hku,Gm,e1,GF],e2⟩
  ·right;exact⟨by simp only[D7,Gk,run_underlying hku,Gm,e1,GF],e2⟩
 ·have hf:(D7 K v ents).run P w=(D4 K v ents 0).run P w:=by
   obtain⟨k1,x1,k2,x2,E,kk,rfl,hK,hE,hsz⟩:=sM hk;have e1:=hv.two;have:kd = .array 2 E:=by rw[hK]at hku;cases hku;rfl
   subst this;simp only[D7,Gk,run_underlying hku,Gm];cases ents with
   |nil=>simp[D6,D4]
   |cons en ens=>rw[e1];simp[D6,AZ]
  rw[hf];rcases qS hk hv hx es ents 0 h hs with⟨j,u,en,e1,e2⟩|h'
  ·left;rw[E6]at e1;exact⟨j,u,en,e1,e2⟩
  ·exact .inr h'
theorem gt {m:Nat}{o o':FV}{ents:IG Ea}{clk:Nat}(ho:o = .map ents clk) (hw:w.heap[m]? = some o):(setObj m o').run P w = .ok () { w with heap:=w.heap.setIfInBounds m o' }:=by subst ho;simp[setObj,Bs,hw]
theorem jG {T K E:TypeId}{kk:Dz}{l b q:Nat}{es:IU (D×D)}{kd xd:D}{kv xv:Value}(hR:HR c H w) (hu:P.underlying T=some (.map K E)) (hku:P.underlying K=some kk) (hko:oB P K kk kd=true) (hl:H[l]? = some (.map es)) (hρ:c.ρ[l]? = some (some (b,q))) (hall:(es.all λkv=>sameKind kd kv.1)=true) (hk:RV c.I c.J w kv kd) (hx:RV c.I c.J w xv xd):∃w',(Ag T (.map (some b)) kv xv).run P w = .ok () w'/\Hs c w c w'/\zl c H c (H.set l (.map (updD es kd xd)))/\HR c (H.set l (.map (updD es kd xd))) w':=by
 obtain⟨ents,clk,hw,hes⟩:=hR.box l b q _ hρ hl;have hall':=G3.1 hall;have hchk:(Da false 10000 K kv).run P w = .ok () w:=kt 9998 hku hko hk;have hget:(getObj b).run P w = .ok (.map ents clk) w:=by simp[getObj,Bs,hw]
 have hblt:b<w.heap.size:=hR.lt l b q hρ;have fin:∀ents':IG Ea,∀clk',br c w ents'.toList (updD es kd xd) ->
   Hs c w c { w with heap:=w.heap.setIfInBounds b (.map ents' clk') }/\zl c H c (H.set l (.map (updD es kd xd)))/\HR c (H.set l (.map (updD es kd xd))) { w with heap:=w.heap.setIfInBounds b (.map ents' clk') }:=by
  intro ents' clk' hm;have ho:∀b',b'≠b->({ w with heap:=w.heap.setIfInBounds b (.map ents' clk') }:H5).heap[b']? = w.heap[b']? :=by intro b' hb';simp only;rw[EW];simp[D0 hb']
  have hat:({ w with heap:=w.heap.setIfInBounds b (.map ents' clk') }:H5).heap[b]? = some (.map ents' clk'):=by simp only;rw[EW];simp[hblt]
  have e1:Hs c w c { w with heap:=w.heap.setIfInBounds b (.map ents' clk') }:=AI (l:=l) (b:=b) (k:=q) hρ hR rfl rfl rfl (by simp) ho (by rw[hl];intro n sz h;cases h);have kp:zl c H c (H.set l (.map (updD es kd xd))):=zl.set_map hl _;exact⟨e1,kp,zz7 hρ hR hl (by simp) ho (by intro n sz h;cases h) e1 kp ⟨ents',clk',hat,hm.mono λ_ _ h=>⟨h.1.ext e1,h.2.ext e1⟩⟩⟩
 rcases Yy hku hko hk hx hes hall' with⟨j,u,en,e1,e2,e3,e4⟩|⟨e1,e2⟩
 ·have hen:ents[j]? = some en:=by simpa using e2
  obtain⟨a1,a2,a3⟩:=fin (ents.modify j λen=>{ en with key:=kv,val:=xv }) clk (by simpa using e4);refine⟨_,?_,a1,a2,a3⟩;simp only[Ag,Gk,run_underlying hu,Gm,hget,hchk,e1,GF,hen,Fi,FT,Instr.keyThatStays,e3,if_true];exact gt rfl hw
 ·obtain⟨a1,a2,a3⟩:=fin (ents.push { key:=kv,val:=xv,born:=clk }) (clk+1) (by rw[e2,IG.toList_push];exact zy.append hes (Gw ⟨hk,hx⟩ Ga));refine⟨_,?_,a1,a2,a3⟩;simp only[Ag,Gk,run_underlying hu,Gm,hget,hchk,e1,GF];exact gt rfl hw
def nz (P:HP) (c:Cx) (H:IU Box) (w:H5) (s:HG E9) (a:AV) (H':IU Box):Prop :=∃n v w' c',s.run P w = .ok n w'/\(n = .value v∨(n = .skip/\v=undef))/\Hs c w c' w'/\zl c H c' H'/\HR c' H' w'/\RA c' H' w' a v
theorem xW {s:HG Value}{a:AV}(h:yY P c H w s a):nz P c H w (do pure (zz8 (←s)):HG E9) a H:=by obtain⟨v,w',c',h1,h2,h3,h4,h5⟩:=h;exact⟨.value v,v,w',c',by simp[h1],.inl rfl,h2,h3,h4,h5⟩
theorem jn {s:HG Value}{a:AV}{H':IU Box}(h:Y8 P c H w s a H'):nz P c H w (do pure (zz8 (←s)):HG E9) a H':=by obtain⟨v,w',c',h1,h2,h3,h4,h5⟩:=h;exact⟨.value v,v,w',c',by simp[h1],.inl rfl,h2,h3,h4,h5⟩
theorem Wq {o:Hp}{a:AV}{F:Prop}(hR:HR c H w) (he:∀x,RA c H w (e x) (r x)) (hc:∀y v,y=AX v->r y=v) (h:xA P e H o.op=some (a,F)) (hF:F):nz P c H w (execOp r o) a H:=by
 have hd:=xW (SO (ty:=o.type) hR he hc h hF);cases hop:o.op<;>rw[hop]at h hd<;>first
  |(simp[xA]at h;done)
  |(simp only[execOp,hop];exact hd)
  |skip
 case nilCheck x =>
  simp only[execOp,hop];have hx:=he x;simp only[vO]at hd;simp only[xA]at h;split at h
  ·rename_i hxe;rw[hxe]at hx;generalize r x=rx at *;cases hx with
   |ptr=>exact hd
  ·rename_i hxe;rw[hxe]at hx;generalize r x=rx at *;cases hx with
   |iptr=>exact hd
  ·rename_i hxe;rw[hxe]at hx;generalize r x=rx at *;cases hx with
   |clo=>exact hd
  ·rename_i hxe;rw[hxe]at hx;generalize r x=rx at *;cases hx with
   |d h1=>cases h1 with
    |fn=>exact hd
  ·simp at h
 case call cc =>
  obtain⟨callee,args,argTypes⟩:=cc;cases callee with
  |value f=>simp[xA]at h
  |invoke a b=>simp[xA]at h
  |builtin b =>
   cases b<;>first
    |(simp[xA]at h;done)
    |(simp only[execOp,hop,resolve,vO]at hd ⊢;exact hd)
end
def cellsFrom:IU Sh->IU D->Nat->Nat->IU D
 |[],_,_,_=>[]
 |s::r,ds,i,o=>s.norm ((z1 ds i o).getD default)::cellsFrom r ds i (o+1)
def cellsOk:IU Sh->IU D->Nat->Nat->Prop
 |[],_,_,_=>IN
 |s::r,ds,i,o=>z1 ds i o=some (s.norm ((z1 ds i o).getD default))/\cellsOk r ds i (o+1)
def setC:D->Nat->IU D->D
 |.agg cs,o,ys=>.agg (putL cs o ys)
 |d,_,ys=>ys.getD 0 d
def wS (ds:IU D) (i o:Nat) (ys:IU D):IU D:=ds.modify i λd=>setC d o ys
def nX (P:HP) (E:TypeId):IQ D:=(yZ P E).bind valD
def jA (bytes:Nat) (n:Int):Prop:=0<=n/\n<=1000000000/\bytes*n<=281474976710656
def aggCs:AV->IQ (IU AV)
 |.agg cs=>some cs
 |.d (.agg cs)=>some (cs.map .d)
 |_=>none
def rR (P:HP) (e:G1->AV) (H:IU Box):Op->IQ (AV×Prop)
 |.load T a =>
  match e a with
  |.eptr l i o=>match H[l]?,uW P 9 T with
   |some (.arr _ ds),some shs=>(uE P T ((cellsFrom shs ds i o).map IH)).map λr=>(r,cellsOk shs ds i o)
   |_,_=>none
  |_=>none
 |.fieldAddr T x f =>
  match e x with
  |.eptr l i o=>match P.underlying T with
   |some (.struct fs)=>match fs[f]? with
    |some fd=>match xT P fd.type with
     |some (_+1)=>some (.eptr l i (o+fd.offset),IN)
     |_=>none
    |none=>none
   |_=>none
  |_=>none
 |.indexAddr T x i =>
  match e x with
  |.msl l=>match P.underlying T,e i,H[l]? with
   |some (.slice E),.d (.int _ n),some (.arr sz ds)=>if xT P E=some sz then some (.eptr l n.toNat 0,0<=n/\n.toNat<ds.length)else none
   |_,_,_=>none
  |_=>none
 |.call { callee:= .builtin .len,args,argTypes } =>
  match args.toList,argTypes.toList with
  |[x],[T]=>match e x with
   |.msl l=>match P.underlying T,H[l]? with
    |some (.slice _),some (.arr _ ds)=>some (.d (.int .i64 ds.length),IN)
    |_,_=>none
   |.map l=>match P.underlying T,H[l]? with
    |some (.map _ _),some (.map es)=>some (.d (.int .i64 es.length),IN)
    |_,_=>none
   |_=>none
  |_,_=>none
 |.call { callee:= .builtin .min,args,argTypes:=_ } =>
  match args.toList with
  |[x,y]=>match e x,e y with
   |.d (.int k a),.d (.int k' b)=>if k=k' then some (.d (.int k (if b<a then b else a)),IN)else none
   |_,_=>none
  |_=>none
 |.field T x f =>
  match P.underlying T,aggCs (e x)with
  |some (.struct fs),some cs=>match fs[f]? with
   |some fd=>(uE P fd.type (cs.drop fd.offset)).map λr=>(r,IN)
   |none=>none
  |_,_=>none
 |.makeSlice T x y =>
  match P.underlying T,e x,e y with
  |some (.slice E),.d (.int _ n),.d (.int _ m)=>match P.info? E,nX P E with
   |some i,some z=>if z.cells.length=i.size then some (.full (G8 n.toNat z),m=n/\jA i.bytes n)else none
   |_,_=>none
  |_,_,_=>none
 |.slice T x none (some hi) (some mx) =>
  match e x with
  |.msl l=>match P.underlying T,e hi,e mx with
   |some (.slice E),.d (.int _ h),.d (.int _ m)=>match xT P E with
    |some _=>some (.full [],h=0/\m=0)
    |none=>none
   |_,_,_=>none
  |_=>none
 |_=>none
def Wp (P:HP) (e:G1->AV) (H:IU Box) (o:Op):IQ (AV×Prop) :=match rR P e H o with
 |some r=>some r
 |none=>xA P e H o
def ME (ops:IG Hp) (d:IQ Nat):Bool :=match d with
 |some d=>ops.toList.any λo=>match o.op with
  |.assign (.tmp t)=>t==d
  |_=>false
 |none=>false
def RF (P:HP) (e:G1->AV) (H:IU Box) (ops:IG Hp) (d:IQ Nat):Op->IQ (AV×IU Box×Prop)
 |.store T a x =>
  match e a with
  |.eptr l i o=>match avCells (e x),xT P T,H[l]? with
   |some xs,some n,some (.arr sz ds)=>match xs.mapM avD1 with
    |some ys=>if ys.length=n/\o+n<=sz then some (.any,H.set l (.arr sz (wS ds i o ys)),i<ds.length)else none
    |none=>none
   |_,_,_=>none
  |_=>none
 |.makeSlice T x y =>
  if ME ops d then
   match P.underlying T,e x,e y with
   |some (.slice E),.d (.int _ n),.d (.int _ m)=>match P.info? E,nX P E with
    |some i,some z=>if z.cells.length=i.size then some (.msl H.length,H++[.arr i.size (G8 n.toNat z)],m=n/\jA i.bytes n)else none
    |_,_=>none
   |_,_,_=>none
  else none
 |.call { callee:= .builtin .append,args,argTypes } =>
  match args.toList,argTypes.toList with
  |[s,x],[T,T']=>match e s,e x with
   |.full ds,.msl l=>match P.underlying T with
    |some (.slice E)=>match P.info? E with
     |some i=>match i.zero,H[l]? with
      |some z,some (.arr sz es)=>if T=T'/\0<i.size/\0<i.bytes/\z.cells.size=i.size then some (.vec H.length (ds++es),H++[.vec (ds.length+es.length) i.size],FA ds es i.size i.bytes)else none
      |_,_=>none
     |none=>none
    |_=>none
   |_,_=>none
  |_,_=>none
 |_=>none
section
variable {P:HP}{c:Cx}{H:IU Box}{w:H5}{e:G1->AV}{r:G1->Value}
theorem Yx {sz:Nat}:∀(ds:IU D) (i j:Nat),(∀d∈ds,d.cells.length=sz)->j<sz->(ds.flatMap Gq)[i*sz+j]? = z1 ds i j:=by intro ds i j h hj;have:=sN (ds.map Gq) i j (by intro l hl;obtain⟨d,hd,rfl⟩:=Gd.1 hl;exact h d hd) hj;rw[zy9,this,G5];unfold z1;cases ds[i]? <;> rfl
theorem SM {ds:IU D}{sz i j:Nat}{x:D}(h:∀d∈ds,d.cells.length=sz) (hc:z1 ds i j=some x):i<ds.length/\j<sz:=by
 unfold z1 at hc;cases hi:ds[i]? with
 |none=>rw[hi]at hc;simp at hc
 |some d =>
  rw[hi]at hc;simp only[CZ]at hc;refine⟨?_,?_⟩
  ·rcases G4 i ds.length with h' |h'
   ·exact h'
   ·simp[Gt h']at hi
  ·have hl:=h d (GS hi);rcases G4 j d.cells.length with h' |h'
   ·omega
   ·simp[Gt h']at hc
theorem cellsFrom_len:∀(shs:IU Sh) (ds:IU D) (i o:Nat),(cellsFrom shs ds i o).length=shs.length
 |[],_,_,_=>rfl
 |_::r,ds,i,o=>by simp[cellsFrom,cellsFrom_len r]
theorem cellsFrom_get:∀(shs:IU Sh) (ds:IU D) (i o j:Nat) (x:D),cellsOk shs ds i o->(cellsFrom shs ds i o)[j]? = some x->z1 ds i (o+j)=some x
 |[],_,_,_,_,_,_,h=>by simp[cellsFrom]at h
 |s::r,ds,i,o,0,x,hk,h=>by simp[cellsFrom]at h;subst h;exact hk.1
 |s::r,ds,i,o,j+1,x,hk,h=>by simp only[cellsFrom,zzH]at h;have:=cellsFrom_get r ds i (o+1) j x hk.2 h;rw[show o+(j+1)=o+1+j by omega];exact this
theorem qR {sz:Nat}:∀(ds:IU D),(∀d∈ds,d.cells.length=sz)->(ds.flatMap Gq).length=ds.length*sz:=by intro ds h;have:=vn (ds.map Gq) (by intro l hl;obtain⟨d,hd,rfl⟩:=Gd.1 hl;exact h d hd);rw[zy9,this];simp
theorem rQ {I:Nat->Nat->Prop}{J:Nat->Prop}:∀(ds:IU D) (cs:IU Value),zy (R1 I J w) cs (ds.flatMap Gq)->∃us,zy (RV I J w) us ds/\yh us=cs
 |[],cs,h=>by have:cs=[]:=h.nil_right;subst this;exact⟨[],Ga,rfl⟩
 |d::ds,cs,h=>by
  rw[CA]at h;have h1:=h.take d.cells.length;have h2:=h.drop d.cells.length;rw[IU.take_left]at h1;rw[IU.drop_left]at h2;obtain⟨us,a1,a2⟩:=rQ ds _ h2;have key:∃u:Value,RV I J w u d/\u.cells.toList=cs.take d.cells.length:=by
   cases d with
   |agg xs=>exact⟨.agg (cs.take xs.length).toArray,⟨_,rfl,h1⟩,by simp[E7,Gq]⟩
   |_ =>
    simp only[Gq]at h1 ⊢;obtain⟨v,vs,e1,e2,e3⟩:=h1.cons_right;have:=e3.nil_right;subst this;exact⟨v,e2.rv,by rw[e1];exact e2.single⟩
  obtain⟨u,b1,b2⟩:=key;refine⟨u::us,Gw b1 a1,?_⟩;have:yh (u::us)=u.cells.toList++yh us:=by simp[yh]
  rw[this,a2,b2,CD]
theorem gq {T:TypeId}{l i o:Nat}{sz:Nat}{ds:IU D}{shs:IU Sh}{v:Value}{a:AV}(hR:HR c H w) (hx:RA c H w (.eptr l i o) v) (hl:H[l]? = some (.arr sz ds)) (h:uE P T ((cellsFrom shs ds i o).map IH)=some a) (hF:cellsOk shs ds i o):yY P c H w (DH T v) a:=by
 cases hx with
 |@eptr _ _ _ b k sz' ds' hH hρ =>
  rw[hl]at hH;cases hH;obtain⟨vs,T',h1,h2,h3⟩:=hR.box l b k _ hρ hl;have hcell:∀(j:Nat) x,(cellsFrom shs ds i o)[j]? = some x->∃u,vs[i*sz+o+j]? = some u/\R1 c.I c.J w u x:=by intro j x hj;have hc:=cellsFrom_get shs ds i o j x hF hj;obtain⟨_,h5⟩:=SM h2 hc;have:=Yx ds i (o+j) h2 h5;rw[hc]at this;obtain⟨u,hu,hr⟩:=h3.get this;exact⟨u,by rw[show i*sz+o+j=i*sz+(o+j) by omega];exact hu,hr⟩
  obtain⟨v,h4,h5⟩:=tB (P:=P) (c:=c) (H:=H) (w:=w) (b:=b) (o:=i*sz+o) (vs:=(Gp shs.length).map λj=>(vs[i*sz+o+j]?).getD undef) h ⟨by simp[cellsFrom_len],λj u y hu hy=>by
   simp only[G5]at hu hy;cases hxx:(cellsFrom shs ds i o)[j]? with
   |none=>rw[hxx]at hy;simp at hy
   |some x =>
    rw[hxx]at hy;simp at hy;subst hy;have hjl:j<shs.length:=by
     rcases G4 j shs.length with h' |h'
     ·exact h'
     ·rw[Gt (by rw[cellsFrom_len];exact h')]at hxx;cases hxx
    rw[An hjl]at hu;simp at hu;obtain⟨u',hu',hr⟩:=hcell j x hxx;rw[hu']at hu;simp at hu;subst hu;exact .d hr.rv⟩ (λj u hj=>by
   simp only[G5]at hj;have hjl:j<shs.length:=by
    rcases G4 j shs.length with h' |h'
    ·exact h'
    ·rw[Gt (by simpa using h')]at hj;simp at hj
   rw[An hjl]at hj;simp at hj;obtain⟨x,hx⟩:∃x,(cellsFrom shs ds i o)[j]? = some x:=⟨_,Ff (by rw[cellsFrom_len];exact hjl)⟩;obtain⟨u',hu',hr⟩:=hcell j x hx;rw[hu']at hj;simp at hj;subst hj;simp only[Ec,h1,DP,FU,if_false,CE];exact hu')
  exact GU hR h4 h5
theorem UW {E:TypeId}{z:Value}{x:D}(hz:yZ P E=some z) (hx:nX P E=some x) {I:Nat->Nat->Prop}{J:Nat->Prop}:RV I J w z x:=by unfold nX at hx;rw[hz]at hx;exact iD hx
theorem UV {E:TypeId}{x:D}(hx:nX P E=some x):∃z,yZ P E=some z:=by
 unfold nX at hx;cases h:yZ P E with
 |none=>rw[h]at hx;simp at hx
 |some z=>exact⟨z,rfl⟩
theorem RE {z:Value}{sz:Nat}(hz:z.cells.size=sz) (n:Nat):yh (G8 n z)=(madeCells z.cells (n*sz)).toList:=by
 subst hz;have hall:∀l∈(G8 n z).map (λ(v:Value)=>v.cells.toList),l.length=z.cells.size:=by intro l hl;obtain⟨v,hv,rfl⟩:=Gd.1 hl;rw[Bg hv];simp
 apply DO;intro k;unfold yh;by_cases hz0:z.cells.size=0
 ·have h1:(((G8 n z).map λ(v:Value)=>v.cells.toList).flatten).length=0:=by rw[vn _ hall,hz0];simp
  rw[Gt (by omega),Gt (by simp[size_madeCells,hz0])]
 ·have hk:k=k / z.cells.size*z.cells.size+k % z.cells.size:=by rw[Cy];exact(BQ _ _).symm
  have hm:k % z.cells.size<z.cells.size:=By _ (by omega);rw[hk,sN _ _ _ hall hm,←hk];by_cases hlt:k<n*z.cells.size
  ·have hd:k / z.cells.size<n:=(zzE (by omega)).2 hlt;rw[G5,Ar,Hv hd];simp only[Fi,CZ];have:(madeCells z.cells (n*z.cells.size)).toList[k]? = some (z.cells[k % z.cells.size]!):=by simp[madeCells,hlt]
   rw[this];simp[getElem!_def,hm]
  ·have hd:¬ k / z.cells.size<n:=λh=>hlt ((zzE (by omega)).1 h);rw[G5,Ar,IE hd,Gt (by simp[size_madeCells];omega)];rfl
theorem zy.rep {α β:Type}{R:α->β->Prop}{x:α}{y:β}(h:R x y):∀n,zy R (G8 n x) (G8 n y)
 |0=>Ga
 |n+1=>by rw[Am,Am];exact Gw h (zy.rep h n)
theorem dt {T E:TypeId}{i:Cv}{z:Value}{n:Int}{k1 k2:IF}(hu:P.underlying T=some (.slice E)) (hi:P.info? E=some i) (hz:i.zero=some z) (hzs:z.cells.size=i.size) (hF:jA i.bytes n):(zwy T (.int k1 n) (.int k2 n)).run P w = .ok (.slice (some ⟨w.heap.size,0,none⟩) n.toNat n.toNat) { w with heap:=w.heap.push (.cells (yh (G8 n.toNat z)).toArray E) }:=by obtain⟨h0,h1,h2⟩:=hF;have hr:=run_make (P:=P) w T E i z hu hi hz k1 k2 n n h0 (DG _) h2 (by omega);rw[hr,RE hzs,IG.toArray_toList];rfl
theorem SL {T E:TypeId}{i:Cv}{x:D}{n:Int}{k1 k2:IF}(hR:HR c H w) (hu:P.underlying T=some (.slice E)) (hi:P.info? E=some i) (hx:nX P E=some x) (hl:x.cells.length=i.size) (hF:jA i.bytes n): yY P c H w (zwy T (.int k1 n) (.int k2 n)) (.full (G8 n.toNat x)):=by
 obtain⟨z,hz⟩:=UV hx;have hz':i.zero=some z:=by unfold yZ at hz;rw[hi]at hz;simpa using hz
 have hrv:RV c.I c.J w z x:=UW hz hx;have hzs:z.cells.size=i.size:=by have:=hrv.cells.1;simp only[Ey]at this;omega
 have hall:zy (RV c.I c.J w) (G8 n.toNat z) (G8 n.toNat x):=zy.rep hrv _;have hsz:∀d∈G8 n.toNat x,d.cells.length=i.size:=λd hd=>by rw[Bg hd];exact hl
 have hrun:=dt (P:=P) (w:=w) (k1:=k1) (k2:=k2) hu hi hz' hzs hF;have hnew:=R1.new_row (T:=E) (fr:=(0,0)) (cap:=n.toNat) hR hall hsz [] (by simp);have e:=AW c w (.cells (yh (G8 n.toNat z)).toArray E) ((G8 n.toNat x).length*i.size) hR.ilt hR.jlt;refine⟨_,_,_,hrun,e,zl.imm _ _ _ _,hR.push_imm _ _,.full ?_⟩;rw[D5]at hnew;rw[Aq]at hnew ⊢;exact hnew
theorem Yw {a:AV}{v:Value}{cs:IU AV}(h:RA c H w a v) (hc:aggCs a=some cs):∃vs:IU Value,v = .agg vs.toArray/\zy (λv a=>RA c H w a v) vs cs:=by
 cases h with
 |@agg aas vs hl h =>
  simp only[aggCs,Er]at hc;subst hc;exact⟨vs,rfl,hl.symm,λi v a hv ha=>h i a v ha hv⟩
 |@d x v h =>
  cases x<;>simp only[aggCs]at hc<;>try (cases hc;done)
  simp only[Er]at hc;subst hc;obtain⟨vs,rfl,hv⟩:=h;refine⟨vs,rfl,by simp[hv.1],λi v a hv' ha=>?_⟩;simp only[G5]at ha;rename_i ds;cases hx:ds[i]? with
  |none=>rw[hx]at ha;simp at ha
  |some y=>rw[hx]at ha;simp at ha;subst ha;exact .d (hv.2 i v y hv' hx).rv
 |_=>simp[aggCs]at hc
theorem Yv {T:TypeId}{f:Nat}{fs:IG Cn}{fd:Cn}{cs:IU AV}{v:Value}{ax a:AV}(hR:HR c H w) (hx:RA c H w ax v) (hc:aggCs ax=some cs) (hu:P.underlying T=some (.struct fs)) (hf:fs[f]? = some fd) (h:uE P fd.type (cs.drop fd.offset)=some a): yY P c H w (zyI T v f) a:=by
 obtain⟨vs,rfl,hv⟩:=Yw hx hc;have hd:=hv.drop fd.offset;have e0:(zyI T (.agg vs.toArray) f).run P w=(part fd.type vs.toArray fd.offset).run P w:=by simp[zyI,run_underlying hu,hf,asAgg]
 unfold uE at h;cases hg:tC P fd.type with
 |none=>rw[hg]at h;simp at h
 |some t =>
  rw[hg]at h;cases t with
  |false =>
   simp only at h;generalize hdc:cs.drop fd.offset=dc at *;cases dc with
   |nil=>simp at h
   |cons y ys =>
    simp only[IU.head?_cons,Er]at h;subst h;obtain⟨u,us,h1,h2,_⟩:=hd.cons_right;have hu0:vs[fd.offset]? = some u:=by have:=Gv (λl=>l[0]?) h1;simpa using this
    refine GU hR (v:=u) ?_ h2;rw[e0];exact yQ hg (by simpa using hu0)
  |true =>
   simp only at h;cases hs:xT P fd.type with
   |none=>rw[hs]at h;simp at h
   |some n =>
    rw[hs]at h;simp only at h;split at h
    ·simp only[Er]at h;subst h;have h5:=hd.take n;refine GU hR (v:= .agg ((vs.drop fd.offset).take n).toArray) ?_ (.agg h5.1.symm λi a v ha hv'=>h5.2 i v a hv' ha);rw[e0];have hex:vs.toArray.extract fd.offset (fd.offset+n)=((vs.drop fd.offset).take n).toArray:=by apply FP;simp[Ab]
     simp[part,pG hg,yd hs,hex]
    ·simp at h
theorem Wo {o:Hp}{a:AV}{F:Prop}(hR:HR c H w) (he:∀x,RA c H w (e x) (r x)) (h:rR P e H o.op=some (a,F)) (hF:F):nz P c H w (execOp r o) a H:=by
 unfold rR at h;split at h
 ·rename_i T x hop;split at h
  ·rename_i l i q hx;split at h
   ·rename_i sz ds shs hl hsh;cases hla:uE P T ((cellsFrom shs ds i q).map IH)with
    |none=>rw[hla]at h;simp at h
    |some a' =>
     rw[hla]at h;simp only[Fi,Er,Dm]at h;obtain⟨rfl,rfl⟩:=h;have hxx:=he x;rw[hx]at hxx;simp only[execOp,hop];exact xW (gq hR hxx hl hla hF)
   ·cases h
  ·cases h
 ·rename_i T x f hop;split at h
  ·rename_i l i q hx;split at h
   ·rename_i fs hu;split at h
    ·rename_i fd hf;split at h
     ·rename_i n hs;cases h;have hxx:=he x;rw[hx]at hxx;simp only[execOp,hop];generalize r x=rx at *;cases hxx with
      |eptr hH hρ =>
       refine xW (GU hR (qU hu hf hs) ?_);rw[CV];exact .eptr hH hρ
     ·cases h
    ·cases h
   ·cases h
  ·cases h
 ·rename_i T x i hop;split at h
  ·rename_i l hx;split at h
   ·rename_i E k n sz ds hu hi hl;split at h
    ·rename_i hs;cases h;have hxx:=he x;rw[hx]at hxx;have hiv:=he i;rw[hi]at hiv;simp only[execOp,hop];rw[hiv.int];generalize r x=rx at *;cases hxx with
     |msl hH hρ =>
      rw[hl]at hH;cases hH;refine xW (GU hR (js hu hs hF.1 (by omega)) ?_);rw[E6];exact .eptr hl hρ
    ·cases h
   ·cases h
  ·cases h
 ·rename_i args types hop;split at h
  ·rename_i x T ha ht;split at h
   ·rename_i l hx;split at h
    ·rename_i E sz ds hu hl;cases h;have hxx:=he x;rw[hx]at hxx;have e1:args.map r = #[r x]:=by apply FP;simp[ha]
     have e2:types = #[T]:=by apply FP;simp[ht]
     simp only[execOp,hop,resolve,e1,e2];generalize r x=rx at *;cases hxx with
     |msl hH hρ =>
      rw[hl]at hH;cases hH;exact xW (GU hR (oE hu) (.d (D1 _ _)))
    ·cases h
   ·rename_i l hx;split at h
    ·rename_i K E es hu hl;cases h;have hxx:=he x;rw[hx]at hxx;have e1:args.map r = #[r x]:=by apply FP;simp[ha]
     have e2:types = #[T]:=by apply FP;simp[ht]
     simp only[execOp,hop,resolve,e1,e2];generalize r x=rx at *;cases hxx with
     |@map _ b2 _ _ hH hρ =>
      rw[hl]at hH;cases hH;obtain⟨ents,clk,g1,g2⟩:=hR.box _ _ _ _ hρ hl;have g3:ents.size=es.length:=by have:=g2.1;simpa using this
      have hget:(getObj b2).run P w = .ok (.map ents clk) w:=by simp[getObj,Bs,g1]
      have hrun:∀ty,(CU #[T] ty #[.map (some b2)]).run P w = .ok (.int .i64 es.length) w:=λty=>by rw[←g3];simp[CU,run_underlying hu,hget,goInt]
      exact xW (GU hR (hrun _) (.d (D1 _ _)))
    ·cases h
   ·cases h
  ·cases h
 ·rename_i args types hop;split at h
  ·rename_i x y ha;split at h
   ·rename_i k a1 k' b1 hx hy;split at h
    ·rename_i hk;subst hk;cases h;have h1:=he x;have h2:=he y;rw[hx]at h1;rw[hy]at h2;have e1:args.map r = #[r x,r y]:=by apply FP;simp[ha]
     simp only[execOp,hop,resolve,e1];rw[h1.int,h2.int];refine xW (GU hR (v:= .int k (if b1<a1 then b1 else a1)) ?_ (.d (D1 _ _)));simp[Fy.min_,Fy.min2]
    ·cases h
   ·cases h
  ·cases h
 ·rename_i T x f hop;split at h
  ·rename_i fs cs hu hc;split at h
   ·rename_i fd hf;cases hla:uE P fd.type (cs.drop fd.offset)with
    |none=>rw[hla]at h;simp at h
    |some a' =>
     rw[hla]at h;simp only[Fi,Er,Dm]at h;obtain⟨rfl,_⟩:=h;simp only[execOp,hop];exact xW (Yv hR (he x) hc hu hf hla)
   ·cases h
  ·cases h
 ·rename_i T x y hop;split at h
  ·rename_i E k1 n k2 m hu hx hy;split at h
   ·rename_i i z hi hz;split at h
    ·rename_i hlen;cases h;obtain⟨rfl,hF⟩:=hF;have h1:=he x;have h2:=he y;rw[hx]at h1;rw[hy]at h2;simp only[execOp,hop];rw[h1.int,h2.int];exact xW (SL hR hu hi hz hlen hF)
    ·cases h
   ·cases h
  ·cases h
 ·rename_i T x hi mx hop;split at h
  ·rename_i l hx;split at h
   ·rename_i E k1 q k2 m hu h1 h2;split at h
    ·rename_i sz hs;cases h;obtain⟨rfl,rfl⟩:=hF;have hxx:=he x;rw[hx]at hxx;have h1':=he hi;have h2':=he mx;rw[h1]at h1';rw[h2]at h2';simp only[execOp,hop,Fi,Ee];rw[h1'.int,h2'.int];generalize r x=rx at *;cases hxx with
     |@msl _ b k sz' ds' hH hρ =>
      refine xW (GU hR (v:= .slice (some ⟨b,0,none⟩) 0 0) ?_ (.full (Az _ 0)));simp only[EU,Gk,run_underlying hu,Gm,CS,Cc,GF,if_true];rw[yG (DG _) (by omega)];simp only[Gm];rw[yG (DG _) (by simp)];simp only[Gm,GF,Gk,yd hs,zyX];rfl
    ·cases h
   ·cases h
  ·cases h
 ·cases h
theorem kn {o:Hp}{a:AV}{F:Prop}(hR:HR c H w) (he:∀x,RA c H w (e x) (r x)) (hc:∀y v,y=AX v->r y=v) (h:Wp P e H o.op=some (a,F)) (hF:F):nz P c H w (execOp r o) a H:=by
 unfold Wp at h;split at h
 ·rename_i q hq;cases h;exact Wo hR he hq hF
 ·exact Wq hR he hc h hF
end
section
variable {P:HP}{c:Cx}{H:IU Box}{w:H5}{e:G1->AV}{r:G1->Value}
theorem ul {s:HG E9}{v:Value}{w':H5}{c':Cx}{a:AV}{H':IU Box}(h:s.run P w = .ok (.value v) w') (h1:Hs c w c' w') (h2:zl c H c' H') (h3:HR c' H' w') (h4:RA c' H' w' a v):nz P c H w s a H' :=⟨_,v,w',c',h,.inl rfl,h1,h2,h3,h4⟩
theorem nW {s:HG E9}{w':H5}{c':Cx}{H':IU Box}(h:s.run P w = .ok .skip w') (h1:Hs c w c' w') (h2:zl c H c' H') (h3:HR c' H' w'):nz P c H w s .any H' :=⟨_,undef,w',c',h,.inr ⟨rfl,rfl⟩,h1,h2,h3,.any _⟩
theorem gp {o:Hp}{a:AV}{H':IU Box}{F:Prop}(hR:HR c H w) (he:∀x,RA c H w (e x) (r x)) (h:um P e H o.op=some (a,H',F)) (hF:F):nz P c H w (execOp r o) a H':=by
 cases hop:o.op<;>rw[hop]at h
 case alloc T =>
  simp only[um]at h;cases hz:yZ P T with
  |none=>rw[hz]at h;simp at h
  |some z =>
   rw[hz]at h;cases h;obtain⟨h1,h2,h3,h4⟩:=dv (T:=T) hR (CN (c:=c) (H:=H) (w:=w) z.cells.toList);refine ul (c':=c.grow w.heap.size 0) ?_ h1 h2 h3 h4;simp[execOp,hop,Instr.alloc,vK hz,newVar,newRow]
 case box T x =>
  simp only[um]at h;cases hc:avCells (e x)with
  |none=>rw[hc]at h;simp at h
  |some cs =>
   rw[hc]at h;cases h;obtain⟨h1,h2,h3,h4⟩:=dv (T:=T) hR (wT (he x) hc).1;refine ul (c':=c.grow w.heap.size 0) ?_ h1 h2 h3 h4;simp[execOp,hop,Instr.box,newVar,newRow]
 case store T x y =>
  simp only[um]at h;split at h
  ·rename_i l o xs n hx hc hs;split at h
   ·rename_i T' cs hl;split at h
    ·rename_i hfit;cases h;have hxr:=he x;rw[hx]at hxr;obtain⟨hv,h1⟩:=wT (he y) hc;have hrun:∀ra,r x=ra->(execOp r ‹Hp›)=(do Dl T ra (r y);pure zzr:HG E9):=by intro ra hra;simp only[execOp,hop,hra]
     generalize hrx:r x=rx at *;cases hxr with
     |@ptr _ _ b k _ _ hH hρ =>
      rw[←hfit.1]at hs;obtain⟨w',a1,a2,a3,a4⟩:=SN (P:=P) (o:=o) hR hl hρ hv h1 hs (by omega);refine nW ?_ a2 a3 a4;rw[hrun _ rfl];simp[a1]
    ·simp at h
   ·simp at h
  ·simp at h
 case makeMap T rs =>
  cases rs with
  |some x=>simp[um]at h
  |none =>
   simp only[um]at h;cases h;obtain⟨h1,h2,h3,h4⟩:=Ny hR;refine ul (c':=c.grow w.heap.size 0) ?_ h1 h2 h3 h4;simp[execOp,hop,Instr.makeMap]
 case mapUpdate T m k x =>
  simp only[um]at h;split at h
  ·rename_i l kd xd K E hm hk hx hu;split at h
   ·rename_i es kk hl hku;split at h
    ·rename_i hko;cases h;have hmr:=he m;rw[hm]at hmr;have hrun:∀ra,r m=ra->(execOp r o)=(do Ag T ra (r k) (r x);pure zzr:HG E9):=by intro ra hra;simp only[execOp,hop,hra]
     generalize hrm:r m=rm at *;cases hmr with
     |@map _ b q _ hH hρ =>
      obtain⟨w',a1,a2,a3,a4⟩:=jG (P:=P) hR hu hku hko hl hρ hF (ku (he k) hk) (wB (he x) hx);refine nW ?_ a2 a3 a4;rw[hrun _ rfl];simp[a1]
    ·simp at h
   ·simp at h
  ·simp at h
 case call cc =>
  obtain⟨callee,args,argTypes⟩:=cc;cases callee with
  |value f=>simp[um]at h
  |invoke a b=>simp[um]at h
  |builtin b =>
   cases b<;>first
    |(simp[um]at h;done)
    |skip
   simp only[um]at h;split at h
   ·rename_i s x T T' hargs htypes;split at h
    ·rename_i hT;subst hT;have ea:args = #[s,x]:=by apply FP;simpa using hargs
     have et:argTypes = #[T,T]:=by apply FP;simpa using htypes
     subst ea;subst et;have hd:=jn (eB (ty:=o.type) hR h hF (he s) (he x));have:execOp r o=(do pure (zz8 (←Dq #[T,T] o.type #[r s,r x])):HG E9):=by
      have em:zzu r #[s,x] = #[r s,r x]:=by simp
      simp only[execOp,hop,resolve,em];rfl
     rw[this];exact hd
    ·simp at h
   ·simp at h
 all_goals (simp[um]at h)
end
theorem go {α:Type}:∀(ys A X:IU α) (o:Nat),putL (A++X) (A.length+o) ys=A++putL X o ys
 |[],_,_,_=>rfl
 |y::ys,A,X,o=>by simp only[putL];rw[IU.set_append_right _ _ (by omega),show A.length+o - A.length=o by omega,show A.length+o+1=A.length+(o+1) by omega];exact go ys A _ (o+1)
theorem dq {α:Type}:∀(ys X B:IU α) (o:Nat),o+ys.length<=X.length->putL (X++B) o ys=putL X o ys++B
 |[],_,_,_,_=>rfl
 |y::ys,X,B,o,h=>by simp only[F2]at h;simp only[putL];rw[IU.set_append_left _ _ (by omega)];exact dq ys _ B (o+1) (by simp;omega)
theorem gn {d:D}{o:Nat}{ys:IU D}(h:o+ys.length<=d.cells.length) (hy:∀y∈ys,y.cells=[y]):(setC d o ys).cells=putL d.cells o ys:=by
 cases d with
 |agg cs=>rfl
 |_ =>
  simp only[Gq,F2,FL]at h;match ys,h with
  |[],_=>rfl
  |[y],h =>
   have:o=0:=by simp at h;omega
   subst this;show y.cells=[y];exact hy y (by simp)
  |y::z::r,h=>simp at h;omega
theorem SK {sz i o:Nat}{ys:IU D}:∀{ds:IU D},(∀d∈ds,d.cells.length=sz)->i<ds.length->o+ys.length<=sz->(∀y∈ys,y.cells=[y])->(wS ds i o ys).flatMap Gq=putL (ds.flatMap Gq) (i*sz+o) ys/\(∀d∈wS ds i o ys,d.cells.length=sz)/\(wS ds i o ys).length=ds.length:=by
 intro ds h hi ho hy;refine⟨?_,?_,by simp[wS]⟩
 ·have hsp:ds=ds.take i++ds[i]::ds.drop (i+1):=by rw[←IU.drop_eq_getElem_cons hi,CD]
  have hd:ds[i].cells.length=sz:=h _ (ED hi);have hput:wS ds i o ys=ds.take i++setC ds[i] o ys::ds.drop (i+1):=by unfold wS;rw[IU.modify_eq_take_cons_drop hi]
  have hA:((ds.take i).flatMap Gq).length=i*sz:=by rw[qR _ (λd hd'=>h d (De hd')),FS];congr 1;omega
  rw[hput,Al,CA,gn (by omega) hy];conv=>rhs;rw[hsp]
  rw[Al,CA,←hA,go,dq _ _ _ _ (by omega)]
 ·intro d hd;unfold wS at hd;obtain⟨k,hk,he⟩:=EF.1 hd;rw[IU.getElem_modify]at he;have hk':k<ds.length:=by simpa using hk
  split at he
  ·rw[←he,gn (by rw[h _ (ED hk')];exact ho) hy,qT];exact h _ (ED hk')
  ·rw[←he];exact h _ (ED hk')
section
variable {P:HP}{c:Cx}{H:IU Box}{w:H5}{e:G1->AV}{r:G1->Value}
theorem Wn {a:AV}{x:D}(h:avD1 a=some x):x.cells=[x]:=by
 unfold avD1 at h;split at h<;>cases h<;>first
  |rfl
  |skip
 rename_i hx;cases x<;>first|rfl|exact Hu rfl (hx _)
theorem Yu {α β:Type}{f:α->IQ β}:∀{l:IU α}{ys:IU β},l.mapM f=some ys->∀y∈ys,∃a∈l,f a=some y
 |[],ys,h,y,hy=>by simp at h;subst h;simp at hy
 |a::l,ys,h,y,hy=>by
  rw[Db]at h;cases ha:f a with
  |none=>rw[ha]at h;simp at h
  |some x =>
   rw[ha]at h;cases hr:l.mapM f with
   |none=>rw[hr]at h;simp at h
   |some xs =>
    rw[hr]at h;simp at h;subst h;rcases IU.mem_cons.1 hy with rfl|hy
    ·exact⟨a,by simp,ha⟩
    ·obtain⟨b,hb,h2⟩:=Yu hr y hy;exact⟨b,by simp[hb],h2⟩
theorem zl.set_arr {l sz:Nat}{ds ds':IU D}(hl:H[l]? = some (.arr sz ds)) (hn:ds'.length=ds.length):zl c H c (H.set l (.arr sz ds')):=by
 intro m y hy;by_cases e:l=m
 ·subst e;rw[hl]at hy;simp at hy;subst hy;exact⟨⟨ds',xb hl,hn⟩,rfl⟩
 ·cases y<;>simp only[zD e,hy]<;>simp
theorem SJ {T:TypeId}{l i o b k sz:Nat}{ds ys:IU D}{v:Value}(hR:HR c H w) (hl:H[l]? = some (.arr sz ds)) (hρ:c.ρ[l]? = some (some (b,k))) (hv:zy (R1 c.I c.J w) v.cells.toList ys) (h1:∀u∈v.cells.toList,u.oneCell'=true) (hy:∀y∈ys,y.cells=[y]) (hs:xT P T=some ys.length) (ho:o+ys.length<=sz) (hi:i<ds.length):∃w',(Dl T (.pointer (some ⟨b,i*sz+o,none⟩)) v).run P w = .ok () w'/\Hs c w c w'/\zl c H c (H.set l (.arr sz (wS ds i o ys)))/\HR c (H.set l (.arr sz (wS ds i o ys))) w':=by
 obtain⟨vs,T',hw,h2,h3⟩:=hR.box l b k _ hρ hl;obtain⟨p1,p2,p3⟩:=SK h2 hi ho hy;have hlen:v.cells.toList.length=ys.length:=hv.1;have hvl:vs.length=ds.length*sz:=by rw[h3.1,qR _ h2]
 have hfit0:i*sz+o+ys.length<=ds.length*sz:=by have:(i+1)*sz<=ds.length*sz:=Be _ hi;rw[FC]at this;omega
 have hfit':i*sz+o+0+v.cells.toList.length<=vs.toArray.size:=by simp only[BX];omega
 have hrun:=run_storeCells_at P b (i*sz+o) T' v.cells.toList 0 vs.toArray w hw hfit' h1;simp only[DX,←jD _ _ _ (show i*sz+o+v.cells.toList.length<=vs.toArray.toList.length by simp only[Ey,BX];omega)]at hrun;let row:=putL vs (i*sz+o) v.cells.toList;have hw':(w.setRow b row.toArray).heap[b]? = some (.cells row.toArray T' (0,0)):=setRow_heap w b vs.toArray row.toArray T' (0,0) hw;have e1:Hs c w c (w.setRow b row.toArray):=AI (l:=l) (b:=b) (k:=k) hρ hR rfl rfl rfl (by simp) (λb' h=>setRow_other w b b' _ h) (by rw[hl];intro n sz h;cases h);have kp:zl c H c (H.set l (.arr sz (wS ds i o ys))):=zl.set_arr hl p3;refine⟨_,?_,e1,kp,zz7 hρ hR hl (by simp) (λb' h=>setRow_other w b b' _ h) (by intro n sz h;cases h) e1 kp ⟨row,T',hw',p2,?_⟩⟩
 ·have hsz:¬ v.cells.size≠ys.length:=by have:=hlen;simp only[Ey]at this;omega
  simp only[Dl,Gk,DL,GF,Gm,storeVar,yd hs,IE hsz];exact hrun
 ·rw[p1];exact(zy.putL (i*sz+o) h3 hv).mono λ_ _ h=>h.ext e1
theorem RD (n:Nat) (x:D):(G8 n x).flatMap Gq=(G8 n x.cells).flatten:=by rw[zy9,Cg]
theorem zy.flatten {α β:Type}{R:α->β->Prop}:∀{xs:IU (IU α)}{ys:IU (IU β)},zy (zy R) xs ys->zy R xs.flatten ys.flatten
 |xs,[],h=>by have:=h.nil_right;subst this;exact Ga
 |xs,y::ys,h=>by obtain⟨x,xs',rfl,h1,h2⟩:=h.cons_right;rw[BY,BY];exact h1.append (zy.flatten h2)
theorem Nx {E:TypeId}{sz n:Nat}{z:Value}{x:D}(hR:HR c H w) (hzx:RV c.I c.J w z x) (hl:x.cells.length=sz): let w':H5:= { w with heap:=w.heap.push (.cells (yh (G8 n z)).toArray E) }
  Hs c w (c.grow w.heap.size n) w'/\zl c H (c.grow w.heap.size n) (H++[.arr sz (G8 n x)])/\HR (c.grow w.heap.size n) (H++[.arr sz (G8 n x)]) w' /\
   RA (c.grow w.heap.size n) (H++[.arr sz (G8 n x)]) w' (.msl H.length) (.slice (some ⟨w.heap.size,0,none⟩) n n):=by
 intro w';have e1:=B6 c w (.cells (yh (G8 n z)).toArray E) n hR.ilt hR.jlt;have kp:=Ct c H w.heap.size n (.arr sz (G8 n x)) hR.len;have hat:(c.grow w.heap.size n).ρ[H.length]? = some (some (w.heap.size,n)):=by have:(c.grow w.heap.size n).ρ=c.ρ++[some (w.heap.size,n)]:=rfl;rw[this,←hR.len];simp
 refine⟨e1,kp,BG hR _ n _ ⟨yh (G8 n z),E,vr w _,λd hd=>by rw[Bg hd];exact hl,?_⟩,?_⟩
 ·have hf:yh (G8 n z)=(G8 n z.cells.toList).flatten:=by unfold yh;rw[Cg]
  have key:zy (R1 (c.grow w.heap.size n).I (c.grow w.heap.size n).J w') (G8 n z.cells.toList).flatten ((G8 n x).flatMap Gq):=by rw[RD];exact zy.flatten (zy.rep (hzx.cells.mono λ_ _ h=>h.ext e1) n)
  rw[←hf]at key;exact key
 ·have h1:(H++[Box.arr sz (G8 n x)])[H.length]? = some (.arr sz (G8 n x)):=by simp
  have:=RA.msl (w:=w') h1 hat;rw[Aq]at this;exact this
theorem Wm {ops:IG Hp}{o:Hp}{a:AV}{H':IU Box}{F:Prop}(hR:HR c H w) (he:∀x,RA c H w (e x) (r x)) (h:RF P e H ops o.dst o.op=some (a,H',F)) (hF:F):nz P c H w (execOp r o) a H':=by
 unfold RF at h;split at h
 ·rename_i T x y hop;split at h
  ·rename_i l i q hx;split at h
   ·rename_i xs n sz ds hc hs hl;split at h
    ·rename_i ys hys;split at h
     ·rename_i hfit;cases h;have hxr:=he x;rw[hx]at hxr;obtain⟨hv,h1⟩:=wT (he y) hc;have hv':=mapM_avD1 hys hv;have hyn:∀z∈ys,z.cells=[z]:=λz hz=>by obtain⟨a,_,ha⟩:=Yu hys z hz;exact Wn ha
      have hrun:∀ra,r x=ra->(execOp r o)=(do Dl T ra (r y);pure zzr:HG E9):=by intro ra hra;simp only[execOp,hop,hra]
      generalize hrx:r x=rx at *;cases hxr with
      |@eptr _ _ _ b k sz' ds' hH hρ =>
       rw[hl]at hH;cases hH;rw[←hfit.1]at hs;obtain⟨w',a1,a2,a3,a4⟩:=SJ (P:=P) (o:=q) hR hl hρ hv' h1 hyn hs (by omega) hF;refine nW ?_ a2 a3 a4;rw[hrun _ rfl];simp[a1]
     ·cases h
    ·cases h
   ·cases h
  ·cases h
 ·rename_i T x y hop;split at h
  ·split at h
   ·rename_i E k1 n k2 m hu hx hy;split at h
    ·rename_i i z hi hz;split at h
     ·rename_i hlen;cases h;obtain⟨rfl,hF⟩:=hF;have h1:=he x;have h2:=he y;rw[hx]at h1;rw[hy]at h2;obtain⟨zv,hzv⟩:=UV hz;have hz':i.zero=some zv:=by unfold yZ at hzv;rw[hi]at hzv;simpa using hzv
      have hrv:RV c.I c.J w zv z:=UW hzv hz;have hzs:zv.cells.size=i.size:=by have:=hrv.cells.1;simp only[Ey]at this;omega
      obtain⟨b1,b2,b3,b4⟩:=Nx (E:=E) (n:=m.toNat) hR hrv hlen;refine ul ?_ b1 b2 b3 b4;simp only[execOp,hop];rw[h1.int,h2.int];simp[dt (P:=P) (w:=w) (k1:=k1) (k2:=k2) hu hi hz' hzs hF]
     ·cases h
    ·cases h
   ·cases h
  ·cases h
 ·rename_i args types hop;split at h
  ·rename_i s x T T' hargs htypes;split at h
   ·rename_i ds l hs hx;split at h
    ·rename_i E hu;split at h
     ·rename_i i hi;split at h
      ·rename_i z sz es hz hl;split at h
       ·rename_i hpos;obtain⟨rfl,hp1,hp2,hp3⟩:=hpos;cases h;have hsr:=he s;rw[hs]at hsr;have hxr:=he x;rw[hx]at hxr;have ea:args = #[s,x]:=by apply FP;simpa using hargs
        have et:types = #[T,T]:=by apply FP;simpa using htypes
        subst ea;subst et;have:execOp r o=(do pure (zz8 (←Dq #[T,T] o.type #[r s,r x])):HG E9):=by
         have em:zzu r #[s,x] = #[r s,r x]:=by simp
         simp only[execOp,hop,resolve,em];rfl
        rw[this];generalize r s=rs at *;generalize r x=rx at *;refine jn ?_;cases hsr with
        |@full _ ad n hsr =>
         cases hxr with
         |@msl _ b k sz' es' hH hρ =>
          rw[hl]at hH;cases hH;by_cases h0:0<es.length
          ·obtain⟨vs,T',g1,g2,g3⟩:=hR.box l b k _ hρ hl;obtain⟨us,u1,u2⟩:=rQ es vs g3;refine dx hR hu hi hz hp3 hsr ⟨us,u1,λj u hj=>?_⟩ hF hp2 h0;rw[u2]at hj;simp only[Ec,g1,E6,DP,FU,if_false,CE];exact hj
          ·have hes:es=[]:=Df (by omega);subst hes;obtain⟨h1,h2,h3⟩:=AS (n:=ds.length+([]:IU D).length) (sz:=i.size) hR;refine⟨_,w,_,uV hu hi (GE _) (.inr ⟨_,_,rfl⟩),h3,h2,h1,?_⟩;rw[D5];exact Bn (n:=ds.length+([]:IU D).length) (sz:=i.size) hsr (by simp) (by simp) (λ_=>.inl rfl)
       ·cases h
      ·cases h
     ·cases h
    ·cases h
   ·cases h
  ·cases h
 ·cases h
end
section
mutual
def AV.under (n:Nat):AV->Bool
 |.ptr l _=>decide (l<n)
 |.vec l _=>decide (l<n)
 |.map l=>decide (l<n)
 |.clo _ a b=>AV.unders n a&&AV.unders n b
 |.tup a=>AV.unders n a
 |.agg a=>AV.unders n a
 |.opt _ _ x=>AV.under n x
 |.yld l=>decide (l<n)
 |.msl l=>decide (l<n)
 |.eptr l _ _=>decide (l<n)
 |_=>true
def AV.unders (n:Nat):IU AV->Bool
 |[]=>true
 |a::aas=>AV.under n a&&AV.unders n aas
end
theorem xK {n:Nat}:∀{aas:IU AV}{i:Nat}{a:AV},AV.unders n aas=true->aas[i]? = some a->a.under n=true
 |[],_,_,_,h=>by simp at h
 |a::aas,0,b,h,hi=>by simp[AV.unders]at h;simp at hi;subst hi;exact h.1
 |a::aas,i+1,b,h,hi=>by simp[AV.unders]at h;simp at hi;exact xK h.2 hi
def Box.under (n:Nat):Box->Bool
 |.cells _ cs=>AV.unders n cs
 |.loop tm _ _ _ _ _=>AV.unders n tm
 |_=>true
def Cx.take (c:Cx) (n:Nat):Cx:= { c with ρ:=c.ρ.take n }
theorem zG {α:Type}{xs:IU α}{n l:Nat}(h:l<n):(xs.take n)[l]? = xs[l]? :=by rw[Fa,Hv h]
theorem zP {α:Type}{xs:IU α}{n l:Nat}{x:α}(h:(xs.take n)[l]? = some x):l<n/\xs[l]? = some x:=by
 rw[Fa]at h;split at h
 ·exact⟨by assumption,h⟩
 ·simp at h
section
variable {P:HP}{c:Cx}{H:IU Box}{w:H5}{n:Nat}
theorem RA.take {a:AV}{v:Value}(h:RA c H w a v):a.under n=true->RA (c.take n) (H.take n) w a v:=by
 induction h with
 |d h=>intro _;exact .d h
 |ptr hH h=>intro hb;simp[AV.under]at hb;exact .ptr (by rw[zG hb];exact hH) (by show(c.ρ.take n)[_]? = _;rw[zG hb];exact h)
 |iptr h=>intro _;exact .iptr h
 |clo hf hc _ _ ih1 ih2 =>
  intro hb;simp[AV.under]at hb;exact .clo hf hc (λi a v ha hv=>ih1 i a v ha hv (xK hb.1 ha)) (λi a v ha hv=>ih2 i a v ha hv (xK hb.2 ha))
 |full h=>intro _;exact .full h
 |nils=>intro _;exact .nils
 |nilf=>intro _;exact .nilf
 |fsym o=>intro _;exact .fsym o
 |vec h hH hn he =>
  intro hb;simp[AV.under]at hb;refine .vec h (by rw[zG hb];exact hH) hn (λe=>?_);rcases he e with h1|⟨b,h1,h2⟩
  ·exact .inl h1
  ·exact .inr ⟨b,h1,by show(c.ρ.take n)[_]? = _;rw[zG hb];exact h2⟩
 |map hH h=>intro hb;simp[AV.under]at hb;exact .map (by rw[zG hb];exact hH) (by show(c.ρ.take n)[_]? = _;rw[zG hb];exact h)
 |tup hl _ ih=>intro hb;simp only[AV.under]at hb;exact .tup hl λi a v ha hv=>ih i a v ha hv (xK hb ha)
 |agg hl _ ih=>intro hb;simp only[AV.under]at hb;exact .agg hl λi a v ha hv=>ih i a v ha hv (xK hb ha)
 |any v=>intro _;exact .any v
 |opt g p x v=>intro _;exact .opt g p x v
 |msl hH h=>intro hb;simp[AV.under]at hb;exact .msl (by rw[zG hb];exact hH) (by show(c.ρ.take n)[_]? = _;rw[zG hb];exact h)
 |eptr hH h=>intro hb;simp[AV.under]at hb;exact .eptr (by rw[zG hb];exact hH) (by show(c.ρ.take n)[_]? = _;rw[zG hb];exact h)
 |yld hH h=>intro hb;simp[AV.under]at hb;exact .yld (by rw[zG hb];exact hH) (by show(c.ρ.take n)[_]? = _;rw[zG hb];exact h)
theorem HR.take (hR:HR c H w) (hb:((H.take n).all (Box.under n))=true):HR (c.take n) (H.take n) w where
 len:=by simp[Cx.take,hR.len]
 inj l l' b k k' h1 h2:=hR.inj l l' b k k' (zP h1).2 (zP h2).2
 box l b k x h1 h2:=by
  have h3:=hR.box l b k x (zP h1).2 (zP h2).2;cases x with
  |cells T cs =>
   obtain⟨vs,h4,h5⟩:=h3;have hbb:=G3.1 hb _ (GS h2);exact⟨vs,h4,h5.1,λi v a hv ha=>(h5.2 i v a hv ha).take (xK hbb ha)⟩
  |map es=>exact h3
  |vec m sz=>exact h3
  |dead=>trivial
  |arr sz ds=>exact h3
  |loop tm ps asn bd pend st =>
   obtain⟨r,h4,h5,h6,h7,h8,h9,h10⟩:=h3;have hbb:=G3.1 hb _ (GS h2);exact⟨r,h4,h5,h6,h7,h8,h9,h10.1,λi v a hv ha=>(h10.2 i v a hv ha).take (xK hbb ha)⟩
 non l x h1 h2:=hR.non l x (zP h1).2 (zP h2).2
 lt l b k h1:=hR.lt l b k (zP h1).2
 ilt:=hR.ilt
 jlt:=hR.jlt
 iap b o l k hi h1:=by obtain⟨m,sz,h2,h3⟩:=hR.iap b o l k hi (zP h1).2;exact⟨m,sz,by rw[zG (zP h1).1];exact h2,h3⟩
 jap r l k hr h1:=hR.jap r l k hr (zP h1).2
theorem Ext.take (c:Cx) (w:H5) (n:Nat):Hs c w (c.take n) w :=⟨rfl,rfl,rfl,λ_ _ h=>h,λ_ h=>h,λ_ _ _=>rfl,λ_ _=>rfl,GE _,λ_ _ _=>rfl,λ_ _ h=>.inl h,λ_ h=>.inl h,λl _ k h=>.inl ⟨l,k,(zP h).2⟩⟩
def xj (c:Cx) (H:IU Box) (w:H5) (tmps:IG Value) (a:AV) (v:Value):Prop :=match a with
 |.opt g p x=>(tmps[g]? = some (.bool p)->RA c H w x v)/\(tmps[g]? ≠ some (.bool p)->v=undef)
 |a=>RA c H w a v
def Nw (c:Cx) (H:IU Box) (w:H5) (tmps:IG Value) (tm:IU AV):Prop:=zy (λv a=>xj c H w tmps a v) tmps.toList tm
theorem xj.ext {c' H' w' tmps a v} (e:Hs c w c' w') (k:zl c H c' H') (h:xj c H w tmps a v):xj c' H' w' tmps a v:=by
 cases a<;>simp only[xj]at h ⊢ <;> first
  |exact RA.ext e k h
  |exact⟨λhg=>RA.ext e k (h.1 hg),h.2⟩
theorem Nw.ext {c' H' w' tmps tm} (e:Hs c w c' w') (k:zl c H c' H') (h:Nw c H w tmps tm):Nw c' H' w' tmps tm:=h.mono λ_ _ h=>h.ext e k
def vI (rd:IQ Nat):Fence:= { zz9 with round:=rd }
theorem jm {rd:IQ Nat}{n:Nat}{f:Fp}{args:IG Value}{R:Ending->H5->Prop}(h:Ef P f args w R):CallsIn (vI rd) n P f args w R :=(callsIn_wide (n:=n)).2 h
def mark (m:Nat):Co:= { target:= .collected m,args:= #[] }
def i7 (nb:Nat) (c:Cx) (w:H5) (ds:IU Co):Prop :=nb<=w.heap.size/\∃ms:IU Nat,ds=ms.map mark/\ms.Nodup/\∀m∈ms,nb<=m/\w.heap[m]? = some (.deferred (some []))/\(∀l k:Nat,c.ρ[l]? ≠ some (some (m,k)))/\(∀o,¬ c.I m o)/\¬ c.J m
theorem i7.nil {nb:Nat}(h:nb<=w.heap.size):i7 nb c w []:=⟨h,[],rfl,IU.nodup_nil,λm h=>by cases h⟩
theorem i8 {b:Nat}{o:FV}(h:w.heap[b]? = some o):b<w.heap.size:=by
 rcases G4 b w.heap.size with h' |h'
 ·exact h'
 ·rw[IG.getElem?_eq_none h']at h;cases h
theorem i7.ext {nb:Nat}{c':Cx}{w':H5}{ds:IU Co}(e:Hs c w c' w') (h:i7 nb c w ds):i7 nb c' w' ds:=by
 obtain⟨h0,ms,h1,h2,h3⟩:=h;refine⟨EN h0 e.size,ms,h1,h2,λm hm=>?_⟩;obtain⟨a1,a2,a3,a4,a5⟩:=h3 m hm;have hlt:=i8 a2;refine⟨a1,by rw[e.frame m hlt a3];exact a2,λl k hl=>?_,λo hi=>?_,λhj=>?_⟩
 ·rcases e.fresh l m k hl with⟨l',k',h'⟩|h'
  ·exact a3 l' k' h'
  ·omega
 ·rcases e.inew m o hi with h' |h' |⟨l,k,h'⟩
  ·exact a4 o h'
  ·omega
  ·exact a3 l k h'
 ·rcases e.jnew m hj with h' |h'
  ·exact a5 h'
  ·omega
structure Rep (G:Nat->IQ (IU D)) (nb:Nat) (c:Cx) (H:IU Box) (w:H5) (tm:IU AV) (a:HA):Prop where
 hr:HR c H w
 gr:GR G c w
 tm:Nw c H w a.tmps tm
 df:i7 nb c w a.defers
def mT (G:Nat->IQ (IU D)) (nb:Nat) (n:Nat) (c:Cx) (H:IU Box) (w:H5) (Q:GW->IU AV->IU Box->Prop) (e:GW) (a:HA) (w':H5):Prop :=∃c' tm' H',Q e tm' H'/\Rep G nb c' H' w' tm' a/\Hs c w c' w'/\zl c (H.take n) c' H'
structure PW (P:HP) (G:Nat->IQ (IU D)) (rd:IQ Nat) (n:Nat) (code:He) (tm:IU AV) (H:IU Box) (Q:GW->IU AV->IU Box->Prop):Prop where
 run:∀nb c a w,Rep G nb c H w tm a->code.wpIn (vI rd) 0 P (mT G nb n c H w Q) a w
def bq (I:Nat->Nat->Prop) (J:Nat->Prop) (w:H5) (v:Value) (rs:IU D):Prop :=match rs with
 |[d]=>RV I J w v d
 |rs=>∃vs:IU Value,v = .tuple vs.toArray/\zy (RV I J w) vs rs
structure PFn (P:HP) (G:Nat->IQ (IU D)) (f:Fp) (ds:IU D) (Q:IU D->Prop):Prop where
 ex:∃rs,Q rs
 run:∀(c:Cx) (w:H5) (vs:IU Value),c.ρ=[]->HR c [] w->GR G c w->zy (RV c.I c.J w) vs ds ->
  Ef P f vs.toArray w λe w'=>∃v rs c',e = .returned v/\Q rs/\c'.ρ=[]/\Hs c w c' w'/\HR c' [] w'/\bq c'.I c'.J w' v rs
structure PFnF (P:HP) (G:Nat->IQ (IU D)) (f:Fp) (ds:IU D) (Q:IU D->Prop):Prop where
 run:∀(c:Cx) (w:H5) (vs:IU Value),c.ρ=[]->HR c [] w->GR G c w->zy (RV c.I c.J w) vs ds ->
  Ef P f vs.toArray w λe w'=>∃v l c',e = .returned v/\Q l/\c'.ρ=[]/\Hs c w c' w'/\HR c' [] w'/\RA c' [] w' (.full l) v
theorem PFnF.mono {G f ds} {Q Q':IU D->Prop}(h:PFnF P G f ds Q) (hq:∀rs,Q rs->Q' rs):PFnF P G f ds Q' :=⟨λc w vs a b d e=>(h.run c w vs a b d e).mono λ_ _ ⟨v,l,c',e1,e2,e3⟩=>⟨v,l,c',e1,hq _ e2,e3⟩⟩
theorem PFn.mono {G f ds} {Q Q':IU D->Prop}(h:PFn P G f ds Q) (hq:∀rs,Q rs->Q' rs):PFn P G f ds Q':=by obtain⟨⟨rs,h0⟩,h1⟩:=h;refine⟨⟨rs,hq rs h0⟩,λc w vs a b d e=>(h1 c w vs a b d e).mono λen w' h=>?_⟩;obtain⟨v,rs,c',e1,e2,e3⟩:=h;exact⟨v,rs,c',e1,hq rs e2,e3⟩
theorem HR.nil (hR:HR c H w):HR { c with ρ:=[] } [] w where
 len:=rfl
 inj l l' b k k' h:=by simp at h
 box l b k x h:=by simp at h
 non l x h:=by simp at h
 lt l b k h:=by simp at h
 ilt:=hR.ilt
 jlt:=hR.jlt
 iap b o l k hi h:=by simp at h
 jap r l k hr h:=by simp at h
theorem sK {c':Cx}{w':H5}(hR:HR c H w) (e:Hs { c with ρ:=[] } w c' w') (hR':HR c' [] w'): let c2:Cx:= { c' with ρ:=c.ρ }
  Hs c w c2 w'/\zl c H c2 H/\HR c2 H w':=by
 intro c2;have e2:Hs c w c2 w':=by
  refine⟨e.os,e.tape,e.output,e.isub,e.jsub,e.icell,e.jobj,e.size,λb hb _=>e.frame b hb (by simp),λb o h=>?_,e.jnew,λl b k h=>.inl ⟨l,k,h⟩⟩;rcases e.inew b o h with h1|h1|⟨l,k,h1⟩
  ·exact .inl h1
  ·exact .inr (.inl h1)
  ·simp at h1
 have kp:zl c H c2 H:=GV c H;refine⟨e2,kp,⟨hR.len,hR.inj,λl b k x h1 h2=>(hR.box l b k x h1 h2).ext e2 kp (e.frame b (hR.lt l b k h1) (by simp)),hR.non,λl b k h1=>F4 (hR.lt l b k h1) e.size,hR'.ilt,hR'.jlt,λb o l k hi h1=>?_,λr l k hr h1=>?_⟩⟩
 ·rcases e.inew b o hi with h2|h2|⟨l',k',h2⟩
  ·exact hR.iap b o l k h2 h1
  ·have:=hR.lt l b k h1;omega
  ·simp at h2
 ·rcases e.jnew r hr with h2|h2
  ·exact hR.jap r l k h2 h1
  ·have:=hR.lt l r k h1;omega
end
end
open Go.Sx renaming Rep->G9
open Go.Sx.AV renaming unders->Eb
open Go.Sx.Box renaming under->ET
open Go.Sx.Ext renaming take->DU
structure PCall (P:HP) (G:Nat->IQ (IU D)) (f:Fp) (aas:IU AV) (H:IU Box) (Q:IU D->IU Box->Prop):Prop where
 ex:∃rs H',Q rs H'
 run:∀(c:Cx) (w:H5) (vs:IU Value),HR c H w->GR G c w->zy (λv a=>RA c H w a v) vs aas ->
  Ef P f vs.toArray w λe w'=>∃v rs c' H',e = .returned v/\Q rs H'/\H'.length=H.length/\Hs c w c' w'/\zl c H c' H'/\HR c' H' w'/\bq c'.I c'.J w' v rs
theorem PCall.mono {P G f aas H} {Q Q':IU D->IU Box->Prop}(h:PCall P G f aas H Q) (hq:∀rs H',Q rs H'->Q' rs H'):PCall P G f aas H Q':=by obtain⟨⟨rs,H',h0⟩,h1⟩:=h;refine⟨⟨rs,H',hq _ _ h0⟩,λc w vs a b d=>(h1 c w vs a b d).mono λen w' h=>?_⟩;obtain⟨v,rs,c',H',e1,e2,e3⟩:=h;exact⟨v,rs,c',H',e1,hq _ _ e2,e3⟩
structure PYield (P:HP) (G:Nat->IQ (IU D)) (l:Nat) (aas:IU AV) (H:IU Box) (Q:IU D->IU Box->Prop):Prop where
 ex:∃rs H',Q rs H'
 run:∀(c:Cx) (w:H5) (vs:IU Value) (b k:Nat),HR c H w->GR G c w->c.ρ[l]? = some (some (b,k))->zy (λv a=>RA c H w a v) vs aas ->
  ∃f tmps asn bd,(Instr.yield b vs.toArray).run P w = .ok (.round b f tmps asn bd) w/\RoundIn zz9 0 P b f tmps asn bd w λe w'=>∃v rs c' H',e = .returned v/\Q rs H'/\H'.length=H.length/\Hs c w c' w'/\zl c H c' H'/\HR c' H' w'/\bq c'.I c'.J w' v rs
theorem PYield.mono {P G l aas H} {Q Q':IU D->IU Box->Prop}(h:PYield P G l aas H Q) (hq:∀rs H',Q rs H'->Q' rs H'):PYield P G l aas H Q':=by obtain⟨⟨rs,H',h0⟩,h1⟩:=h;refine⟨⟨rs,H',hq _ _ h0⟩,λc w vs b k a1 a2 a3 a4=>?_⟩;obtain⟨f,tmps,asn,bd,h2,h3⟩:=h1 c w vs b k a1 a2 a3 a4;refine⟨f,tmps,asn,bd,h2,h3.mono λen w' h=>?_⟩;obtain⟨v,rs,c',H',e1,e2,e3⟩:=h;exact⟨v,rs,c',H',e1,hq _ _ e2,e3⟩
section
variable {c:Cx}{H:IU Box}{w:H5}{n:Nat}
theorem rP {α:Type}{xs ys:IU α}{l:Nat}(h:l<xs.length):(xs++ys)[l]? = xs[l]? :=Ez h
theorem gm {α:Type}{xs ys:IU α}{l:Nat}(h:xs.length<=l):(xs++ys)[l]? = ys[l - xs.length]? :=EG h
theorem RA.more {ρ2:IU (IQ (Nat×Nat))}{H2:IU Box}(hl:c.ρ.length=H.length) {av:AV}{v:Value}(h:RA c H w av v):RA { c with ρ:=c.ρ++ρ2 } (H++H2) w av v:=by
 have hH:∀(l:Nat) x,H[l]? = some x->(H++H2)[l]? = some x:=λl x hx=>by
  have:l<H.length:=by rcases G4 l H.length with h|h;exact h;rw[Gt h]at hx;cases hx
  rw[rP this];exact hx
 have hρ:∀(l:Nat) x,c.ρ[l]? = some x->(c.ρ++ρ2)[l]? = some x:=λl x hx=>by
  have:l<c.ρ.length:=by rcases G4 l c.ρ.length with h|h;exact h;rw[Gt h]at hx;cases hx
  rw[rP this];exact hx
 induction h with
 |d h=>exact .d h
 |ptr h1 h2=>exact .ptr (hH _ _ h1) (hρ _ _ h2)
 |iptr h=>exact .iptr h
 |clo hf hc _ _ ih1 ih2=>exact .clo hf hc ih1 ih2
 |full h=>exact .full h
 |nils=>exact .nils
 |nilf=>exact .nilf
 |fsym o=>exact .fsym o
 |vec h h1 hn he =>
  refine .vec h (hH _ _ h1) hn λhl=>?_;rcases he hl with h1|⟨b,h1,h2⟩
  ·exact .inl h1
  ·exact .inr ⟨b,h1,hρ _ _ h2⟩
 |map h1 h2=>exact .map (hH _ _ h1) (hρ _ _ h2)
 |tup hl _ ih=>exact .tup hl ih
 |agg hl _ ih=>exact .agg hl ih
 |any v=>exact .any v
 |opt g p x v=>exact .opt g p x v
 |yld h1 h2=>exact .yld (hH _ _ h1) (hρ _ _ h2)
 |msl h1 h2=>exact .msl (hH _ _ h1) (hρ _ _ h2)
 |eptr h1 h2=>exact .eptr (hH _ _ h1) (hρ _ _ h2)
theorem qW.more {ρ2:IU (IQ (Nat×Nat))}{H2:IU Box}(hl:c.ρ.length=H.length) {b k:Nat}{x:Box}(h:qW c H w b k x):qW { c with ρ:=c.ρ++ρ2 } (H++H2) w b k x:=by
 cases x with
 |cells T cs=>obtain⟨vs,h1,h2⟩:=h;exact⟨vs,h1,h2.mono λ_ _ h=>h.more hl⟩
 |map es=>exact h
 |vec n sz=>exact h
 |dead=>trivial
 |arr sz ds=>exact h
 |loop tm ps asn bd pend st=>obtain⟨r,h1,h2,h3,h4,h5,h6,h7⟩:=h;exact⟨r,h1,h2,h3,h4,h5,h6,h7.mono λ_ _ h=>h.more hl⟩
theorem dp (hn:n<=H.length) (hR:HR c H w) {c':Cx}{w':H5}{H1:IU Box}(e:Hs (c.take n) w c' w') (kp:zl (c.take n) (H.take n) c' H1) (hl:H1.length=(H.take n).length) (hR':HR c' H1 w'): let c2:Cx:= { c' with ρ:=c'.ρ++c.ρ.drop n }
  let H2:=H1++H.drop n;Hs c w c2 w'/\zl c H c2 H2/\HR c2 H2 w':=by
 intro c2 H2;have hl1:H1.length=n:=by rw[hl,FS];omega
 have hl2:c'.ρ.length=n:=by rw[hR'.len,hl1]
 have tk:∀(l:Nat) x,(c.take n).ρ[l]? = some x->l<n/\c.ρ[l]? = some x:=λl x h=>zP h;have glt:∀l,l<n->c2.ρ[l]? = c'.ρ[l]? :=λl h=>rP (by omega);have gge:∀l,n<=l->c2.ρ[l]? = c.ρ[l]? :=λl h=>by show(c'.ρ++c.ρ.drop n)[l]? = _;rw[gm (by omega),Ds,hl2];congr 1;omega
 have Hlt:∀l,l<n->H2[l]? = H1[l]? :=λl h=>rP (by omega);have Hge:∀l,n<=l->H2[l]? = H[l]? :=λl h=>by show(H1++H.drop n)[l]? = _;rw[gm (by omega),Ds,hl1];congr 1;omega
 have apart:∀l b k,n<=l->c.ρ[l]? = some (some (b,k))->∀l' k':Nat,(c.take n).ρ[l']? ≠ some (some (b,k')):=by intro l b k hge h l' k' h';obtain⟨h1,h2⟩:=tk _ _ h';have:=hR.inj l l' b k k' h h2;omega
 have e2:Hs c w c2 w':=by
  refine⟨e.os,e.tape,e.output,e.isub,e.jsub,e.icell,e.jobj,e.size,λb hb h=>e.frame b hb λl k h'=>h l k (tk _ _ h').2,λb o h=>?_,e.jnew,λl b k h=>?_⟩
  ·rcases e.inew b o h with h1|h1|⟨l,k,h1⟩
   ·exact .inl h1
   ·exact .inr (.inl h1)
   ·exact .inr (.inr ⟨l,k,(tk _ _ h1).2⟩)
  ·rcases G4 l n with hlt|hge
   ·rw[glt l hlt]at h;rcases e.fresh l b k h with⟨l',k',h1⟩|h1
    ·exact .inl ⟨l',k',(tk _ _ h1).2⟩
    ·exact .inr h1
   ·rw[gge l hge]at h;exact .inl ⟨l,k,h⟩
 have k2:zl c H c2 H2:=by
  intro l x hx;rcases G4 l n with hlt|hge
  ·have h1:=kp l x (by rw[zG hlt];exact hx);have e3:(c.take n).ρ[l]? = c.ρ[l]? :=by show(c.ρ.take n)[l]? = _;rw[zG hlt]
   cases x<;>simp only[Hlt l hlt,glt l hlt,←e3]<;>exact h1
  ·cases x<;>simp only[Hge l hge,gge l hge,hx]<;>simp
 refine⟨e2,k2,⟨?_,?_,?_,?_,?_,hR'.ilt,hR'.jlt,?_,?_⟩⟩
 ·show(c'.ρ++c.ρ.drop n).length=(H1++H.drop n).length;simp[hl1,hl2,hR.len]
 ·intro l l' b k k' h h';have mixed:∀l l' k k',l<n->n<=l'->c'.ρ[l]? = some (some (b,k))->c.ρ[l']? = some (some (b,k'))->HD:=by
   intro l l' k k' h1 h2 h3 h4;rcases e.fresh l b k h3 with⟨l'',k'',h5⟩|h5
   ·exact apart l' b k' h2 h4 l'' k'' h5
   ·have:=hR.lt l' b k' h4;omega
  rcases G4 l n with h1|h1<;>rcases G4 l' n with h2|h2
  ·rw[glt l h1]at h;rw[glt l' h2]at h';exact hR'.inj l l' b k k' h h'
  ·rw[glt l h1]at h;rw[gge l' h2]at h';exact(mixed l l' k k' h1 h2 h h').elim
  ·rw[gge l h1]at h;rw[glt l' h2]at h';exact(mixed l' l k' k h2 h1 h' h).elim
  ·rw[gge l h1]at h;rw[gge l' h2]at h';exact hR.inj l l' b k k' h h'
 ·intro l b k x h hx;rcases G4 l n with h1|h1
  ·rw[glt l h1]at h;rw[Hlt l h1]at hx;exact(hR'.box l b k x h hx).more hR'.len
  ·rw[gge l h1]at h;rw[Hge l h1]at hx;exact(hR.box l b k x h hx).ext e2 k2 (e.frame b (hR.lt l b k h) (apart l b k h1 h))
 ·intro l x h hx;rcases G4 l n with h1|h1
  ·rw[glt l h1]at h;rw[Hlt l h1]at hx;exact hR'.non l x h hx
  ·rw[gge l h1]at h;rw[Hge l h1]at hx;exact hR.non l x h hx
 ·intro l b k h;rcases G4 l n with h1|h1
  ·rw[glt l h1]at h;exact hR'.lt l b k h
  ·rw[gge l h1]at h;exact F4 (hR.lt l b k h) e.size
 ·intro b o l k hi h;rcases G4 l n with h1|h1
  ·rw[glt l h1]at h;rw[Hlt l h1];exact hR'.iap b o l k hi h
  ·rw[gge l h1]at h;rw[Hge l h1];rcases e.inew b o hi with h2|h2|⟨l',k',h2⟩
   ·exact hR.iap b o l k h2 h
   ·have:=hR.lt l b k h;omega
   ·exact(apart l b k h1 h l' k' h2).elim
 ·intro r l k hr h;rcases G4 l n with h1|h1
  ·rw[glt l h1]at h;exact hR'.jap r l k hr h
  ·rw[gge l h1]at h;rcases e.jnew r hr with h2|h2
   ·exact hR.jap r l k h2 h
   ·have:=hR.lt l r k h;omega
end
mutual
def AV.top:AV->Nat
 |.ptr l _=>l+1
 |.vec l _=>l+1
 |.map l=>l+1
 |.yld l=>l+1
 |.msl l=>l+1
 |.eptr l _ _=>l+1
 |.clo _ a b=>max (AV.tops a) (AV.tops b)
 |.tup a=>AV.tops a
 |.agg a=>AV.tops a
 |.opt _ _ x=>AV.top x
 |_=>0
def AV.tops:IU AV->Nat
 |[]=>0
 |a::aas=>max (AV.top a) (AV.tops aas)
end
def Box.top:Box->Nat
 |.cells _ cs=>AV.tops cs
 |.loop tm _ _ _ _ _=>AV.tops tm
 |_=>0
def topsH:IU Box->Nat
 |[]=>0
 |x::r=>max x.top (topsH r)
def ND (H:IU Box):Nat->Nat->Nat
 |0,n=>n
 |f+1,n=>ND H f (max n (topsH (H.take n)))
def exAV:AV->(AV->Prop)->Prop
 |.d (.int k _),K=>∃n,K (.d (.int k n))
 |.d (.bool _),K=>∃b,K (.d (.bool b))
 |.d (.str _),K=>∃s,K (.d (.str s))
 |.d (.sl _),K=>∃l,K (.d (.sl l))
 |.full _,K=>∃l,K (.d (.sl l))
 |.vec t _,K=>∃l,K (.vec t l)
 |a,K=>K a
def exAVs:IU AV->(IU AV->Prop)->Prop
 |[],K=>K []
 |a::aas,K=>exAV a λa'=>exAVs aas λaas'=>K (a'::aas')
def exBox:Box->(Box->Prop)->Prop
 |.cells T cs,K=>exAVs cs λcs'=>K (.cells T cs')
 |.map _,K=>∃es,K (.map es)
 |.vec _ sz,K=>∃n,K (.vec n sz)
 |.dead,K=>K .dead
 |.arr sz _,K=>∃ds,K (.arr sz ds)
 |.loop tm ps asn bd _ _,K=>∃pend st,K (.loop tm ps asn bd pend st)
def exH:IU Box->(IU Box->Prop)->Prop
 |[],K=>K []
 |x::r,K=>exBox x λx'=>exH r λr'=>K (x'::r')
theorem SI {a:AV}{K:AV->Prop}(h:exAV a K):∃x,K x:=by
 unfold exAV at h;split at h<;>first
  |exact⟨_,h⟩
  |(obtain⟨y,h⟩:=h;exact⟨_,h⟩)
theorem exAVs_some:∀{l:IU AV}{K:IU AV->Prop},exAVs l K->∃x,K x
 |[],_,h=>⟨_,h⟩
 |_::_,_,h=>by obtain⟨a,h1⟩:=SI h;obtain⟨aas,h2⟩:=exAVs_some h1;exact⟨_,h2⟩
theorem Wl {x:Box}{K:Box->Prop}(h:exBox x K):∃y,K y:=by
 cases x with
 |cells T cs=>obtain⟨y,h⟩:=exAVs_some h;exact⟨_,h⟩
 |map es=>obtain⟨y,h⟩:=h;exact⟨_,h⟩
 |vec n sz=>obtain⟨y,h⟩:=h;exact⟨_,h⟩
 |dead=>exact⟨_,h⟩
 |arr sz ds=>obtain⟨y,h⟩:=h;exact⟨_,h⟩
 |loop tm ps asn bd pend st=>obtain⟨y,z,h⟩:=h;exact⟨_,h⟩
theorem exH_some:∀{H:IU Box}{K:IU Box->Prop},exH H K->∃H',K H'
 |[],_,h=>⟨_,h⟩
 |_::_,_,h=>by obtain⟨a,h1⟩:=Wl h;obtain⟨aas,h2⟩:=exH_some h1;exact⟨_,h2⟩
mutual
def AV.shift (n:Nat):AV->AV
 |.ptr l o=>.ptr (l+n) o
 |.clo f fi ca=>.clo f (AV.shifts n fi) (AV.shifts n ca)
 |.vec l ds=>.vec (l+n) ds
 |.map l=>.map (l+n)
 |.tup vs=>.tup (AV.shifts n vs)
 |.agg cs=>.agg (AV.shifts n cs)
 |.opt _ _ _=>.any
 |.yld _=>.any
 |.msl l=>.msl (l+n)
 |.eptr l i o=>.eptr (l+n) i o
 |x=>x
def AV.shifts (n:Nat):IU AV->IU AV
 |[]=>[]
 |x::r=>AV.shift n x::AV.shifts n r
end
theorem AV.shifts_eq (n:Nat):∀l:IU AV,AV.shifts n l=l.map (AV.shift n)
 |[]=>rfl
 |x::r=>by rw[AV.shifts,AV.shifts_eq n r];rfl
def Box.shift (n:Nat):Box->Box
 |.cells T cs=>.cells T (cs.map (AV.shift n))
 |.loop _ _ _ _ _ _=>.dead
 |x=>x
theorem RA.shift {c c2:Cx}{H H2:IU Box}{w:H5}{n:Nat}(hI:c2.I=c.I) (hJ:c2.J=c.J) (hρ:∀l,c2.ρ[l+n]? = c.ρ[l]?) (hH:∀l,H2[l+n]? = (H[l]?).map (Box.shift n)) {a:AV}{v:Value}(h:RA c H w a v):RA c2 H2 w (AV.shift n a) v:=by
 induction h with
 |d h=>exact .d (by rw[hI,hJ];exact h)
 |ptr h1 h2=>exact .ptr (cs:=_) (by rw[hH,h1];rfl) (by rw[hρ,h2])
 |iptr h=>exact .iptr (by rw[hI,hJ];exact h)
 |clo hf hc _ _ ih1 ih2 =>
  rw[AV.shift,AV.shifts_eq,AV.shifts_eq];refine .clo (by rw[H4];exact hf) (by rw[H4];exact hc) (λi a v ha hv=>?_) (λi a v ha hv=>?_)
  ·rw[G5]at ha;obtain⟨a0,h0,rfl⟩:=Dv.1 ha;exact ih1 i a0 v h0 hv
  ·rw[G5]at ha;obtain⟨a0,h0,rfl⟩:=Dv.1 ha;exact ih2 i a0 v h0 hv
 |full h=>exact .full (by rw[hI,hJ];exact h)
 |vec h1 h2 h3 h4=>exact .vec (by rw[hI,hJ];exact h1) (by rw[hH,h2];rfl) h3 (λe=>by rw[hρ];exact h4 e)
 |map h1 h2=>exact .map (by rw[hH,h1];rfl) (by rw[hρ,h2])
 |tup hl _ ih =>
  rw[AV.shift,AV.shifts_eq];refine .tup (by rw[H4];exact hl) (λi a v ha hv=>?_);rw[G5]at ha;obtain⟨a0,h0,rfl⟩:=Dv.1 ha;exact ih i a0 v h0 hv
 |agg hl _ ih =>
  rw[AV.shift,AV.shifts_eq];refine .agg (by rw[H4];exact hl) (λi a v ha hv=>?_);rw[G5]at ha;obtain⟨a0,h0,rfl⟩:=Dv.1 ha;exact ih i a0 v h0 hv
 |any v=>exact .any v
 |opt=>exact .any _
 |yld=>exact .any _
 |nils=>exact .nils
 |nilf=>exact .nilf
 |fsym o=>exact .fsym o
 |msl h1 h2=>exact .msl (by rw[hH,h1];rfl) (by rw[hρ,h2])
 |eptr h1 h2=>exact .eptr (by rw[hH,h1];rfl) (by rw[hρ,h2])
theorem gl {α:Type}{a b:IU α}{l:Nat}{x:α}(h:(a++b)[l]? = some x):(l<a.length/\a[l]? = some x)∨(a.length<=l/\b[l - a.length]? = some x):=by
 rcases G4 l a.length with h1|h1
 ·rw[Ez h1]at h;exact .inl ⟨h1,h⟩
 ·rw[EG h1]at h;exact .inr ⟨h1,h⟩
theorem zy.map_right {α β γ:Type}{R:α->β->Prop}{S:α->γ->Prop}(f:β->γ) (h:∀a b,R a b->S a (f b)) {xs:IU α}{ys:IU β}(hx:zy R xs ys):zy S xs (ys.map f):=by obtain⟨h1,h2⟩:=hx;refine⟨by rw[H4];exact h1,λi x y a b=>?_⟩;rw[G5]at b;obtain⟨y0,h0,rfl⟩:=Dv.1 b;exact h _ _ (h2 i x y0 a h0)
theorem qW.shift {c c2:Cx}{H H2:IU Box}{w:H5}{n b k:Nat}{x:Box}(hI:c2.I=c.I) (hJ:c2.J=c.J) (hρ:∀l,c2.ρ[l+n]? = c.ρ[l]?) (hH:∀l,H2[l+n]? = (H[l]?).map (Box.shift n)) (h:qW c H w b k x):qW c2 H2 w b k (Box.shift n x):=by
 cases x with
 |cells T cs =>
  obtain⟨vs,h1,h2⟩:=h;exact⟨vs,h1,zy.map_right (AV.shift n) (λv a h=>RA.shift hI hJ hρ hH h) h2⟩
 |map es=>obtain⟨e,k,h1,h2⟩:=h;exact⟨e,k,h1,by rw[hI,hJ];exact h2⟩
 |vec n sz=>exact h
 |dead=>trivial
 |arr sz ds=>obtain⟨vs,T,h1,h2,h3⟩:=h;exact⟨vs,T,h1,h2,by rw[hI,hJ];exact h3⟩
 |loop=>trivial
theorem HR.behind {c c':Cx}{H N:IU Box}{w w':H5}(hR:HR c H w) (e:Hs { c with ρ:=[] } w c' w') (hR':HR c' N w'): let c2:Cx:= { c' with ρ:=c.ρ++c'.ρ }
  let H2:=H++N.map (Box.shift H.length);Hs c w c2 w'/\zl c H c2 H2/\HR c2 H2 w':=by
 intro c2 H2;have hnew:∀l b k:Nat,c'.ρ[l]? = some (some (b,k))->w.heap.size<=b:=λl b k h=>by
  rcases e.fresh l b k h with⟨l',k',h'⟩|h'
  ·simp at h'
  ·exact h'
 have e2:Hs c w c2 w':=by
  refine⟨e.os,e.tape,e.output,e.isub,e.jsub,e.icell,e.jobj,e.size,λb hb _=>e.frame b hb (by simp),λb o h=>?_,e.jnew,λl b k h=>?_⟩
  ·rcases e.inew b o h with h1|h1|⟨l,k,h1⟩
   ·exact .inl h1
   ·exact .inr (.inl h1)
   ·simp at h1
  ·rcases gl h with⟨_,h1⟩|⟨_,h1⟩
   ·exact .inl ⟨l,k,h1⟩
   ·exact .inr (hnew _ b k h1)
 have hlen:=hR.len;have old:∀(l:Nat) x,H[l]? = some x->H2[l]? = some x/\c2.ρ[l]? = c.ρ[l]? :=λl x h=>by
  have hl:l<H.length:=by
   rcases G4 l H.length with h1|h1
   ·exact h1
   ·rw[Gt h1]at h;cases h
  exact⟨by show(H++_)[l]? = _;rw[Ez hl,h],by show(c.ρ++c'.ρ)[l]? = _;rw[Ez (by omega)]⟩
 have kp:zl c H c2 H2:=by
  intro l x h;obtain⟨h1,h2⟩:=old l x h;cases x with
  |vec n sz=>exact⟨n,h1,GE _,λ_=>h2⟩
  |dead=>trivial
  |arr sz ds=>exact⟨⟨ds,h1,rfl⟩,h2⟩
  |cells T cs=>exact⟨⟨cs,h1⟩,h2⟩
  |map es=>exact⟨⟨es,h1⟩,h2⟩
  |loop tm ps asn bd pend st=>exact⟨⟨pend,st,h1⟩,h2⟩
 have hρ:∀l,c2.ρ[l+H.length]? = c'.ρ[l]? :=λl=>by show(c.ρ++c'.ρ)[l+H.length]? = _;rw[EG (by omega),hlen,CC]
 have hH:∀l,H2[l+H.length]? = (N[l]?).map (Box.shift H.length):=λl=>by show(H++_)[l+H.length]? = _;rw[EG (by omega),CC,G5]
 have split:∀(l:Nat) y,c2.ρ[l]? = some y->(l<H.length/\c.ρ[l]? = some y)∨ ∃m,l=m+H.length/\c'.ρ[m]? = some y:=λl y h=>by
  rcases gl h with⟨h1,h2⟩|⟨h1,h2⟩
  ·exact .inl ⟨by omega,h2⟩
  ·exact .inr ⟨l - H.length,by omega,by rw[←hlen];exact h2⟩
 have hold:∀(l:Nat) x,l<H.length->H2[l]? = some x->H[l]? = some x:=λl x hl h=>by have h':(H++N.map (Box.shift H.length))[l]? = some x:=h;rwa [Ez hl]at h'
 refine⟨e2,kp,⟨?_,λl l' b k k' h1 h2=>?_,λl b k x h1 h2=>?_,λl x h1 h2=>?_,λl b k h1=>?_,hR'.ilt,hR'.jlt,λb o l k hi h1=>?_,λr l k hr h1=>?_⟩⟩
 ·show(c.ρ++c'.ρ).length=(H++N.map _).length;rw[FG,FG,H4,hlen,hR'.len]
 ·rcases split l _ h1 with⟨g1,g2⟩|⟨m,rfl,g2⟩<;>rcases split l' _ h2 with⟨g3,g4⟩|⟨m',rfl,g4⟩
  ·exact hR.inj l l' b k k' g2 g4
  ·have:=hR.lt l b k g2;have:=hnew m' b k' g4;omega
  ·have:=hR.lt l' b k' g4;have:=hnew m b k g2;omega
  ·rw[hR'.inj m m' b k k' g2 g4]
 ·rcases split l _ h1 with⟨g1,g2⟩|⟨m,rfl,g2⟩
  ·exact(hR.box l b k x g2 (hold l x g1 h2)).ext e2 kp (e.frame b (hR.lt l b k g2) (by simp))
  ·rw[hH]at h2;obtain⟨y,hy,rfl⟩:=Dv.1 h2;exact qW.shift (c:=c') (c2:=c2) rfl rfl hρ hH (hR'.box m b k y g2 hy)
 ·rcases split l _ h1 with⟨g1,g2⟩|⟨m,rfl,g2⟩
  ·exact hR.non l x g2 (hold l x g1 h2)
  ·rw[hH]at h2;obtain⟨y,hy,rfl⟩:=Dv.1 h2;rcases hR'.non m y g2 hy with⟨n,sz,rfl⟩|rfl
   ·exact .inl ⟨n,sz,rfl⟩
   ·exact .inr rfl
 ·rcases split l _ h1 with⟨g1,g2⟩|⟨m,rfl,g2⟩
  ·exact F4 (hR.lt l b k g2) e.size
  ·exact hR'.lt m b k g2
 ·rcases split l _ h1 with⟨g1,g2⟩|⟨m,rfl,g2⟩
  ·rcases e.inew b o hi with h2|h2|⟨l',k',h2⟩
   ·obtain⟨n,sz,h3,h4⟩:=hR.iap b o l k h2 g2;exact⟨n,sz,(old l _ h3).1,h4⟩
   ·have:=hR.lt l b k g2;omega
   ·simp at h2
  ·obtain⟨n,sz,h3,h4⟩:=hR'.iap b o m k hi g2;exact⟨n,sz,by rw[hH,h3];rfl,h4⟩
 ·rcases split l _ h1 with⟨g1,g2⟩|⟨m,rfl,g2⟩
  ·rcases e.jnew r hr with h2|h2
   ·exact hR.jap r l k h2 g2
   ·have:=hR.lt l r k g2;omega
  ·exact hR'.jap r m k hr g2
structure PFnV (P:HP) (G:Nat->IQ (IU D)) (f:Fp) (ds:IU D) (sz:Nat) (Q:IU D->Prop):Prop where
 run:∀(c:Cx) (w:H5) (vs:IU Value),c.ρ=[]->HR c [] w->GR G c w->zy (RV c.I c.J w) vs ds ->
  Ef P f vs.toArray w λe w'=>∃v l c',e = .returned v/\Q l/\Hs c w c' w'/\HR c' [.vec l.length sz] w'/\RA c' [.vec l.length sz] w' (.vec 0 l) v
theorem PFnV.mono {P G f ds sz} {Q Q':IU D->Prop}(h:PFnV P G f ds sz Q) (hq:∀rs,Q rs->Q' rs):PFnV P G f ds sz Q' :=⟨λc w vs a b d e=>(h.run c w vs a b d e).mono λ_ _ ⟨v,l,c',e1,e2,e3⟩=>⟨v,l,c',e1,hq _ e2,e3⟩⟩
theorem Wj {c c':Cx}{H:IU Box}{w w':H5}{l:IU D}{sz:Nat}{v:Value}(hR:HR c H w) (e:Hs { c with ρ:=[] } w c' w') (hR':HR c' [.vec l.length sz] w') (hv:RA c' [.vec l.length sz] w' (.vec 0 l) v): let c2:Cx:= { c' with ρ:=c.ρ++c'.ρ }
  Hs c w c2 w'/\zl c H c2 (H++[.vec l.length sz])/\HR c2 (H++[.vec l.length sz]) w'/\RA c2 (H++[.vec l.length sz]) w' (.vec H.length l) v:=by
 intro c2;obtain⟨h1,h2,h3⟩:=HR.behind hR e hR';refine⟨h1,h2,h3,?_⟩;have hlen:=hR.len;have:=RA.shift (c:=c') (c2:=c2) (H:=[.vec l.length sz]) (H2:=H++[.vec l.length sz]) (n:=H.length) rfl rfl (λm=>by
   show(c.ρ++c'.ρ)[m+H.length]? = _;rw[EG (by omega),hlen,CC]) (λm=>by
   rw[EG (by omega),CC];cases m with
   |zero=>rfl
   |succ m=>rfl) hv
 rw[AV.shift,E6]at this;exact this
structure PMaker (P:HP) (G:Nat->IQ (IU D)) (f:Fp) (aas:IU AV) (H:IU Box) (av:AV) (N:IU Box):Prop where
 run:∀(c:Cx) (w:H5) (vs:IU Value),HR c H w->GR G c w->zy (λv a=>RA c H w a v) vs aas ->
  Ef P f vs.toArray w λe w'=>∃v c',e = .returned v/\Hs c w c' w'/\zl c H c' (H++N)/\HR c' (H++N) w'/\RA c' (H++N) w' av v
def eqAV:AV->AV->Prop
 |.d (.int k a),.d (.int k' b)=>if k=k' then a=b else HD
 |.d (.bool a),.d (.bool b)=>a=b
 |.d (.str a),.d (.str b)=>a=b
 |.d (.sl a),.d (.sl b)=>a=b
 |.full a,.full b=>a=b
 |.vec l a,.vec l' b=>if l=l' then a=b else HD
 |.eptr l i o,.eptr l' i' o'=>if l=l'/\o=o' then i=i' else HD
 |a,b=>a=b
theorem rO {a b:AV}(h:eqAV a b):a=b:=by
 unfold eqAV at h;split at h
 ·split at h
  ·rename_i hk;subst hk;subst h;rfl
  ·exact h.elim
 ·subst h;rfl
 ·subst h;rfl
 ·subst h;rfl
 ·subst h;rfl
 ·split at h
  ·rename_i hk;subst hk;subst h;rfl
  ·exact h.elim
 ·split at h
  ·rename_i hk;obtain⟨rfl,rfl⟩:=hk;subst h;rfl
  ·exact h.elim
 ·exact h
def eqAVs:IU AV->IU AV->Prop
 |[],[]=>IN
 |a::r,b::s=>eqAV a b/\eqAVs r s
 |_,_=>HD
theorem eqAVs_sound:∀{a b:IU AV},eqAVs a b->a=b
 |[],[],_=>rfl
 |a::r,b::s,h=>by rw[rO h.1,eqAVs_sound h.2]
 |[],_::_,h=>h.elim
 |_::_,[],h=>h.elim
def eqBox:Box->Box->Prop
 |.cells T cs,.cells T' cs'=>if T=T' then eqAVs cs cs' else HD
 |.map a,.map b=>a=b
 |.vec n sz,.vec n' sz'=>if sz=sz' then n=n' else HD
 |.dead,.dead=>IN
 |.arr sz ds,.arr sz' ds'=>if sz=sz' then ds=ds' else HD
 |.loop tm ps asn bd pend st,.loop tm' ps' asn' bd' pend' st'=>Box.loop tm ps asn bd pend st = .loop tm' ps' asn' bd' pend' st'
 |_,_=>HD
theorem Yt {x y:Box}(h:eqBox x y):x=y:=by
 unfold eqBox at h;split at h
 ·split at h
  ·rename_i hk;subst hk;rw[eqAVs_sound h]
  ·exact h.elim
 ·subst h;rfl
 ·split at h
  ·rename_i hk;subst hk;subst h;rfl
  ·exact h.elim
 ·rfl
 ·split at h
  ·rename_i hk;subst hk;subst h;rfl
  ·exact h.elim
 ·exact h
 ·exact h.elim
def jl (p:Nat) (Ht:IU Box):AV->AV->Prop
 |.full a,.vec l b =>
  match Ht[l]? with
  |some (.vec n _)=>a=b/\a.length<=n
  |_=>HD
 |.d x,.d y=>eqAV (.d x) (.d y)
 |a,.d y =>
  match avD a with
  |some x=>eqAV (.d x) (.d y)
  |none=>HD
 |a,b=>if b.under p then eqAV a b else HD
def qQ (p:Nat) (Ht:IU Box):IU AV->IU AV->Prop
 |[],[]=>IN
 |a::r,b::s=>jl p Ht a b/\qQ p Ht r s
 |_,_=>HD
def qP (p:Nat) (Ht:IU Box):Box->Box->Prop
 |.cells T cs,.cells T' cs'=>if T=T' then qQ p Ht cs cs' else HD
 |x,y=>if y.under p then eqBox x y else HD
def RC (p:Nat) (Ht:IU Box):IU AV->IU AV->Prop
 |[],[]=>IN
 |a::r,b::s =>
  match b with
  |.any=>RC p Ht r s
  |b=>jl p Ht a b/\RC p Ht r s
 |_,_=>HD
def Nv (p:Nat) (Ht:IU Box):IU Box->IU Box->Prop
 |_,[]=>IN
 |x::r,y::s=>qP p Ht x y/\Nv p Ht r s
 |[],.vec _ _::s=>Nv p Ht [] s
 |[],_::_=>HD
def Wk (n:Nat) (tm:IU AV) (H:IU Box) (tm':IU AV) (H':IU Box):Prop :=if decide (n<=min H.length H'.length)&&(H.take (min H.length H'.length)).all (ET (min H.length H'.length))then RC (min H.length H'.length) H' tm tm'/\Nv (min H.length H'.length) H' H H' else HD
theorem Ys {p:Nat}{Ht:IU Box}{a b:AV}(h:jl p Ht a b):(a=b/\b.under p=true)∨(∃ds l n sz,a = .full ds/\b = .vec l ds/\Ht[l]? = some (.vec n sz)/\ds.length<=n)∨(∃x,b = .d x/\avD a=some x):=by
 unfold jl at h;split at h
 ·split at h
  ·rename_i n sz hn;obtain⟨rfl,h2⟩:=h;exact .inr (.inl ⟨_,_,n,sz,rfl,rfl,hn,h2⟩)
  ·exact h.elim
 ·have:=rO h;cases this;exact .inl ⟨rfl,rfl⟩
 ·split at h
  ·rename_i x hx;have:=rO h;cases this;exact .inr (.inr ⟨_,rfl,hx⟩)
  ·exact h.elim
 ·split at h
  ·rename_i hu;exact .inl ⟨rO h,hu⟩
  ·exact h.elim
theorem jk {p:Nat}{Ht H:IU Box}{c c1:Cx}{w:H5}{a b:AV}{v:Value}(h:jl p Ht a b) (heq:∀a,a.under p=true->RA c H w a v->RA c1 Ht w a v) (hf:∀ds ad m,R1 c.I c.J w (.slice ad m m) (.sl ds)->R1 c1.I c1.J w (.slice ad m m) (.sl ds)) (hr:RA c H w a v):RA c1 Ht w b v:=by
 rcases Ys h with⟨rfl,hu⟩|⟨ds,l,n,sz,rfl,rfl,hH,hn⟩|⟨x,rfl,hx⟩
 ·exact heq a hu hr
 ·cases hr with
  |full h=>exact .vec (hf _ _ _ h) hH hn (λ_=>.inl rfl)
 ·exact heq (.d x) rfl (.d (wB hr hx))
theorem nV {p:Nat}{Ht:IU Box}{c c1:Cx}{H:IU Box}{w:H5}{tmps:IG Value}(heq:∀a v,a.under p=true->RA c H w a v->RA c1 Ht w a v) (hf:∀ds ad m,R1 c.I c.J w (.slice ad m m) (.sl ds)->R1 c1.I c1.J w (.slice ad m m) (.sl ds)):∀{vs:IU Value}{tm tm':IU AV},RC p Ht tm tm'->zy (λv a=>xj c H w tmps a v) vs tm->(∀g p x,AV.opt g p x∉tm')->zy (λv a=>xj c1 Ht w tmps a v) vs tm'
 |vs,[],[],_,h,_=>by have:=h.nil_right;subst this;exact Ga
 |vs,a::r,b::s,h,h2,hno=>by
  obtain⟨v,vs',rfl,h3,h4⟩:=h2.cons_right;have hno' :∀g p x,AV.opt g p x∉s:=λg p x hx=>hno g p x (by simp[hx]);simp only[RC]at h;split at h
  ·exact Gw (RA.any v) (nV heq hf h h4 hno')
  ·rename_i b' hb;refine Gw ?_ (nV heq hf h.2 h4 hno');have hra:RA c H w a v:=by
    rcases Ys h.1 with⟨rfl,_⟩|⟨ds,l,n,sz,rfl,rfl,_,_⟩|⟨x,rfl,hx⟩
    ·cases a<;>first
      |exact h3
      |exact Hu (Ak) (hno _ _ _)
    ·exact h3
    ·cases a<;>first
      |exact h3
      |(simp[avD,avD1]at hx;done)
   have:=jk (c:=c) (H:=H) h.1 (λa hu hr=>heq a v hu hr) hf hra;cases b<;>first
    |exact this
    |exact Hu (Ak) (hno _ _ _)
 |vs,[],_::_,h,_,_=>h.elim
 |vs,_::_,[],h,_,_=>h.elim
theorem mS {p:Nat}{Ht:IU Box}{c c1:Cx}{H:IU Box}{w:H5}(heq:∀a v,a.under p=true->RA c H w a v->RA c1 Ht w a v) (hf:∀ds ad m,R1 c.I c.J w (.slice ad m m) (.sl ds)->R1 c1.I c1.J w (.slice ad m m) (.sl ds)):∀{vs:IU Value}{aas bs:IU AV},qQ p Ht aas bs->zy (λv a=>RA c H w a v) vs aas->zy (λv a=>RA c1 Ht w a v) vs bs
 |vs,[],[],_,h=>by have:=h.nil_right;subst this;exact Ga
 |vs,a::r,b::s,h,h2=>by obtain⟨v,vs',rfl,h3,h4⟩:=h2.cons_right;exact Gw (jk h.1 (λa hu hr=>heq a v hu hr) hf h3) (mS heq hf h.2 h4)
 |vs,[],_::_,h,_=>h.elim
 |vs,_::_,[],h,_=>h.elim
def isVec:Box->Bool
 |.vec _ _=>true
 |_=>false
theorem km {p:Nat}{Ht:IU Box}:∀{H H':IU Box},Nv p Ht H H'->((H'.drop (min H.length H'.length)).all isVec)=true/\∀(i:Nat) x y,H[i]? = some x->H'[i]? = some y->qP p Ht x y
 |_,[],_=>by simp
 |x::r,y::s,h=>by
  obtain⟨h1,h2⟩:=h;obtain⟨h3,h4⟩:=km h2;refine⟨?_,λi a b ha hb=>?_⟩
  ·have:min (x::r).length (y::s).length=min r.length s.length+1:=by simp only[F2];omega
   rw[this,IU.drop_succ_cons];exact h3
  ·cases i with
   |zero=>simp at ha hb;subst ha;subst hb;exact h1
   |succ i=>simp at ha hb;exact h4 i a b ha hb
 |[],.vec n sz::s,h=>by have h':Nv p Ht [] s:=h;obtain⟨h3,_⟩:=km h';refine⟨?_,λi a b ha hb=>by simp at ha⟩;simp only[FL,Nat.zero_min,IU.drop_zero]at h3 ⊢;simp[isVec,h3]
 |[],.cells _ _::_,h=>h.elim
 |[],.map _::_,h=>h.elim
 |[],.dead::_,h=>h.elim
 |[],.arr _ _::_,h=>h.elim
 |[],.loop _ _ _ _ _ _::_,h=>h.elim
theorem push_nones:∀(toks:IU Box) {c:Cx}{H:IU Box}{w:H5},(toks.all isVec)=true->HR c H w->HR { c with ρ:=c.ρ++G8 toks.length none } (H++toks) w/\zl c H { c with ρ:=c.ρ++G8 toks.length none } (H++toks)/\Hs c w { c with ρ:=c.ρ++G8 toks.length none } w
 |[],c,H,w,_,h=>by simpa using⟨h,GV c H,Fq c w⟩
 |x::toks,c,H,w,ht,h=>by
  cases x with
  |vec n sz =>
   obtain⟨h1,h2,h3⟩:=AS (n:=n) (sz:=sz) h;obtain⟨h4,h5,h6⟩:=push_nones toks (by simpa[isVec]using ht) h1;have e1:H++[FY n sz]++toks=H++(FY n sz::toks):=by simp
   have e2:c.ρ++[none]++G8 toks.length (none:IQ (Nat×Nat))=c.ρ++G8 (FY n sz::toks).length none:=by rw[DN];rfl
   rw[e1]at h4 h5;simp only[e2]at h4 h5 h6;exact⟨h4,h2.trans h5,h3.trans h6⟩
  |_=>simp[isVec]at ht
def Yr (tm:IU AV):Bool:=tm.all λa=>match a with|.opt _ _ _=>false|_=>true
theorem Yq {p:Nat}{Ht:IU Box}{x y:Box}(h:qP p Ht x y):x=y∨ ∃T cs cs',x = .cells T cs/\y = .cells T cs'/\qQ p Ht cs cs':=by
 unfold qP at h;split at h
 ·split at h
  ·rename_i e;subst e;exact .inr ⟨_,_,_,rfl,rfl,h⟩
  ·exact h.elim
 ·split at h
  ·exact .inl (Yt h)
  ·exact h.elim
theorem HR.weakenH {c:Cx}{H H':IU Box}{w:H5}(hR:HR c H w) (hund:((H.take (min H.length H'.length)).all (ET (min H.length H'.length)))=true) (h2:Nv (min H.length H'.length) H' H H'):∃c',HR c' H' w/\Hs c w c' w/\zl c (H.take (min H.length H'.length)) c' H'/\(∀a v,a.under (min H.length H'.length)=true->RA c H w a v->RA c' H' w a v)/\(∀ds ad m,R1 c.I c.J w (.slice ad m m) (.sl ds)->R1 c'.I c'.J w (.slice ad m m) (.sl ds)):=by
 generalize hp:min H.length H'.length=p at *;have hpH:p<=H.length:=by omega
 have hpH':p<=H'.length:=by omega
 obtain⟨h3,h4⟩:=km h2;rw[hp]at h3;have hr0:HR (c.take p) (H.take p) w:=hR.take hund;obtain⟨hr1,kp1,e1⟩:=push_nones (H'.drop p) h3 hr0;generalize hc1:({ c.take p with ρ:=(c.take p).ρ++G8 (H'.drop p).length none }:Cx)=c1 at *;have hI:c1.I=c.I:=by rw[←hc1];rfl
 have hJ:c1.J=c.J:=by rw[←hc1];rfl
 have hlen0:(H.take p).length=p:=by simp;omega
 have hlen1:(H.take p++H'.drop p).length=H'.length:=by simp;omega
 have hbox:∀(l:Nat) y,H'[l]? = some y->∃x,(H.take p++H'.drop p)[l]? = some x/\(x=y∨ ∃T cs cs',x = .cells T cs/\y = .cells T cs'/\qQ p H' cs cs'):=by
  intro l y hy;rcases G4 l p with hlt|hge
  ·have hlH:l<H.length:=by omega
   refine⟨H[l],?_,Yq (h4 l _ y (by simp[hlH]) hy)⟩;rw[Ez (by omega),zG hlt];simp[hlH]
  ·refine⟨y,?_,.inl rfl⟩;rw[EG (by omega),hlen0,Ds];rw[←hy];congr 1;omega
 have hback:∀(l:Nat) x,(H.take p++H'.drop p)[l]? = some x->∃y,H'[l]? = some y/\(x=y∨ ∃T cs cs',x = .cells T cs/\y = .cells T cs'/\qQ p H' cs cs'):=by
  intro l x hx;have hl:l<H'.length:=by
   rcases G4 l H'.length with h' |h'
   ·exact h'
   ·rw[Gt (by omega)]at hx;cases hx
  obtain⟨x',hx',hrel⟩:=hbox l H'[l] (by simp[hl]);rw[hx]at hx';cases hx';exact⟨H'[l],by simp[hl],hrel⟩
 have kp2:zl c1 (H.take p++H'.drop p) c1 H':=by
  intro l x hx;obtain⟨y,hy,hrel⟩:=hback l x hx;rcases hrel with rfl|⟨T,cs,cs',rfl,rfl,_⟩
  ·cases x<;>simp only[hy]<;>simp
  ·exact⟨⟨cs',hy⟩,rfl⟩
 have heq1:∀a v,RA c1 (H.take p++H'.drop p) w a v->RA c1 H' w a v:=λa v hr=>hr.ext (Fq _ _) kp2;have hr2:HR c1 H' w:=by
  refine⟨by rw[hr1.len,hlen1],hr1.inj,?_,?_,hr1.lt,hr1.ilt,hr1.jlt,?_,hr1.jap⟩
  ·intro l b k y hρ hy;obtain⟨x,hx,hrel⟩:=hbox l y hy;have hb:=hr1.box l b k x hρ hx;rcases hrel with rfl|⟨T,cs,cs',rfl,rfl,hcs⟩
   ·exact hb.ext (Fq _ _) kp2 rfl
   ·obtain⟨vs,g1,g2⟩:=hb;exact⟨vs,g1,mS (c:=c1) (H:=H.take p++H'.drop p) (λa v _ hr=>heq1 a v hr) (λ_ _ _ h=>h) hcs g2⟩
  ·intro l y hρ hy;obtain⟨x,hx,hrel⟩:=hbox l y hy;have:=hr1.non l x hρ hx;rcases hrel with rfl|⟨T,cs,cs',rfl,rfl,hcs⟩
   ·exact this
   ·rcases this with⟨_,_,h⟩|h<;>cases h
  ·intro b o l k hi hρ;obtain⟨n',sz,g1,g2⟩:=hr1.iap b o l k hi hρ;obtain⟨y,hy,hrel⟩:=hback l _ g1;rcases hrel with rfl|⟨T,cs,cs',h',_,_⟩
   ·exact⟨n',sz,hy,g2⟩
   ·cases h'
 have eAll:Hs c w c1 w:=(DU c w p).trans e1;refine⟨c1,hr2,eAll,?_,λa v hu hr=>heq1 a v ((hr.take hu).ext e1 kp1),λds ad m h=>by rw[hI,hJ];exact h⟩;have kp0:zl c (H.take p) (c.take p) (H.take p):=by
  intro l x hx;have hk:=(zP hx).1;have e2:(c.take p).ρ[l]? = c.ρ[l]? :=by show(c.ρ.take _)[l]? = _;rw[zG hk]
  cases x<;>simp only[hx,e2]<;>simp
 exact(kp0.trans kp1).trans kp2
def UU (P:HP):Box->IQ (TypeId×IU D×Nat)
 |.cells T [.full ds] =>
  match P.underlying T with
  |some (.slice E)=>(xT P E).map λsz=>(T,ds,sz)
  |_=>none
 |_=>none
theorem RB {P:HP}{x:Box}{T:TypeId}{ds:IU D}{sz:Nat}(h:UU P x=some (T,ds,sz)):x = .cells T [.full ds]:=by
 unfold UU at h;split at h
 ·split at h
  ·rename_i E _;cases hs:xT P E with
   |none=>rw[hs]at h;cases h
   |some n=>rw[hs]at h;cases h;rfl
  ·cases h
 ·cases h
def nU (P:HP):Nat->IU Box->IU Box×IU Box
 |_,[]=>([],[])
 |t,x::r =>
  match UU P x with
  |some (T,ds,sz)=>(.cells T [.vec t ds]::(nU P (t+1) r).1,.vec ds.length sz::(nU P (t+1) r).2)
  |none=>(x::(nU P t r).1,(nU P t r).2)
def gk (P:HP) (H:IU Box):IU Box:=(nU P H.length H).1++(nU P H.length H).2
theorem dm (a:AV):eqAV a a:=by unfold eqAV;split<;>simp_all
theorem eqAVs_refl:∀(l:IU AV),eqAVs l l
 |[]=>trivial
 |a::l=>⟨dm a,eqAVs_refl l⟩
theorem Wi (x:Box):eqBox x x:=by cases x<;>simp[eqBox,eqAVs_refl]
theorem Wh {p:Nat}{Ht:IU Box}(x:AV) (hx:x.under p=true):jl p Ht x x:=by cases x<;>simp only[jl,hx,if_true]<;>exact dm _
theorem jj {p:Nat}{Ht:IU Box}:∀{l:IU AV},Eb p l=true->qQ p Ht l l
 |[],_=>trivial
 |a::l,h=>by simp only[Eb,HC]at h;exact⟨Wh a h.1,jj h.2⟩
theorem Yp {p:Nat}{Ht:IU Box}{x:Box}(h:x.under p=true):qP p Ht x x:=by
 cases x with
 |cells T cs=>simp only[qP,if_true];exact jj h
 |_=>simp only[qP,h,if_true];exact Wi _
theorem Yo (P:HP):∀(t:Nat) (H:IU Box),(nU P t H).1.length=H.length
 |_,[]=>rfl
 |t,x::r=>by simp only[nU];split<;>simp[Yo P _ r]
theorem Yn (P:HP):∀(t:Nat) (H:IU Box),((nU P t H).2.all isVec)=true
 |_,[]=>rfl
 |t,x::r=>by simp only[nU];split<;>simp[Yn P _ r,isVec]
theorem Ym {p:Nat}{Ht:IU Box}:∀(toks:IU Box),(toks.all isVec)=true->Nv p Ht [] toks
 |[],_=>trivial
 |x::toks,h=>by
  cases x with
  |vec n sz=>exact Ym toks (by simpa[isVec]using h)
  |_=>simp[isVec]at h
theorem bp {P:HP}{p:Nat}{Ht:IU Box}(more:IU Box) (hmore:(more.all isVec)=true):∀(t:Nat) (H:IU Box),(H.all (ET p))=true->(∀(i:Nat) x,(nU P t H).2[i]? = some x->Ht[t+i]? = some x)->Nv p Ht H ((nU P t H).1++more)
 |_,[],_,_=>by simpa[nU]using Ym more hmore
 |t,x::r,hu,ht=>by
  simp only[IU.all_cons,HC]at hu;cases hx:UU P x with
  |none =>
   simp only[nU,hx]at ht ⊢;exact⟨Yp hu.1,bp more hmore t r hu.2 ht⟩
  |some q =>
   obtain⟨T,ds,sz⟩:=q;have:=RB hx;subst this;simp only[nU,hx]at ht ⊢;refine⟨?_,bp more hmore (t+1) r hu.2 λi x hx=>?_⟩
   ·have h0:=ht 0 (.vec ds.length sz) (by simp);simp only[DX]at h0;simp only[qP,if_true,qQ,jl];rw[h0];simp
   ·have:=ht (i+1) x (by simpa using hx);rw[←this];congr 1;omega
theorem HR.tok {P:HP}{c:Cx}{H:IU Box}{w:H5}(hR:HR c H w) (hu:(H.all (ET H.length))=true):∃c',HR c' (gk P H) w/\Hs c w c' w/\zl c H c' (gk P H)/\(∀a v,a.under H.length=true->RA c H w a v->RA c' (gk P H) w a v):=by
 have hlen:=Yo P H.length H;have hmin:min H.length (gk P H).length=H.length:=by simp only[gk,FG];omega
 have hw:Nv (min H.length (gk P H).length) (gk P H) H (gk P H):=by rw[hmin];refine bp _ (Yn P _ _) H.length H hu λi x hx=>?_;unfold gk;rw[EG (by omega)];rw[←hx];congr 1;omega
 obtain⟨c',h1,h2,h3,h4,_⟩:=hR.weakenH (by rw[hmin,FR];exact hu) hw;rw[hmin,FR]at h3;rw[hmin]at h4;exact⟨c',h1,h2,h3,h4⟩
def hasTag:IU (Nat×Bool)->Nat->Bool->Bool
 |[],_,_=>false
 |(g,p)::r,g',p'=>(decide (g=g')&&(p==p'))||hasTag r g' p'
def dull:AV->AV
 |.opt _ _ _=>.any
 |a=>a
def yc (tags:IU (Nat×Bool)) (tm:IU AV) (t:Nat):AV :=match tm.getD t .any with
 |.opt g p x=>if hasTag tags g p then dull x else .any
 |a=>a
def MD (d:Nat):AV->AV
 |.opt g p x=>if g=d then .any else .opt g p x
 |a=>a
def yP (tm:IU AV) (d:IQ Nat) (a:AV):IU AV :=match d with
 |some d=>(tm.map (MD d)).set d a
 |none=>tm
def zW (tm:IU AV):IU AV:=tm.map dull
def exSh:Sh->(D->Prop)->Prop
 |.int k,K=>∃n,K (.int k n)
 |.bool,K=>∃b,K (.bool b)
 |.str,K=>∃s,K (.str s)
 |.sl,K=>∃l,K (.sl l)
 |.fn,K=>∃f,K (.fn f)
def exShs:IU Sh->(IU D->Prop)->Prop
 |[],K=>K []
 |s::r,K=>exSh s λd=>exShs r λds=>K (d::ds)
def Nu (P:HP) (T:TypeId) (K:D->Prop):Prop :=match uW P 9 T,tC P T with
 |some shs,some ag=>exShs shs λcs=>K (Wz ag cs)
 |_,_=>HD
def mR (P:HP):IU TypeId->(IU D->Prop)->Prop
 |[],K=>K []
 |T::r,K=>Nu P T λd=>mR P r λds=>K (d::ds)
theorem SH {s:Sh}{K:D->Prop}(h:exSh s K):∃d,K d:=by cases s<;>obtain⟨x,hx⟩:=h<;>exact⟨_,hx⟩
theorem exShs_some:∀{l:IU Sh}{K:IU D->Prop},exShs l K->∃ds,K ds
 |[],_,h=>⟨[],h⟩
 |s::r,K,h=>by obtain⟨d,hd⟩:=SH h;obtain⟨ds,hds⟩:=exShs_some hd;exact⟨_,hds⟩
theorem SG {P T} {K:D->Prop}(h:Nu P T K):∃d,K d:=by
 unfold Nu at h;split at h
 ·obtain⟨ds,hds⟩:=exShs_some h;exact⟨_,hds⟩
 ·exact h.elim
theorem wv {P}:∀{l:IU TypeId}{K:IU D->Prop},mR P l K->∃ds,K ds
 |[],_,h=>⟨[],h⟩
 |T::r,K,h=>by obtain⟨d,hd⟩:=SG h;obtain⟨ds,hds⟩:=wv hd;exact⟨_,hds⟩
def resAV:IU D->AV
 |[d]=>.d d
 |ds=>.tup (ds.map .d)
def rN (P:HP) (f:Nat):Bool :=match P.funcs[f]? with
 |some fn=>!(fn.name == "runtime.NumGoroutine")&&fn.body.isSome
 |none=>false
def Wg (P:HP) (f:Nat):IU TypeId:=((P.funcs[f]?).map λfn=>fn.resultTypes.toList).getD []
def calleeAV:AV->IQ (Nat×IU AV×IU AV)
 |.clo f a b=>some (f,a,b)
 |.d (.fn f)=>some (f,[],[])
 |_=>none
def oJ (e:G1->AV):Op->Bool
 |.move _=>true
 |.assign _=>true
 |.load _ x=>match e x with
  |.eptr _ _ _=>false
  |_=>true
 |.fieldAddr _ _ _=>true
 |.unOp _ _ _=>true
 |.extract _ _=>true
 |.build _ _=>true
 |.buildSlice _ _ _=>true
 |.makeFunc _ _ _=>true
 |.nilCheck _=>true
 |.convert _ _ _=>true
 |.call _=>true
 |.binOp op _ x _ _=>match op with
  |.quo=>false
  |.rem=>false
  |.shl=>false
  |.shr=>false
  |.add=>match avD (e x)with
   |some (.int _ _)=>true
   |_=>false
  |_=>true
 |_=>false
def htriv:Op->Bool
 |.alloc _=>true
 |.box _ _=>true
 |.store _ _ _=>true
 |.makeMap _ _=>true
 |_=>false
theorem SF {P op T x y r F} (h:Wx P op T x y=some (r,F)) (h1:op ≠ .quo) (h2:op ≠ .rem) (h3:op ≠ .shl) (h4:op ≠ .shr) (h5:op = .add->∃k n,x = .int k n):F:=by
 unfold Wx at h;split at h
 ·split at h
  ·exact Hu rfl h3
  ·exact Hu rfl h4
  ·split at h
   ·cases op<;>simp only[N9,M8,Fi,Ee]at h<;>first|exact Hu rfl h1|exact Hu rfl h2|(cases h;trivial)|cases h
   ·cases h
 ·cases op<;>simp only[Nz]at h<;>first|(obtain⟨k,n,hk⟩:=h5 rfl;cases hk;done)|(cases h;trivial)|cases h
 ·split at h
  ·cases op<;>simp only[Wy]at h<;>first|(cases h;trivial)|cases h
  ·cases h
 ·split at h
  ·rename_i xs ys _;cases hr:xp P xs ys (P.fieldsOf T).toList with
   |none=>rw[hr]at h;cases h
   |some b =>
    rw[hr]at h;simp only[CZ]at h;cases op<;>simp only[Wy]at h<;>first|(cases h;trivial)|cases h
  ·cases h
 ·cases h
theorem qO {α β:Type}{o:IQ α}{f:α->β}{b:β}{F:Prop}(h:(o.map λx=>(f x,IN))=some (b,F)):F:=by
 cases o with
 |none=>simp at h
 |some x=>cases h;trivial
theorem SE {P e H o a F} (h:xA P e H o=some (a,F)) (ht:oJ e o=true):F:=by
 cases o with
 |move=>cases h;trivial
 |assign=>cases h;trivial
 |load T x =>
  simp only[xA]at h;split at h
  ·split at h
   ·exact qO (f:=id) h
   ·cases h
  ·exact qO (f:=id) h
  ·cases h
 |fieldAddr T x f =>
  simp only[xA]at h;repeat (first|(cases h;trivial)|(cases h;done)|split at h)
 |unOp op T x =>
  cases op<;>simp only[xA]at h
  all_goals (repeat (first|(cases h;trivial)|(cases h;done)|split at h))
 |extract t i =>
  simp only[xA]at h;split at h
  ·exact qO (f:=id) h
  ·cases h
 |build T parts =>
  simp only[xA]at h;split at h
  ·exact qO (f:=id) h
  ·cases h
 |buildSlice T n parts =>
  simp only[xA]at h;repeat (first|(cases h;trivial)|(cases h;done)|split at h)
 |makeFunc fn a b =>
  cases fn<;>simp only[xA]at h<;>first|(cases h;trivial)|cases h
 |nilCheck x =>
  simp only[xA]at h;repeat (first|(cases h;trivial)|(cases h;done)|split at h)
 |convert S T x =>
  simp only[xA]at h;repeat (first|(cases h;trivial)|(cases h;done)|split at h)
 |call c =>
  obtain⟨callee,args,types⟩:=c;cases callee with
  |value f=>simp[xA]at h
  |invoke a b=>simp[xA]at h
  |builtin b =>
   cases b<;>first|(simp[xA]at h;done)|skip
   ·simp only[xA]at h;split at h
    ·split at h
     ·cases h;trivial
     ·exact qO h
     ·cases h
    ·cases h
   ·simp only[xA]at h;repeat (first|(cases h;trivial)|(cases h;done)|split at h)
 |binOp op T x y yT =>
  simp only[xA]at h;split at h
  ·cases h;trivial
  split at h
  ·rename_i p q hx hy;cases hb:Wx P op T p q with
   |none=>rw[hb]at h;cases h
   |some r =>
    rw[hb]at h;cases h;refine SF (r:=r.1) (F:=r.2) hb ?_ ?_ ?_ ?_ ?_
    ·intro e';subst e';simp[oJ]at ht
    ·intro e';subst e';simp[oJ]at ht
    ·intro e';subst e';simp[oJ]at ht
    ·intro e';subst e';simp[oJ]at ht
    ·intro e';subst e';simp only[oJ,hx]at ht;split at ht
     ·rename_i k n hkn;cases hkn;exact⟨k,n,rfl⟩
     ·simp at ht
  ·cases h
 |_=>simp[oJ]at ht
theorem SD {P e H o a F} (h:rR P e H o=some (a,F)) (ht:oJ e o=true):F:=by
 cases o with
 |load T x =>
  simp only[rR]at h;simp only[oJ]at ht;split at h
  ·rename_i hx;rw[hx]at ht;cases ht
  ·cases h
 |fieldAddr T x f =>
  simp only[rR]at h;repeat (first|(cases h;trivial)|(cases h;done)|split at h)
 |call cc =>
  obtain⟨callee,args,types⟩:=cc;cases callee with
  |builtin b =>
   cases b<;>first|(simp[rR]at h;done)|skip
   all_goals
    simp only[rR]at h;repeat' (first|(focus (cases h;trivial))|(focus (cases h;done))|split at h)
  |_=>simp[rR]at h
 |slice T x lo hi mx=>simp[oJ]at ht
 |indexAddr T x i=>simp[oJ]at ht
 |field T x f=>simp[oJ]at ht
 |makeSlice T x y=>simp[oJ]at ht
 |_=>simp[rR]at h
theorem Q1 {P e H o a F} (h:Wp P e H o=some (a,F)) (ht:oJ e o=true):F:=by
 unfold Wp at h;split at h
 ·rename_i q hq;cases h;exact SD hq ht
 ·exact SE h ht
theorem SC {P e H o a H' F} (h:um P e H o=some (a,H',F)) (ht:htriv o=true):F:=by
 cases o with
 |alloc T =>
  simp only[um]at h;cases hz:yZ P T with
  |none=>rw[hz]at h;cases h
  |some z=>rw[hz]at h;cases h;trivial
 |box T x =>
  simp only[um]at h;cases hz:avCells (e x)with
  |none=>rw[hz]at h;cases h
  |some z=>rw[hz]at h;cases h;trivial
 |store T x y =>
  simp only[um]at h;repeat (first|(cases h;trivial)|(cases h;done)|split at h)
 |makeMap T r =>
  cases r<;>simp only[um]at h<;>first|(cases h;trivial)|cases h
 |_=>simp[htriv]at ht
def qN (P:HP) (e:G1->AV) (H:IU Box) (op:Op) (tags:IU (Nat×Bool)) (C:Prop) (K:AV->IU Box->Prop):Prop :=match Wp P e H op with
 |some (av,F)=>if oJ e op then K av H else
  match tags with
  |[]=>F/\K av H
  |_::_=>(C->F)/\K av H
 |none =>
  match tags with
  |[]=>match um P e H op with
   |some (av,H',F)=>if htriv op then K av H' else F/\K av H'
   |none=>HD
  |_::_=>HD
def rM (aas:IU AV) (H:IU Box):Nat:=ND H 4 (AV.tops aas)
def dl (n:Nat) (aas:IU AV) (H:IU Box):Bool:=decide (n<=H.length)&&Eb n aas&&(H.take n).all (ET n)
def normA (a:AV):AV :=match avD a with
 |some x=>.d x
 |none=>a
def Yl (P:HP) (G:Nat->IQ (IU D)) (k:Nat) (aas:IU AV) (H:IU Box) (K:AV->IU Box->Prop):Prop :=if dl (rM aas H) aas H then PCall P G k aas (H.take (rM aas H)) λrs H'=>H'=H.take (rM aas H)/\mR P (Wg P k) λds'=>rs=ds'/\K (resAV ds') H else HD
def Q2 (P:HP) (G:Nat->IQ (IU D)) (k:Nat) (aas:IU AV) (H:IU Box) (K:AV->IU Box->Prop):Prop :=if dl (rM aas H) aas H then PCall P G k aas (H.take (rM aas H)) λrs H'=>mR P (Wg P k) λds'=>rs=ds'/\exH (H.take (rM aas H)) λH''=>H'=H''/\K (resAV ds') (H''++H.drop (rM aas H))else HD
def Q3 (P:HP) (G:Nat->IQ (IU D)) (e:G1->AV) (f:G1) (args:IG G1) (T:TypeId) (H:IU Box) (K:AV->IU Box->Prop):Prop :=match e f with
 |.fsym o =>
  match (args.toList.map e).mapM avD with
  |some ds=>∃k,o=some k/\rN P k=true/\PFn P G k ds λrs=>mR P [T] λds'=>rs=ds'/\K (resAV ds') H
  |none=>HD
 |_=>HD
def nT (P:HP) (G:Nat->IQ (IU D)) (o:Hp) (tags:IU (Nat×Bool)) (C:Prop) (tm:IU AV) (H:IU Box) (K:AV->IU Box->Prop):Prop :=match o.op with
 |.pick (.tmp g) a b =>
  match yc tags tm g,ev G (yc ((g,true)::tags) tm) a,ev G (yc ((g,false)::tags) tm) b with
  |.d (.bool t),.d (.bool x),.d (.bool y)=>K (.d (.bool (bif t then x else y))) H
  |_,_,_=>HD
 |.call { callee:= .value f,args,argTypes:=_ } =>
  match calleeAV (ev G (yc tags tm) f)with
  |some (k,fi,ca) =>
   if rN P k then
    match (fi++args.toList.map (ev G (yc tags tm))++ca).mapM avD with
    |some ds=>PFn P G k ds λrs=>mR P (Wg P k) λds'=>rs=ds'/\K (resAV ds') H
    |none=>Yl P G k ((fi++args.toList.map (ev G (yc tags tm))++ca).map normA) H K
   else HD
  |none=>Q3 P G (ev G (yc tags tm)) f args o.type H K
 |op=>qN P (ev G (yc tags tm)) H op tags C K
def Q4 (P:HP) (G:Nat->IQ (IU D)) (k:Nat) (aas:IU AV) (H:IU Box) (K:AV->IU Box->Prop):Prop :=if H.all (ET H.length)&&Eb H.length aas then Q2 P G k aas (gk P H) K else HD
def iz (e:G1->AV):Op->IQ (Nat×IU AV)
 |.call { callee:= .value f,args,argTypes:=_ } =>
  match e f with
  |.yld l=>some (l,(args.toList.map e).map normA)
  |_=>none
 |_=>none
def bo (P:HP) (G:Nat->IQ (IU D)) (l:Nat) (aas:IU AV) (H:IU Box) (K:AV->IU Box->Prop):Prop :=if dl (rM (.yld l::aas) H) (.yld l::aas) H then PYield P G l aas (H.take (rM (.yld l::aas) H)) λrs H'=>∃b,rs=[.bool b]/\exH (H.take (rM (.yld l::aas) H)) λH''=>H'=H''/\K (.d (.bool b)) (H''++H.drop (rM (.yld l::aas) H))else HD
def argA (e:G1->AV):G1->AV
 |.const (.slice none 0 0)=>.nils
 |x=>normA (e x)
def Q5 (P:HP) (e:G1->AV) (op:Op):IQ (Nat×IU AV) :=match op with
 |.call { callee:= .value f,args,argTypes:=_ } =>
  match calleeAV (e f)with
  |some (k,fi,ca) =>
   if rN P k then
    match (fi++args.toList.map e++ca).mapM avD with
    |some _=>none
    |none=>some (k,fi.map normA++args.toList.map (argA e)++ca.map normA)
   else none
  |none=>none
 |_=>none
open Go.Sx renaming argA->zzz
section
variable {P:HP}{G:Nat->IQ (IU D)}{nb:Nat}{rd:IQ Nat}{c:Cx}{H:IU Box}{w:H5}{tm:IU AV}{a:HA}
def te (tmps:IG Value) (tags:IU (Nat×Bool)):Prop:= ∀g p,hasTag tags g p=true->tmps[g]? = some (.bool p)
theorem te.cons {tmps:IG Value}{tags:IU (Nat×Bool)}{g:Nat}{p:Bool}(h:te tmps tags) (hg:tmps[g]? = some (.bool p)):te tmps ((g,p)::tags):=by
 intro g' p' h';simp only[hasTag,F9,HC,HS,beq_iff_eq]at h';rcases h' with⟨rfl,rfl⟩|h'
 ·exact hg
 ·exact h g' p' h'
theorem RA.dull {x:AV}{v:Value}(h:RA c H w x v):RA c H w (dull x) v:=by cases x<;>first|exact h|exact .any v
theorem rL {tags:IU (Nat×Bool)}(hR:G9 G nb c H w tm a) (ht:te a.tmps tags) (t:Nat):RA c H w (yc tags tm t) (a.tmps.getD t undef):=by
 unfold yc;rw[Es];cases hx:tm[t]? with
 |none=>simp;exact .any _
 |some x =>
  obtain⟨v,hv,hs⟩:=hR.tm.get hx;have hv':a.tmps.getD t undef=v:=by simp only[Du]at hv;simp[FN,hv]
  rw[hv'];simp only[FT];cases x<;>simp only[xj]at hs<;>first
   |exact hs
   |skip
  rename_i g p y;simp only;split
  ·rename_i htag;exact(hs.1 (ht g p htag)).dull
  ·exact .any _
theorem yF {tags:IU (Nat×Bool)}(hR:G9 G nb c H w tm a) (ht:te a.tmps tags) (x:G1):RA c H w (ev G (yc tags tm) x) (a.eval x):=by
 cases x with
 |tmp t=>exact rL hR ht t
 |const v =>
  simp only[ev,HA.eval];split
  ·exact .full .nil
  ·exact .nilf
  ·split
   ·rename_i y hy;exact .d (iD hy)
   ·exact .any _
 |global g =>
  simp only[ev,HA.eval];split
  ·rename_i cs hg;exact .iptr λj y hy=>by simpa using hR.gr g cs hg j y hy
  ·exact .any _
 |func f=>exact .d (R1.fn f)
theorem mapM_avD:∀{aas:IU AV}{ds:IU D}{vs:IU Value},aas.mapM avD=some ds->zy (λv a=>RA c H w a v) vs aas->zy (RV c.I c.J w) vs ds
 |[],ds,vs,h,h2=>by simp at h;subst h;have:=h2.nil_right;subst this;exact Ga
 |a::aas,ds,vs,h,h2=>by
  rw[Db]at h;cases ha:avD a with
  |none=>rw[ha]at h;simp at h
  |some x =>
   rw[ha]at h;cases hr:aas.mapM avD with
   |none=>rw[hr]at h;simp at h
   |some xs =>
    rw[hr]at h;simp at h;subst h;obtain⟨v,vs',rfl,h3,h4⟩:=h2.cons_right;exact Gw (wB h3 ha) (mapM_avD hr h4)
theorem zy.map_ev {e:G1->AV}{r:G1->Value}(he:∀x,RA c H w (e x) (r x)):∀(l:IU G1),zy (λv a=>RA c H w a v) (l.map r) (l.map e)
 |[]=>Ga
 |x::l=>Gw (he x) (zy.map_ev he l)
theorem vm {r:G1->Value}{f:G1}{args:IG G1}{types:IG TypeId}{o:Hp}{k:Nat}{fv cv:IU Value}(ho:o.op = .call { callee:= .value f,args,argTypes:=types }) (hf:r f = .func (.func k) fv.toArray cv.toArray) (hok:rN P k=true):(execOp r o).run P w = .ok (.enter k (fv++args.toList.map r++cv).toArray) w:=by
 unfold rN at hok;cases hfn:P.funcs[k]? with
 |none=>rw[hfn]at hok;simp at hok
 |some fn =>
  rw[hfn]at hok;simp only[HC,Bool.not_eq_true']at hok;obtain⟨h1,h2⟩:=hok;have h3:fn.body.isNone=false:=by cases hb:fn.body with
   |none=>rw[hb]at h2;simp at h2
   |some b=>rfl
  have ha:fv.toArray++args.map r++cv.toArray=(fv++args.toList.map r++cv).toArray:=by apply FP;simp
  simp only[execOp,ho,resolve,Gk,hf,zyz,GF,Gm,invoke,callFunc,run_program,hfn,h1,FU,if_false,h3];rw[ha]
theorem iw {c':Cx}{H':IU Box}{w':H5}{v:Value}{rs:IU D}(h:bq c'.I c'.J w' v rs):RA c' H' w' (resAV rs) v:=by
 match rs with
 |[d]=>exact .d h
 |[] =>
  obtain⟨vs,rfl,h2⟩:=h;exact .tup (by simpa using h2.1.symm) (λi a v ha hv=>by simp at ha)
 |d1::d2::r =>
  obtain⟨vs,rfl,h2⟩:=h;refine .tup (by simpa using h2.1.symm) (λi a v ha hv=>?_);simp only[G5]at ha;cases hx:(d1::d2::r)[i]? with
  |none=>rw[hx]at ha;simp at ha
  |some y=>rw[hx]at ha;simp at ha;subst ha;exact .d (h2.2 i v y hv hx)
theorem wu {tags:IU (Nat×Bool)}{f:G1}{args:IG G1}{k:Nat}{fi ca:IU AV}(he:∀x,RA c H w (ev G (yc tags tm) x) (a.eval x)) (hcal:calleeAV (ev G (yc tags tm) f)=some (k,fi,ca)):∃fv cv:IU Value,a.eval f = .func (.func k) fv.toArray cv.toArray/\zy (λv a=>RA c H w a v) (fv++args.toList.map a.eval++cv) (fi++args.toList.map (ev G (yc tags tm))++ca):=by
 have hf:=he f;obtain⟨fv,cv,hfv,hfi,hca⟩:∃fv cv:IU Value,a.eval f = .func (.func k) fv.toArray cv.toArray/\zy (λv a=>RA c H w a v) fv fi/\zy (λv a=>RA c H w a v) cv ca:=by
  generalize a.eval f=vf at *;generalize ev G (yc tags tm) f=ef at *;cases hf with
  |@clo f' fi' ca' fv cv hl1 hl2 h1 h2 =>
   simp[calleeAV]at hcal;obtain⟨rfl,rfl,rfl⟩:=hcal;exact⟨fv,cv,rfl,⟨hl1.symm,λi v a hv ha=>h1 i a v ha hv⟩,⟨hl2.symm,λi v a hv ha=>h2 i a v ha hv⟩⟩
  |@d y _ hy =>
   cases y<;>simp[calleeAV]at hcal
   obtain⟨rfl,rfl,rfl⟩:=hcal;cases hy;exact⟨[],[],rfl,Ga,Ga⟩
  |_=>simp[calleeAV]at hcal
 exact⟨fv,cv,hfv,(hfi.append (zy.map_ev (e:=ev G (yc tags tm)) (r:=a.eval) he args.toList)).append hca⟩
theorem RA.normA {x:AV}{v:Value}(h:RA c H w x v):RA c H w (normA x) v:=by
 unfold Go.Sx.normA;split
 ·rename_i d hd;exact .d (wB h hd)
 ·exact h
theorem zy.normA {aas:IU AV}{vs:IU Value}(h:zy (λv a=>RA c H w a v) vs aas):zy (λv a=>RA c H w a v) vs (aas.map Go.Sx.normA):=by
 refine⟨by simp[h.1],λi v a hv ha=>?_⟩;simp only[G5]at ha;cases hx:aas[i]? with
 |none=>rw[hx]at ha;cases ha
 |some y=>rw[hx]at ha;cases ha;exact(h.2 i v y hv hx).normA
theorem gj {n:Nat}{aas:IU AV}{vs:IU Value}(hu:Eb n aas=true) (h:zy (λv a=>RA c H w a v) vs aas):zy (λv a=>RA (c.take n) (H.take n) w a v) vs aas :=⟨h.1,λi v a hv ha=>(h.2 i v a hv ha).take (xK hu ha)⟩
theorem dk {k:Nat}{aas:IU AV}{vs:IU Value}{Q:IU D->IU Box->Prop}{next:Value->H5->Prop}(hok:dl (rM aas H) aas H=true) (hr:HR c H w) (hg:GR G c w) (hvs:zy (λv a=>RA c H w a v) vs aas) (h:PCall P G k aas (H.take (rM aas H)) Q) (hn:∀v w' c' rs H1,Q rs H1->Hs c w c' w'->zl c H c' (H1++H.drop (rM aas H))->HR c' (H1++H.drop (rM aas H)) w'->RA c' (H1++H.drop (rM aas H)) w' (resAV rs) v->next v w'): Ef P k vs.toArray w λe w'=>∃v,e = .returned v/\next v w':=by unfold dl at hok;simp only[HC,HS]at hok;obtain⟨⟨h1,h2⟩,h3⟩:=hok;refine(h.run (c.take (rM aas H)) w vs (hr.take h3) (hg.ext (DU c w _)) (gj h2 hvs)).mono λen w' hen=>?_;obtain⟨v,rs,c',H1,rfl,hq,hl,hext,hk,hhr,hres⟩:=hen;obtain⟨e2,k2,hr2⟩:=dp h1 hr hext hk hl hhr;exact⟨v,rfl,hn v w' _ rs H1 hq e2 k2 hr2 (iw (c':= { c' with ρ:=c'.ρ++c.ρ.drop (rM aas H) }) hres)⟩
def Wf (c:Cx) (H:IU Box) (w:H5) (a:HA) (o:Hp) (K:AV->IU Box->Prop) (next:HA->H5->Prop):Prop :=∀v w' c' av H',K av H'->Hs c w c' w'->zl c H c' H'->HR c' H' w'->RA c' H' w' av v->next (a.put o.dst v) w'
theorem xJ {o:Hp}{k:Nat}{args:IG Value}{next:HA->H5->Prop}{Q:GW->HA->H5->Prop}(hnd:∀d,o.op ≠ .defer d) (h:(execOp a.eval o).run P w = .ok (.enter k args) w) (hc:Ef P k args w λe w'=>∃v,e = .returned v/\next (a.put o.dst v) w'):o.wpIn (vI rd) 0 P a w next Q:=by refine⟨λ_ _=>trivial,?_⟩;rw[EC _ _ _ hnd,h];refine⟨λh=>(by cases h),jm (hc.mono λe w' he=>?_)⟩;obtain⟨v,rfl,hx⟩:=he;exact hx
theorem td {o:Hp}{av:AV}{H':IU Box}{K:AV->IU Box->Prop}{next:HA->H5->Prop}{Q:GW->HA->H5->Prop}(hnd:∀d,o.op ≠ .defer d) (hg:nz P c H w (execOp a.eval o) av H') (hk:K av H') (hn:Wf c H w a o K next):o.wpIn (vI rd) 0 P a w next Q:=by
 obtain⟨n,v,w',c',h1,h2,h3,h4,h5,h6⟩:=hg;refine⟨λ_ _=>trivial,?_⟩;rw[EC _ _ _ hnd,h1];rcases h2 with rfl|⟨rfl,rfl⟩
 ·exact hn v w' c' av H' hk h3 h4 h5 h6
 ·exact hn undef w' c' av H' hk h3 h4 h5 h6
theorem We {e:G1->AV}{o:Op}{r:AV×Prop}(h:Wp P e H o=some r):∀d,o ≠ .defer d:=by rintro d rfl;simp[Wp,rR,xA]at h
theorem UT {e:G1->AV}{o:Op}{r:AV×IU Box×Prop}(h:um P e H o=some r):∀d,o ≠ .defer d:=by rintro d rfl;simp[um]at h
theorem sJ {o:Hp}{tags:IU (Nat×Bool)}{C:Prop}{K:AV->IU Box->Prop}{next:HA->H5->Prop}{Q:GW->HA->H5->Prop}(hR:G9 G nb c H w tm a) (ht:te a.tmps tags) (hC:C) (h:nT P G o tags C tm H K) (hn:Wf c H w a o K next):o.wpIn (vI rd) 0 P a w next Q:=by
 have he:=yF hR ht;unfold nT at h;split at h
 ·rename_i g x y hop;split at h
  ·rename_i t p q hg hx hy;have h1:=rL hR ht g;rw[hg]at h1;have hgb:a.tmps.getD g undef = .bool t:=h1.bool;have hgs:a.tmps[g]? = some (.bool t):=by
    rw[FN]at hgb;cases ht':a.tmps[g]? with
    |none=>rw[ht']at hgb;simp[undef]at hgb
    |some z=>rw[ht']at hgb;simp at hgb;rw[hgb]
   refine td (av:= .d (.bool (bif t then p else q))) (by rw[hop];intro d hd;cases hd) ?_ h hn;refine ul (v:= .bool (bif t then p else q)) (c':=c) ?_ (Fq _ _) (GV _ _) hR.hr (.d (EZ _));have hev:a.eval (.tmp g) = .bool t:=hgb;cases t with
   |true =>
    have:=yF hR (ht.cons hgs) x;rw[hx]at this;simp[execOp,hop,hev,asBool,this.bool]
   |false =>
    have:=yF hR (ht.cons hgs) y;rw[hy]at this;simp[execOp,hop,hev,asBool,this.bool]
  ·exact h.elim
 ·rename_i f args types hop;split at h
  ·rename_i k fi ca hcal;split at h
   ·rename_i hok;split at h
    ·rename_i ds hds;obtain⟨fv,cv,hfv,hargs⟩:=wu (args:=args) he hcal;have hrv:=mapM_avD hds hargs;refine xJ (by rw[hop];intro d hd;cases hd) (vm hop hfv hok) ?_;have hnil:HR { c with ρ:=[] } [] w:=hR.hr.nil;refine(h.2 { c with ρ:=[] } w _ rfl hnil hR.gr hrv).mono λen w' hen=>?_;obtain⟨v,rs,c',rfl,hq,hρ,hext,hhr,hres⟩:=hen;obtain⟨ds',rfl,hk⟩:=wv hq;obtain⟨e2,k2,h2⟩:=sK hR.hr hext hhr;exact⟨v,rfl,hn v w' _ (resAV rs) H hk e2 k2 h2 (iw (c':= { c' with ρ:=c.ρ }) hres)⟩
    ·obtain⟨fv,cv,hfv,hargs⟩:=wu (args:=args) he hcal;unfold Yl at h;split at h
     ·rename_i hsee;refine xJ (by rw[hop];intro d hd;cases hd) (vm hop hfv hok) ?_;refine(dk (next:=λv w'=>next (a.put o.dst v) w') hsee hR.hr hR.gr hargs.normA h ?_).mono λen w' hen=>hen
      ·intro v w' c' rs H1 hq e2 k2 hr2 hra;obtain⟨rfl,hq⟩:=hq;obtain⟨ds',rfl,hk⟩:=wv hq;rw[CD]at k2 hr2 hra;exact hn v w' c' (resAV rs) H hk e2 k2 hr2 hra
     ·exact h.elim
   ·exact h.elim
  ·unfold Q3 at h;split at h
   ·rename_i fo hfs;split at h
    ·rename_i ds hds;obtain⟨k,rfl,hok,h⟩:=h;have hf:=he f;rw[hfs]at hf;have hfv:a.eval f = .func (.func k) ([]:IU Value).toArray ([]:IU Value).toArray:=by generalize a.eval f=fv at hf;cases hf;rfl
     have hargs:=zy.map_ev he args.toList;have hrv:=mapM_avD hds hargs;refine xJ (by rw[hop];intro d hd;cases hd) (vm hop hfv hok) ?_;have hnil:HR { c with ρ:=[] } [] w:=hR.hr.nil;have hrv':zy (RV c.I c.J w) (([]:IU Value)++args.toList.map a.eval++[]) ds:=by simpa using hrv
     refine(h.2 { c with ρ:=[] } w _ rfl hnil hR.gr hrv').mono λen w' hen=>?_;obtain⟨v,rs,c',rfl,hq,hρ,hext,hhr,hres⟩:=hen;obtain⟨ds',rfl,hk⟩:=wv hq;obtain⟨e2,k2,h2⟩:=sK hR.hr hext hhr;exact⟨v,rfl,hn v w' _ (resAV rs) H hk e2 k2 h2 (iw (c':= { c' with ρ:=c.ρ }) hres)⟩
    ·exact h.elim
   ·exact h.elim
 ·unfold qN at h;split at h
  ·rename_i av F hf;split at h
   ·rename_i htr;exact td (We hf) (kn hR.hr he (λ_ _ e=>by subst e;rfl) hf (Q1 hf htr)) h hn
   ·split at h
    ·exact td (We hf) (kn hR.hr he (λ_ _ e=>by subst e;rfl) hf h.1) h.2 hn
    ·exact td (We hf) (kn hR.hr he (λ_ _ e=>by subst e;rfl) hf (h.1 hC)) h.2 hn
  ·split at h
   ·split at h
    ·rename_i av H' F hf;split at h
     ·rename_i htr;exact td (UT hf) (gp hR.hr he hf (SC hf htr)) h hn
     ·exact td (UT hf) (gp hR.hr he hf h.1) h.2 hn
    ·exact h.elim
   ·exact h.elim
theorem RA.argA {e:G1->AV}(he:∀x,RA c H w (e x) (a.eval x)) (x:G1):RA c H w (zzz e x) (a.eval x):=by
 unfold zzz;split
 ·exact .nils
 ·exact(he x).normA
theorem zy.argA {e:G1->AV}(he:∀x,RA c H w (e x) (a.eval x)) (l:IU G1):zy (λv a=>RA c H w a v) (l.map a.eval) (l.map (zzz e)):=by refine⟨by simp,λi v x hv hx=>?_⟩;rw[G5,Dv]at hv hx;obtain⟨y,hy,rfl⟩:=hv;obtain⟨z,hz,rfl⟩:=hx;rw[hy]at hz;cases hz;exact RA.argA he y
theorem bn {f:G1}{args:IG G1}{k:Nat}{fi ca:IU AV}(he:∀x,RA c H w (ev G (yc [] tm) x) (a.eval x)) (hcal:calleeAV (ev G (yc [] tm) f)=some (k,fi,ca)):∃fv cv:IU Value,a.eval f = .func (.func k) fv.toArray cv.toArray/\zy (λv a=>RA c H w a v) (fv++args.toList.map a.eval++cv) (fi.map normA++args.toList.map (zzz (ev G (yc [] tm)))++ca.map normA):=by
 have hf:=he f;obtain⟨fv,cv,hfv,hfi,hca⟩:∃fv cv:IU Value,a.eval f = .func (.func k) fv.toArray cv.toArray/\zy (λv a=>RA c H w a v) fv fi/\zy (λv a=>RA c H w a v) cv ca:=by
  generalize a.eval f=vf at *;generalize ev G (yc [] tm) f=ef at *;cases hf with
  |@clo f' fi' ca' fv cv hl1 hl2 h1 h2 =>
   simp[calleeAV]at hcal;obtain⟨rfl,rfl,rfl⟩:=hcal;exact⟨fv,cv,rfl,⟨hl1.symm,λi v a hv ha=>h1 i a v ha hv⟩,⟨hl2.symm,λi v a hv ha=>h2 i a v ha hv⟩⟩
  |@d y _ hy =>
   cases y<;>simp[calleeAV]at hcal
   obtain⟨rfl,rfl,rfl⟩:=hcal;cases hy;exact⟨[],[],rfl,Ga,Ga⟩
  |_=>simp[calleeAV]at hcal
 exact⟨fv,cv,hfv,(hfi.normA.append (zy.argA he args.toList)).append hca.normA⟩
theorem Yk {o:Hp}{k:Nat}{aas:IU AV}{K:AV->IU Box->Prop}{next:HA->H5->Prop}{Q:GW->HA->H5->Prop}(hR:G9 G nb c H w tm a) (hh:Q5 P (ev G (yc [] tm)) o.op=some (k,aas)) (h:Q4 P G k aas H K) (hn:Wf c H w a o K next):o.wpIn (vI rd) 0 P a w next Q:=by
 have he:=yF (tags:=[]) hR (λg p h=>by simp[hasTag]at h);unfold Q5 at hh;split at hh
 ·rename_i f args types hop;split at hh
  ·rename_i k' fi ca hcal;split at hh
   ·rename_i hok;split at hh
    ·cases hh
    ·simp only[Er,Dm]at hh;obtain⟨rfl,rfl⟩:=hh;obtain⟨fv,cv,hfv,hargsA⟩:=bn (args:=args) he hcal;unfold Q4 at h;split at h
     ·rename_i hun;simp only[HC]at hun;obtain⟨c9,hr9,e9,k9,t9⟩:=hR.hr.tok (P:=P) hun.1;have hargs9:zy (λv a=>RA c9 (gk P H) w a v) (fv++args.toList.map a.eval++cv) (fi.map normA++args.toList.map (argA (ev G (yc [] tm)))++ca.map normA) :=
       ⟨hargsA.1,λi v a hv ha=>t9 a v (xK hun.2 ha) (hargsA.2 i v a hv ha)⟩
      unfold Q2 at h;split at h
      ·rename_i hsee;refine xJ (by rw[hop];intro d hd;cases hd) (vm hop hfv hok) ?_;refine(dk (next:=λv w'=>next (a.put o.dst v) w') hsee hr9 (hR.gr.ext e9) hargs9 h ?_).mono λen w' hen=>hen;intro v w' c' rs H1 hq e2 k2 hr2 hra;obtain⟨ds',rfl,hq⟩:=wv hq;obtain⟨H'',rfl,hk⟩:=exH_some hq;exact hn v w' c' (resAV rs) _ hk (e9.trans e2) (k9.trans k2) hr2 hra
      ·exact h.elim
     ·exact h.elim
   ·cases hh
  ·cases hh
 ·cases hh
theorem ji {o:Hp}{tags:IU (Nat×Bool)}{l:Nat}{aas:IU AV}{K:AV->IU Box->Prop}{next:HA->H5->Prop}{Q:GW->HA->H5->Prop}(hR:G9 G nb c H w tm a) (htg:te a.tmps tags) (hh:iz (ev G (yc tags tm)) o.op=some (l,aas)) (h:bo P G l aas H K) (hn:Wf c H w a o K next):o.wpIn (vI rd) 0 P a w next Q:=by
 have he:=yF (tags:=tags) hR htg;unfold iz at hh;split at hh
 ·rename_i f args types hop;split at hh
  ·rename_i l' hl';simp only[Er,Dm]at hh;obtain⟨rfl,rfl⟩:=hh;have hf:=he f;rw[hl']at hf;generalize hfv:a.eval f=fv at hf;cases hf with
   |@yld _ b k tm' ps asn bd pend st hH hρ =>
   unfold bo at h;split at h
   ·rename_i hsee;generalize hn':rM (.yld l'::(args.toList.map (ev G (yc tags tm))).map normA) H=n at h hsee;unfold dl at hsee;simp only[HC,HS,Eb,AV.under]at hsee;obtain⟨⟨h1,h2,h2'⟩,h3⟩:=hsee;have hargs:zy (λv a=>RA (c.take n) (H.take n) w a v) (args.toList.map a.eval) ((args.toList.map (ev G (yc tags tm))).map normA):=gj h2' (zy.map_ev he args.toList).normA;have hρ':(c.take n).ρ[l']? = some (some (b,k)):=by show(c.ρ.take n)[l']? = _;rw[zG h2];exact hρ
    obtain⟨f2,tmps,asn2,bd2,h4,h5⟩:=h.run (c.take n) w (args.toList.map a.eval) b k (hR.hr.take h3) (hR.gr.ext (DU c w _)) hρ' hargs;refine⟨λ_ _=>trivial,?_⟩;have hrun:(execOp a.eval o).run P w = .ok (.round b f2 tmps asn2 bd2) w:=by
     have e1:args.map a.eval=(args.toList.map a.eval).toArray:=by apply FP;simp
     simp only[execOp,hop,resolve,Gk,hfv,zyz,GF,Gm,invoke];rw[←h4,e1];simp
    rw[EC _ _ _ (by rw[hop];intro d hd;cases hd),hrun];refine⟨λh=>(by cases h),?_⟩;refine RoundIn.mono (F:=zz9) h5 λen w' hen=>?_;obtain⟨v,rs,c',H1,rfl,⟨bb,rfl,hq⟩,hl,hext,hk,hhr,hres⟩:=hen;obtain⟨H'',rfl,hk2⟩:=exH_some hq;obtain⟨e2,k2,hr2⟩:=dp h1 hR.hr hext hk hl hhr;exact hn v w' _ (.d (.bool bb)) _ hk2 e2 k2 hr2 (iw (c':= { c' with ρ:=c'.ρ++c.ρ.drop n }) (rs:=[.bool bb]) hres)
   ·exact h.elim
  ·cases hh
 ·cases hh
theorem Yj {o:Hp}{tags:IU (Nat×Bool)}{C:Prop}{K:AV->IU Box->Prop}(h:nT P G o tags C tm H K) (hne:tags≠[]):∃av,K av H:=by
 unfold nT at h;split at h
 ·split at h
  ·exact⟨_,h⟩
  ·exact h.elim
 ·split at h
  ·split at h
   ·split at h
    ·obtain⟨rs,hrs⟩:=h.1;obtain⟨ds',_,hk⟩:=wv hrs;exact⟨_,hk⟩
    ·unfold Yl at h;split at h
     ·obtain⟨rs,H',_,hrs⟩:=h.1;obtain⟨ds',_,hk⟩:=wv hrs;exact⟨_,hk⟩
     ·exact h.elim
   ·exact h.elim
  ·unfold Q3 at h;split at h
   ·split at h
    ·obtain⟨k,_,_,h⟩:=h;obtain⟨rs,hrs⟩:=h.1;obtain⟨ds',_,hk⟩:=wv hrs;exact⟨_,hk⟩
    ·exact h.elim
   ·exact h.elim
 ·unfold qN at h;split at h
  ·split at h
   ·exact⟨_,h⟩
   ·split at h
    ·exact Hu rfl hne
    ·exact⟨_,h.2⟩
  ·split at h
   ·exact Hu rfl hne
   ·exact h.elim
end
def chain:Nat->IU AV->Nat->Bool->IQ (IU (Nat×Bool)×Prop)
 |0,_,_,_=>none
 |n+1,tm,g,p =>
  match tm.getD g .any with
  |.d (.bool b)=>some ([(g,p)],b=p)
  |.opt g' p' (.d (.bool b)) =>
   match chain n tm g' p' with
   |some (tags,C)=>some ((g,p)::tags,C/\b=p)
   |none=>none
  |_=>none
def cuts:He->Bool
 |.region _ ops _=>ops.toList.any λo=>match o.op with
  |.slice _ _ none (some _) (some _)=>true
  |_=>false
 |.seq a b=>cuts a||cuts b
 |_=>false
def Wd (P:HP) (e:G1->AV) (op:Op):IQ (Nat×IU D) :=match op with
 |.call { callee:= .value f,args,argTypes:=_ } =>
  match calleeAV (e f)with
  |some (k,fi,ca) =>
   match P.funcs[k]? with
   |some fn =>
    match fn.resultTypes.toList with
    |[T] =>
     match P.underlying T with
     |some (.slice _) =>
      match fn.body with
      |some code =>
       if cuts code&&rN P k then
        match (fi++args.toList.map e++ca).mapM avD with
        |some ds=>some (k,ds)
        |none=>none
       else none
      |none=>none
     |_=>none
    |_=>none
   |none=>none
  |none=>none
 |_=>none
def noLoop:He->Bool
 |.loop _=>false
 |.rangeFunc _ _ _ _=>false
 |.seq a b=>noLoop a&&noLoop b
 |.cond _ a b=>noLoop a&&noLoop b
 |.block _ c=>noLoop c
 |.scope c=>noLoop c
 |_=>true
def grows:He->Bool
 |.region _ ops _=>(ops.toList.any λo=>match o.op with
  |.buildSlice _ 0 _=>true
  |_=>false)&&ops.toList.any λo=>match o.op with
  |.call { callee:= .builtin .append,args:=_,argTypes:=_ }=>true
  |_=>false
 |.seq a b=>grows a||grows b
 |.cond _ a b=>grows a||grows b
 |.block _ c=>grows c
 |_=>false
def Q6 (P:HP) (e:G1->AV) (op:Op):IQ (Nat×IU D×Nat) :=match op with
 |.call { callee:= .value f,args,argTypes:=_ } =>
  match calleeAV (e f)with
  |some (k,fi,ca) =>
   match P.funcs[k]? with
   |some fn =>
    match fn.resultTypes.toList with
    |[T] =>
     match P.underlying T with
     |some (.slice E) =>
      match P.info? E with
      |some i =>
       match fn.body with
       |some code =>
        if noLoop code&&grows code&&rN P k then
         match (fi++args.toList.map e++ca).mapM avD with
         |some ds=>some (k,ds,i.size)
         |none=>none
        else none
       |none=>none
      |none=>none
     |_=>none
    |_=>none
   |none=>none
  |none=>none
 |_=>none
def gi (P:HP) (G:Nat->IQ (IU D)):IU Hp->IU AV->IU Box->IQ (IU AV×IU Box)
 |[],tm,H=>some (tm,H)
 |o::r,tm,H =>
  match um P (ev G (yc [] tm)) H o.op with
  |some (av,H',_)=>gi P G r (yP tm o.dst (dull av)) H'
  |none=>match Wp P (ev G (yc [] tm)) H o.op with
   |some (av,_)=>gi P G r (yP tm o.dst (dull av)) H
   |none=>none
def Q7 (P:HP) (G:Nat->IQ (IU D)):He->IU AV->IU Box->IQ (IU AV×IU Box)
 |.region _ ops false,tm,H=>gi P G ops.toList tm H
 |.seq a b,tm,H=>match Q7 P G a tm H with
  |some (tm',H')=>Q7 P G b tm' H'
  |none=>none
 |.ret,tm,H=>some (tm,H)
 |.skip,tm,H=>some (tm,H)
 |_,_,_=>none
def US (P:HP) (fn:Func):Bool :=match fn.resultTypes.toList with
 |[T]=>match P.underlying T with
  |some (.func _ _ _)=>true
  |_=>false
 |_=>false
def bm (P:HP) (G:Nat->IQ (IU D)) (e:G1->AV) (H:IU Box) (op:Op):IQ (Nat×IU AV×AV×IU Box) :=match op with
 |.call { callee:= .value (.func k),args,argTypes:=_ } =>
  match P.funcs[k]? with
  |some fn =>
   if US P fn&&rN P k then
    match fn.body,fn.results.toList with
    |some code,[.tmp t] =>
     match Q7 P G code (args.toList.map e++G8 (fn.ntmps - args.size) .any) H with
     |some (tm',H')=>some (k,args.toList.map e,yc [] tm' t,H'.drop H.length)
     |none=>none
    |_,_=>none
   else none
  |none=>none
 |_=>none
def dj (P:HP) (G:Nat->IQ (IU D)) (ops:IG Hp) (o:Hp) (tm:IU AV) (H:IU Box) (K:IU AV->IU Box->Prop):Prop :=match o.guard with
 |none =>
  match iz (ev G (yc [] tm)) o.op with
  |some (l,aas)=>bo P G l aas H λav H'=>K (yP tm o.dst (dull av)) H'
  |none =>
  match bm P G (ev G (yc [] tm)) H o.op with
  |some (k,aas,av,N)=>PMaker P G k aas H av N/\K (yP tm o.dst (dull av)) (H++N)
  |none =>
  match Q6 P (ev G (yc [] tm)) o.op with
  |some (k,ds,sz)=>PFnV P G k ds sz λl=>K (yP tm o.dst (.vec H.length l)) (H++[.vec l.length sz])
  |none =>
  match Wd P (ev G (yc [] tm)) o.op with
  |some (k,ds)=>PFnF P G k ds λl=>K (yP tm o.dst (.full l)) H
  |none =>
  match Q5 P (ev G (yc [] tm)) o.op with
  |some (k,aas)=>Q4 P G k aas H λav H'=>K (yP tm o.dst (dull av)) H'
  |none =>
  match RF P (ev G (yc [] tm)) H ops o.dst o.op with
  |some (av,H',F)=>F/\K (yP tm o.dst (dull av)) H'
  |none=>nT P G o [] IN tm H λav H'=>K (yP tm o.dst (dull av)) H'
 |some (j,p) =>
  match (ops[j]?).bind (·.dst)with
  |some g =>
   if o.dst=some g then HD else
   match chain 9 tm g p with
   |some (tags,C) =>
    match iz (ev G (yc tags tm)) o.op with
    |some (l,aas)=>(C->bo P G l aas H λav H'=>K (yP tm o.dst (.opt g p (dull av))) H')/\(C∨K (yP tm o.dst (.opt g p (.d (.bool true)))) H)
    |none=>nT P G o tags C tm H λav H'=>K (yP tm o.dst (.opt g p (dull av))) H'
   |none=>HD
  |none=>HD
def sk (P:HP) (G:Nat->IQ (IU D)) (ops:IG Hp):IU Hp->IU AV->IU Box->(IU AV->IU Box->Prop)->Prop
 |[],tm,H,K=>K tm H
 |o::rest,tm,H,K=>dj P G ops o tm H λtm' H'=>sk P G ops rest tm' H' K
section
variable {P:HP}{G:Nat->IQ (IU D)}{nb:Nat}{rd:IQ Nat}{c:Cx}{H:IU Box}{w:H5}{tm:IU AV}{a:HA}
theorem di {g:Nat}{b:Bool}(hR:G9 G nb c H w tm a) (hg:tm.getD g .any = .d (.bool b)):a.tmps[g]? = some (.bool b):=by
 rw[Es]at hg;cases hx:tm[g]? with
 |none=>rw[hx]at hg;simp at hg
 |some x =>
  rw[hx]at hg;simp at hg;subst hg;obtain⟨v,hv,hs⟩:=hR.tm.get hx;simp only[xj]at hs;have:=hs.bool;subst this;simpa using hv
theorem qM (hR:G9 G nb c H w tm a):∀(n g:Nat) (p:Bool) (tags:IU (Nat×Bool)) (C:Prop),a.tmps[g]? = some (.bool p)->chain n tm g p=some (tags,C)->C/\te a.tmps tags/\tags≠[]
 |0,_,_,_,_,_,h=>by simp[chain]at h
 |n+1,g,p,tags,C,hg,h=>by
  simp only[chain]at h;split at h
  ·rename_i b hb;cases h;have h1:=di hR hb;rw[hg]at h1;simp at h1;refine⟨h1.symm,?_,by simp⟩;exact te.cons (λg p h=>by simp[hasTag]at h) hg
  ·rename_i g' p' b hb;cases hc:chain n tm g' p' with
   |none=>rw[hc]at h;cases h
   |some q =>
    obtain⟨tags',C'⟩:=q;rw[hc]at h;cases h;rw[Es]at hb;cases hx:tm[g]? with
    |none=>rw[hx]at hb;simp at hb
    |some x =>
     rw[hx]at hb;simp at hb;subst hb;obtain⟨v,hv,hs⟩:=hR.tm.get hx;have hv':v = .bool p:=by simp only[Du]at hv;rw[hg]at hv;simpa using hv.symm
     simp only[xj]at hs;have hg':a.tmps[g']? = some (.bool p'):=by
      rcases EA (a.tmps[g']? = some (.bool p'))with h1|h1
      ·exact h1
      ·have:=hs.2 h1;rw[hv']at this;simp[undef]at this
     obtain⟨h1,h2,h3⟩:=qM hR n g' p' tags' C' hg' hc;have hbp:b=p:=by have:=(hs.1 hg').bool;rw[hv']at this;simpa using this.symm
     exact⟨⟨h1,hbp⟩,h2.cons hg,by simp⟩
  ·cases h
theorem yE (a:HA) (d:Nat) (v:Value):(a.put (some d) v).tmps=a.tmps.setIfInBounds d v:=rfl
theorem Rep.put {c':Cx}{H':IU Box}{w':H5}{v:Value}{av:AV}(hR:G9 G nb c H w tm a) (e:Hs c w c' w') (k:zl c H c' H') (hr:HR c' H' w') (d:IQ Nat) (hv:xj c' H' w' (a.put d v).tmps av v):G9 G nb c' H' w' (yP tm d av) (a.put d v):=by
 cases d with
 |none=>exact⟨hr,hR.gr.ext e,hR.tm.ext e k,hR.df.ext e⟩
 |some d =>
  refine⟨hr,hR.gr.ext e,?_,hR.df.ext e⟩;have htm:=hR.tm.ext e k;refine⟨by simp only[yE,yP];simp;have:=htm.1;simpa using this,λt u x hu hx=>?_⟩;simp only[yE,IG.toList_setIfInBounds]at hu;simp only[yP]at hx;rw[E4]at hu hx;by_cases htd:d=t
  ·subst htd;simp only[if_true]at hu hx;split at hu
   ·rename_i h1;split at hx
    ·simp at hu hx;subst hu;subst hx;exact hv
    ·simp at hx
   ·simp at hu
  ·rw[IE htd]at hu hx;simp only[G5]at hx;cases hy:tm[t]? with
   |none=>rw[hy]at hx;simp at hx
   |some y =>
    rw[hy]at hx;simp at hx;have hs:=htm.2 t u y hu hy;subst hx;cases y<;>simp only[MD]<;>first
     |exact hs
     |skip
    rename_i g p z;split
    ·exact RA.any _
    ·rename_i hgd;simp only[xj]at hs ⊢;have:(a.put (some d) v).tmps[g]? = a.tmps[g]? :=by rw[yE,EW];simp[D0 hgd]
     rw[this];exact hs
theorem xS {tmps:IG Value}{av:AV}{v:Value}(h:RA c H w av v):xj c H w tmps (dull av) v:=by have:=h.dull;cases av<;>exact this
theorem Nt {e:G1->AV}{ops:IG Hp}{d:IQ Nat}{o:Op}{r:AV×IU Box×Prop}(h:RF P e H ops d o=some r):∀x,o ≠ .defer x:=by rintro x rfl;simp[RF]at h
theorem Wc {o:Hp}{k:Nat}{ds:IU D}{K:AV->IU Box->Prop}{next:HA->H5->Prop}{Q:GW->HA->H5->Prop}(hR:G9 G nb c H w tm a) (hh:Wd P (ev G (yc [] tm)) o.op=some (k,ds)) (h:PFnF P G k ds λl=>K (.full l) H) (hn:Wf c H w a o K next):o.wpIn (vI rd) 0 P a w next Q:=by
 have he:=yF (tags:=[]) hR (λg p h=>by simp[hasTag]at h);unfold Wd at hh;split at hh
 ·rename_i f args types hop;split at hh
  ·rename_i k' fi ca hcal;split at hh
   ·split at hh
    ·split at hh
     ·split at hh
      ·split at hh
       ·rename_i hok;simp only[HC]at hok;split at hh
        ·rename_i ds' hds;cases hh;obtain⟨fv,cv,hfv,hargs⟩:=wu (args:=args) he hcal;have hrv:=mapM_avD hds hargs;refine xJ (by rw[hop];intro d hd;cases hd) (vm hop hfv hok.2) ?_;have hnil:HR { c with ρ:=[] } [] w:=hR.hr.nil;refine(h.run { c with ρ:=[] } w _ rfl hnil hR.gr hrv).mono λen w' hen=>?_;obtain⟨v,l,c',rfl,hk,hρ,hext,hhr,hres⟩:=hen;obtain⟨e2,k2,h2⟩:=sK hR.hr hext hhr;refine⟨v,rfl,hn v w' _ (.full l) H hk e2 k2 h2 ?_⟩;cases hres with
         |full h=>exact .full h
        ·cases hh
       ·cases hh
      ·cases hh
     ·cases hh
    ·cases hh
   ·cases hh
  ·cases hh
 ·cases hh
theorem Yi {o:Hp}{k:Nat}{aas:IU AV}{av:AV}{N:IU Box}{K:AV->IU Box->Prop}{next:HA->H5->Prop}{Q:GW->HA->H5->Prop}(hR:G9 G nb c H w tm a) (hh:bm P G (ev G (yc [] tm)) H o.op=some (k,aas,av,N)) (h:PMaker P G k aas H av N) (hk:K av (H++N)) (hn:Wf c H w a o K next):o.wpIn (vI rd) 0 P a w next Q:=by
 have he:=yF (tags:=[]) hR (λg p h=>by simp[hasTag]at h);unfold bm at hh;split at hh
 ·rename_i k' args types hop;split at hh
  ·split at hh
   ·rename_i hok;simp only[HC]at hok;split at hh
    ·split at hh
     ·cases hh;have hcal:calleeAV (ev G (yc [] tm) (.func k))=some (k,[],[]):=rfl;obtain⟨fv,cv,hfv,hargs⟩:=wu (args:=args) he hcal;refine xJ (by rw[hop];intro d hd;cases hd) (vm hop hfv hok.2) ?_;have hargs':zy (λv a=>RA c H w a v) (fv++args.toList.map a.eval++cv) (args.toList.map (ev G (yc [] tm))):=by simpa using hargs
      refine(h.run c w _ hR.hr hR.gr hargs').mono λen w' hen=>?_;obtain⟨v,c',rfl,e2,k2,h2,hra⟩:=hen;exact⟨v,rfl,hn v w' c' _ _ hk e2 k2 h2 hra⟩
     ·cases hh
    ·cases hh
   ·cases hh
  ·cases hh
 ·cases hh
theorem SB {o:Hp}{k sz:Nat}{ds:IU D}{K:AV->IU Box->Prop}{next:HA->H5->Prop}{Q:GW->HA->H5->Prop}(hR:G9 G nb c H w tm a) (hh:Q6 P (ev G (yc [] tm)) o.op=some (k,ds,sz)) (h:PFnV P G k ds sz λl=>K (.vec H.length l) (H++[.vec l.length sz])) (hn:Wf c H w a o K next):o.wpIn (vI rd) 0 P a w next Q:=by
 have he:=yF (tags:=[]) hR (λg p h=>by simp[hasTag]at h);unfold Q6 at hh;split at hh
 ·rename_i f args types hop;split at hh
  ·rename_i k' fi ca hcal;split at hh
   ·split at hh
    ·split at hh
     ·split at hh
      ·split at hh
       ·split at hh
        ·rename_i hok;simp only[HC]at hok;split at hh
         ·rename_i ds' hds;cases hh;obtain⟨fv,cv,hfv,hargs⟩:=wu (args:=args) he hcal;have hrv:=mapM_avD hds hargs;refine xJ (by rw[hop];intro d hd;cases hd) (vm hop hfv hok.2) ?_;have hnil:HR { c with ρ:=[] } [] w:=hR.hr.nil;refine(h.run { c with ρ:=[] } w _ rfl hnil hR.gr hrv).mono λen w' hen=>?_;obtain⟨v,l,c',rfl,hk,hext,hhr,hres⟩:=hen;obtain⟨e2,k2,h2,hra⟩:=Wj hR.hr hext hhr hres;exact⟨v,rfl,hn v w' _ (.vec H.length l) _ hk e2 k2 h2 hra⟩
         ·cases hh
        ·cases hh
       ·cases hh
      ·cases hh
     ·cases hh
    ·cases hh
   ·cases hh
  ·cases hh
 ·cases hh
theorem gh (hR:G9 G nb c H w tm a):∀(n g:Nat) (p:Bool) (tags:IU (Nat×Bool)) (C:Prop),chain n tm g p=some (tags,C)->C->a.tmps[g]? = some (.bool p)
 |0,g,p,tags,C,h,_=>by simp[chain]at h
 |n+1,g,p,tags,C,h,hC=>by
  unfold chain at h;split at h
  ·rename_i b hb;cases h;rw[←hC];exact di hR hb
  ·rename_i g' p' b hb;split at h
   ·rename_i tags' C' hch;cases h;obtain⟨h1,h2⟩:=hC;have h3:=gh hR n g' p' tags' C' hch h1;have hx:tm[g]? = some (.opt g' p' (.d (.bool b))):=by
     rw[Es]at hb;cases hq:tm[g]? with
     |none=>rw[hq]at hb;cases hb
     |some y=>rw[hq]at hb;exact Gv some hb
    obtain⟨v,hv,hs⟩:=hR.tm.get hx;have:=(hs.1 h3).bool;subst this;rw[←h2];simpa using hv
   ·cases h
  ·cases h
theorem gg {ops:IG Hp}{o:Hp}{i:Nat}{next:HA->H5->Prop}{K:IU AV->IU Box->Prop}{Q:GW->HA->H5->Prop}(ho:ops[i]? = some o) (hR:G9 G nb c H w tm a) (h:dj P G ops o tm H K) (hn:∀a' w' c' tm' H',K tm' H'->G9 G nb c' H' w' tm' a'->Hs c w c' w'->zl c H c' H'->next a' w'):wpOpIn (vI rd) 0 P ops Q i next a w:=by
 simp only[wpOpIn,ho];unfold dj at h;split at h
 ·rename_i hg;have hw:Fr o (yielded ops a.tmps)=true:=by simp[Fr,hg]
  rw[Hv hw];split at h
  ·rename_i l aas hh;refine ji hR (λg p h=>by simp[hasTag]at h) hh h ?_;intro v w' c' av H' hk e k hr hra;exact hn _ w' c' _ H' hk (hR.put e k hr o.dst (xS hra)) e k
  split at h
  ·rename_i k aas av N hh;refine Yi (K:=λav H'=>K (yP tm o.dst (dull av)) H') hR hh h.1 h.2 ?_;intro v w' c' av H' hk e k hr hra;exact hn _ w' c' _ H' hk (hR.put e k hr o.dst (xS hra)) e k
  split at h
  ·rename_i k ds sz hh;refine SB (K:=λav H'=>K (yP tm o.dst (dull av)) H') hR hh h ?_;intro v w' c' av H' hk e k hr hra;exact hn _ w' c' _ H' hk (hR.put e k hr o.dst (xS hra)) e k
  split at h
  ·rename_i k ds hh;refine Wc (K:=λav H'=>K (yP tm o.dst (dull av)) H') hR hh h ?_;intro v w' c' av H' hk e k hr hra;exact hn _ w' c' _ H' hk (hR.put e k hr o.dst (xS hra)) e k
  split at h
  ·rename_i k aas hh;refine Yk hR hh h ?_;intro v w' c' av H' hk e k hr hra;exact hn _ w' c' _ H' hk (hR.put e k hr o.dst (xS hra)) e k
  split at h
  ·rename_i av H' F hh;refine td (K:=λav2 H2=>av2=av/\H2=H') (Nt hh) (Wm hR.hr (yF hR (λg p h=>by simp[hasTag]at h)) hh h.1) ⟨rfl,rfl⟩ ?_;intro v w' c' av2 H2 hk e k hr hra;obtain⟨rfl,rfl⟩:=hk;exact hn _ w' c' _ _ h.2 (hR.put e k hr o.dst (xS hra)) e k
  ·refine sJ hR (λg p h=>by simp[hasTag]at h) trivial h ?_;intro v w' c' av H' hk e k hr hra;exact hn _ w' c' _ H' hk (hR.put e k hr o.dst (xS hra)) e k
 ·rename_i j p hg;split at h
  ·rename_i g hgd;split at h
   ·exact h.elim
   ·rename_i hne;split at h
    ·rename_i tags C hch;have hyield:yielded ops a.tmps j=match a.tmps[g]? with|some (.bool b)=>some b|_=>none:=by unfold yielded;rw[hgd];rfl
     have hgp:∀v,(a.put o.dst v).tmps[g]? = a.tmps[g]? :=by
      intro v;cases hd:o.dst with
      |none=>rfl
      |some d =>
       rw[yE,EW];have:d≠g:=λe=>hne (by rw[hd,e]);simp[this]
     by_cases hw:Fr o (yielded ops a.tmps)=true
     ·rw[Hv hw];have hgt:a.tmps[g]? = some (.bool p):=by
       simp only[Fr,hg,hyield]at hw;split at hw
       ·rename_i b hb;simp at hw;subst hw;exact hb
       ·simp at hw
      obtain⟨hC,htags,_⟩:=qM hR 9 g p tags C hgt hch;split at h
      ·rename_i l aas hh;refine ji hR htags hh (h.1 hC) ?_;intro v w' c' av H' hk e k hr hra;refine hn _ w' c' _ H' hk (hR.put e k hr o.dst ?_) e k;refine⟨λ_=>hra.dull,λhno=>?_⟩;rw[hgp]at hno;exact Hu hgt hno
      refine sJ hR htags hC h ?_;intro v w' c' av H' hk e k hr hra;refine hn _ w' c' _ H' hk (hR.put e k hr o.dst ?_) e k;refine⟨λ_=>hra.dull,λhno=>?_⟩;rw[hgp]at hno;exact Hu hgt hno
     ·rw[IE hw];refine⟨λ_ _=>trivial,?_⟩;have hne':tags≠[]:=by
       intro h0;subst h0;revert hch;generalize tm=tm';intro hch;simp only[chain]at hch;split at hch
       ·cases hch
       ·split at hch
        ·cases hch
        ·cases hch
       ·cases hch
      split at h
      ·have hk:=h.2.resolve_left λhC=>by have hyes:=gh hR 9 g p tags C hch hC;exact Hu (by simp[Fr,hg,hyield,hyes]) hw
       refine hn _ w c _ H hk (hR.put (Fq _ _) (GV _ _) hR.hr o.dst ?_) (Fq _ _) (GV _ _);refine⟨λhyes=>?_,λ_=>rfl⟩;rw[hgp]at hyes;exact Hu (by simp[Fr,hg,hyield,hyes]) hw
      obtain⟨av,hk⟩:=Yj h hne';refine hn _ w c _ H hk (hR.put (Fq _ _) (GV _ _) hR.hr o.dst ?_) (Fq _ _) (GV _ _);refine⟨λhyes=>?_,λ_=>rfl⟩;rw[hgp]at hyes;exact Hu (by simp[Fr,hg,hyield,hyes]) hw
    ·exact h.elim
  ·exact h.elim
theorem qL {ops:IG Hp}{o:Hp}{i:Nat}{rest:IU Nat}{K:IU AV->IU Box->Prop}{Q:GW->HA->H5->Prop}(ho:ops[i]? = some o) (hR:G9 G nb c H w tm a) (h:dj P G ops o tm H K) (hn:∀a' w' c' tm' H',K tm' H'->G9 G nb c' H' w' tm' a'->Hs c w c' w'->zl c H c' H'->wpOpsIn (vI rd) 0 P ops Q rest a' w'):wpOpsIn (vI rd) 0 P ops Q (i::rest) a w:=by rw[wpOpsIn_cons];exact gg ho hR h hn
theorem gf {ops:IG Hp}{K:IU AV->IU Box->Prop}{Q:GW->HA->H5->Prop}:∀(l:IU Hp) (i:Nat) (c:Cx) (H:IU Box) (w:H5) (tm:IU AV) (a:HA),ops.toList.drop i=l->G9 G nb c H w tm a->sk P G ops l tm H K->(∀a' w' c' tm' H',K tm' H'->G9 G nb c' H' w' tm' a'->Hs c w c' w'->zl c H c' H'->Q .normal a' w')->wpOpsIn (vI rd) 0 P ops Q (Dk i l.length) a w
 |[],i,c,H,w,tm,a,_,hR,h,hq=>hq a w c tm H h hR (Fq _ _) (GV _ _)
 |o::l,i,c,H,w,tm,a,hl,hR,h,hq=>by
  have ho:ops[i]? = some o:=by have:=Gv (λx=>x[0]?) hl;simpa using this
  have hl':ops.toList.drop (i+1)=l:=by have:=Gv IU.tail hl;simpa using this
  rw[F2,IU.range'_succ];refine qL ho hR h ?_;intro a' w' c' tm' H' hk hR' e k;exact gf l (i+1) c' H' w' tm' a' hl' hR' hk λa2 w2 c2 tm2 H2 hk2 hR2 e2 k2=>hq a2 w2 c2 tm2 H2 hk2 hR2 (e.trans e2) (k.trans k2)
theorem Rep.clear (hR:G9 G nb c H w tm a):G9 G nb c H w (zW tm) a:=by
 refine⟨hR.hr,hR.gr,⟨by simp[zW];have:=hR.tm.1;simpa using this,λt v x hv hx=>?_⟩,hR.df⟩;simp only[zW,G5]at hx;cases hy:tm[t]? with
 |none=>rw[hy]at hx;simp at hx
 |some y =>
  rw[hy]at hx;simp at hx;subst hx;have hs:=hR.tm.2 t v y hv hy;cases y<;>first
   |exact hs
   |exact RA.any _
end
def uk (acc:IU Nat) (o:Hp):Nat :=o.after.toList.foldl (λs e=>if Ed .any e then(s|||2 ^ e.on)|||acc.getD e.on 0 else s) 0
def masksFrom:IU Hp->IU Nat->IU Nat
 |[],acc=>acc
 |o::r,acc=>masksFrom r (acc++[uk acc o])
def mQ (ops:IG Hp):IU Nat:=masksFrom ops.toList []
def xU (ops:IG Hp) (j i:Nat):Bool:=((mQ ops).getD j 0).testBit i
theorem bl {acc:IU Nat}{o:Hp}{i:Nat}(h:(uk acc o).testBit i=true):∃e∈o.after.toList,Ed .any e=true/\(i=e.on∨(acc.getD e.on 0).testBit i=true):=by
 unfold uk at h;have key:∀(es:IU Edge) (s:Nat),(es.foldl (λs e=>if Ed .any e then(s|||2 ^ e.on)|||acc.getD e.on 0 else s) s).testBit i=true ->
   s.testBit i=true∨ ∃e∈es,Ed .any e=true/\(i=e.on∨(acc.getD e.on 0).testBit i=true):=by
  intro es;induction es with
  |nil=>intro s h;exact .inl h
  |cons e es ih =>
   intro s h;simp only[CY]at h;rcases ih _ h with h1|⟨e',he',h2⟩
   ·split at h1
    ·rename_i hb;rw[zwu,zwu,F9,F9]at h1;rcases h1 with (h1|h1)|h1
     ·exact .inl h1
     ·right;refine⟨e,by simp,hb,.inl ?_⟩;rw[Nat.testBit_two_pow]at h1;simpa using (of_decide_eq_true h1).symm
     ·exact .inr ⟨e,by simp,hb,.inr h1⟩
    ·exact .inl h1
   ·exact .inr ⟨e',by simp[he'],h2⟩
 rcases key _ 0 h with h1|h1
 ·simp at h1
 ·exact h1
theorem masksFrom_get:∀(l:IU Hp) (acc:IU Nat) (j:Nat),(masksFrom l acc).length=acc.length+l.length/\(j<acc.length->(masksFrom l acc)[j]? = acc[j]?)/\(∀o,acc.length<=j->l[j - acc.length]? = some o->(masksFrom l acc)[j]? = some (uk ((masksFrom l acc).take j) o))
 |[],acc,j=>by simp[masksFrom]
 |o::l,acc,j=>by
  obtain⟨h1,h2,h3⟩:=masksFrom_get l (acc++[uk acc o]) j;simp only[masksFrom];refine⟨by rw[h1];simp;omega,λhj=>?_,λp hj hp=>?_⟩
  ·rw[h2 (by simp;omega),Ez hj]
  ·by_cases he:j=acc.length
   ·subst he;simp at hp;subst hp;have e1:=h2 (by simp);rw[e1];have htake:(masksFrom l (acc++[uk acc o])).take acc.length=acc:=by
     apply DO;intro i;by_cases hi:i<acc.length
     ·rw[Fa,Hv hi,(masksFrom_get l (acc++[uk acc o]) i).2.1 (by simp;omega),Ez hi]
     ·rw[Fa,IE hi,Gt (by omega)]
    rw[htake];simp
   ·have:j - acc.length=(j - (acc++[uk acc o]).length)+1:=by simp;omega
    rw[this]at hp;simp only[zzH]at hp;exact h3 p (by simp;omega) hp
theorem ge {ops:IG Hp}{j i:Nat}{o:Hp}(ho:ops[j]? = some o) (h:xU ops j i=true):∃e∈o.after.toList,Ed .any e=true/\(i=e.on∨(e.on<j/\xU ops e.on i=true)):=by
 have ho':ops.toList[j]? = some o:=by simpa using ho
 have hg:=(masksFrom_get ops.toList [] j).2.2 o (by simp) (by simpa using ho');unfold xU at h;rw[Es]at h;unfold mQ at h;rw[hg]at h;simp only[FT]at h;obtain⟨e,he,hb,h1⟩:=bl h;refine⟨e,he,hb,?_⟩;rcases h1 with h1|h1
 ·exact .inl h1
 ·right;rw[Es,Fa]at h1;split at h1
  ·rename_i hlt;exact⟨hlt,by unfold xU mQ;rw[Es];exact h1⟩
  ·simp at h1
def xV (ops:IG Hp) (listed:IG Bool):Prop:= ∀j i,listed.getD j false=true->xU ops j i=true->listed.getD i false=true
theorem wJ {ops:IG Hp}{listed:IG Bool}{j:Nat}{o:Hp}(hc:xV ops listed) (ho:ops[j]? = some o) (hr:j∈Ek .any ops listed):∀i,xU ops j i=true->listed.getD i false=true:=by
 intro i hi;simp only[Ek,IU.mem_filter,ho,Fi,FT,HC]at hr;obtain⟨e,he,hb,h1⟩:=ge ho hi;have he':e∈o.after:=by simpa using he
 have h2:=(IG.all_eq_true_iff_forall_mem.1 hr.2.2) e he';simp only[hb,Bool.not_true,Bool.false_or]at h2;rcases h1 with rfl|⟨_,h1⟩
 ·exact h2
 ·exact hc _ _ h2 h1
def isCallV:Op->Bool
 |.call { callee:= .value _,.. }=>true
 |_=>false
def isAllocO:Op->Bool
 |.alloc _=>true
 |_=>false
def isTail:Op->Bool
 |.store _ _ _=>true
 |.mapUpdate _ _ _ _=>true
 |.insert _ _ _ _=>true
 |.box _ _=>true
 |.makeMap _ _=>true
 |.call { callee:= .builtin .append,.. }=>true
 |_=>false
def zi (ops:IG Hp):Nat:=ops.toList.findIdx λo=>isTail o.op
def zm (ops:IG Hp) (i:Nat):Hp:=ops.getD i default
def uj (m:Nat):IU Hp->Nat->IU AV->IU AV
 |[],_,tm=>tm
 |o::r,k,tm =>
  let tm':=uj m r (k+1) tm;match o.dst with
  |some d=>if m.testBit k&& !isAllocO o.op then tm' else tm'.set d .any
  |none=>tm'
def kl (ops:IG Hp) (j:Nat) (tm:IU AV):IU AV:=uj ((mQ ops).getD j 0) ops.toList 0 tm
def wh (tm:IU AV) (d:IQ Nat) (a:AV):IU AV :=match d with
 |some d=>tm.set d a
 |none=>tm
def UR (ops:IG Hp):Nat->IU Nat->IU Nat->IU Nat
 |0,_,done=>done
 |n+1,todo,done =>
  match todo.find? λi=>!isCallV (zm ops i).op&&(todo.all λk=>!xU ops i k)with
  |some i=>UR ops n (todo.erase i) (done++[i])
  |none=>match todo.find? λi=>(todo.all λk=>!xU ops i k)with
   |some i=>UR ops n (todo.erase i) (done++[i])
   |none=>done
def sI (ops:IG Hp):IU Nat:=(Gp (zi ops)).filter λi=>!isAllocO (zm ops i).op
def ny (ops:IG Hp):IU Nat:=UR ops (zi ops) (sI ops) []
def nodupB:IU Nat->Bool
 |[]=>true
 |x::r=>!r.contains x&&nodupB r
def vN (ops:IG Hp) (hs:IU Nat):IU Nat->IU Nat->Bool
 |[],done=>hs.all λi=>done.contains i
 |i::r,done=>hs.contains i&& !done.contains i&&(hs.all λk=>!xU ops i k||done.contains k) &&
   (!isCallV (zm ops i).op||r.all λk=>xU ops k i)&&vN ops hs r (done++[i])
def kj (ops:IG Hp):Bool :=nodupB (ops.toList.filterMap (·.dst)) && ((Gp ops.size).all λj=>(zm ops j).after.toList.all λe=>!Ed .any e||decide (e.on<j)) && ((Gp ops.size).all λj=>decide (j<zi ops)||(Gp j).all λi=>xU ops j i) && ((Gp (zi ops)).all λj=>!isAllocO (zm ops j).op||((zm ops j).guard.isNone&&(zm ops j).dst.isSome)) && vN ops (sI ops) (ny ops) []
def wR (P:HP) (G:Nat->IQ (IU D)) (ops:IG Hp) (i:Nat) (tv:IU AV) (H:IU Box) (K:AV->AV->IU Box->Prop):Prop :=match (zm ops i).guard with
 |none=>nT P G (zm ops i) [] IN tv H λav H'=>K av (dull av) H'
 |some (j,p) =>
  match (ops[j]?).bind (·.dst)with
  |some g =>
   if(zm ops i).dst=some g then HD else
   match chain 9 tv g p with
   |some (tags,C)=>nT P G (zm ops i) tags C tv H λav H'=>K av (.opt g p (dull av)) H'
   |none=>HD
  |none=>HD
def gd (P:HP) (G:Nat->IQ (IU D)) (ops:IG Hp):IU Nat->IU AV->IU Box->(IU AV->Prop)->Prop
 |[],tm,_,K=>K tm
 |i::r,tm,H,K=>wR P G ops i (kl ops i tm) H λ_ a _=>gd P G ops r (wh tm (zm ops i).dst a) H K
def sj (ops:IG Hp) (C:Nat->TypeId->IQ (IU AV)):IU Nat->IU AV->IU Box->(IU AV->IU Box->Prop)->Prop
 |[],tm,H,K=>K tm H
 |i::r,tm,H,K =>
  match (zm ops i).op with
  |.alloc T=>match C i T with
   |some cs=>sj ops C r (wh tm (zm ops i).dst (.ptr H.length 0)) (H++[.cells T cs]) K
   |none=>HD
  |_=>HD
def mP (P:HP) (T:TypeId):IQ (IU AV):=(yZ P T).map λz=>z.cells.toList.map vq
abbrev xg (P:HP) (ops:IG Hp):IU Nat->IU AV->IU Box->(IU AV->IU Box->Prop)->Prop:=sj ops λ_ T=>mP P T
def zQ (ops:IG Hp):IU Nat:=(Gp (zi ops)).filter λi=>isAllocO (zm ops i).op
def noOptB:AV->Bool
 |.opt _ _ _=>false
 |_=>true
def UQ (P:HP) (G:Nat->IQ (IU D)) (ops:IG Hp) (tm:IU AV) (H:IU Box) (K:IU AV->IU Box->Prop):Prop :=if kj ops&&tm.all noOptB&&(ops.toList.all λo=>match o.dst with|some d=>decide (d<tm.length)|none=>true)&&(ops.toList.all λo=>match o.op with|.alloc T=>(yZ P T).isSome|_=>true)then gd P G ops (ny ops) tm H λtm1=>xg P ops (zQ ops) (zW tm1) H λtm2 H2=>sk P G ops (ops.toList.drop (zi ops)) tm2 H2 K else HD
section
variable {P:HP}{G:Nat->IQ (IU D)}{nb:Nat}{rd:IQ Nat}{c:Cx}{H:IU Box}{w:H5}{tm:IU AV}{a:HA}{ops:IG Hp}
theorem dg {e:G1->AV}{o:Op}(h1:isTail o=false) (h2:isAllocO o=false):um P e H o=none:=by
 cases o with
 |call cc =>
  obtain⟨callee,args,types⟩:=cc;cases callee with
  |builtin b=>cases b<;>first|rfl|(simp[isTail]at h1)
  |_=>rfl
 |_=>first|rfl|(simp[isTail]at h1;done)|(simp[isAllocO]at h2;done)
theorem exTys_mono:∀(l:IU TypeId) (K1 K2:IU D->Prop),(∀ds,K1 ds->K2 ds)->mR P l K1->mR P l K2:=by
 have kS:∀(s:Sh) (K1 K2:D->Prop),(∀d,K1 d->K2 d)->exSh s K1->exSh s K2:=by intro s K1 K2 hk h;cases s<;>(obtain⟨x,hx⟩:=h;exact⟨x,hk _ hx⟩)
 have kSs:∀(l:IU Sh) (K1 K2:IU D->Prop),(∀d,K1 d->K2 d)->exShs l K1->exShs l K2:=by
  intro l;induction l with
  |nil=>intro K1 K2 hk h;exact hk _ h
  |cons s l ih=>intro K1 K2 hk h;exact kS s _ _ (λd hd=>ih _ _ (λds hds=>hk _ hds) hd) h
 intro l;induction l with
 |nil=>intro K1 K2 hk h;exact hk _ h
 |cons T l ih =>
  intro K1 K2 hk h;simp only[mR,Nu]at h ⊢;split at h
  ·exact kSs _ _ _ (λcs hcs=>ih _ _ (λds hds=>hk _ hds) hcs) h
  ·exact h.elim
theorem tc {o:Hp}{tags:IU (Nat×Bool)}{C:Prop}{K:AV->IU Box->Prop}(h1:isTail o.op=false) (h2:isAllocO o.op=false) (h:nT P G o tags C tm H K):(∃av,K av H/\∀K2:AV->IU Box->Prop,K2 av H->nT P G o tags C tm H K2) ∨(isCallV o.op=true/\∀K2:AV->IU Box->Prop,(∀av,K av H->K2 av H)->nT P G o tags C tm H K2):=by
 unfold nT at h;split at h
 ·rename_i g x y hop;split at h
  ·rename_i t p q hg hx hy;refine .inl ⟨_,h,λK2 hk=>?_⟩;unfold nT;rw[hop];simp only[hg,hx,hy];exact hk
  ·exact h.elim
 ·rename_i f args types hop;right;refine⟨by rw[hop];rfl,λK2 hk=>?_⟩;unfold nT;rw[hop];split at h
  ·rename_i k fi ca hcal;simp only[hcal];split at h
   ·rename_i hok;rw[Hv hok];split at h
    ·rename_i ds hds;exact h.mono λrs hrs=>exTys_mono _ _ _ (λds hd=>⟨hd.1,hk _ hd.2⟩) hrs
    ·unfold Yl at h ⊢;split at h
     ·rename_i hsee;rw[Hv hsee];exact h.mono λrs H' hrs=>⟨hrs.1,exTys_mono _ _ _ (λds hd=>⟨hd.1,hk _ hd.2⟩) hrs.2⟩
     ·exact h.elim
   ·exact h.elim
  ·rename_i hcal;simp only[hcal];unfold Q3 at h ⊢;split at h
   ·split at h
    ·obtain⟨k,h3,h4,h5⟩:=h;exact⟨k,h3,h4,h5.mono λrs hrs=>exTys_mono _ _ _ (λds hd=>⟨hd.1,hk _ hd.2⟩) hrs⟩
    ·exact h.elim
   ·exact h.elim
 ·rename_i op hp hc;left;have e:∀K2:AV->IU Box->Prop,nT P G o tags C tm H K2=qN P (ev G (yc tags tm)) H o.op tags C K2:=by
   intro K2;unfold nT;split
   ·rename_i h3;exact Hu h3 (hp _ _ _)
   ·rename_i h3;exact Hu h3 (hc _ _ _)
   ·rfl
  unfold qN at h;cases hf:Wp P (ev G (yc tags tm)) H o.op with
  |none =>
   rw[hf]at h;simp only[dg h1 h2]at h;cases tags<;>exact h.elim
  |some q =>
   obtain⟨av,F⟩:=q;rw[hf]at h;simp only at h;cases htr:oJ (ev G (yc tags tm)) o.op with
   |true =>
    rw[htr]at h;refine⟨av,by simpa using h,λK2 hk=>?_⟩;rw[e];unfold qN;rw[hf];simp only[htr,if_true];exact hk
   |false =>
    rw[htr]at h;simp only[FU,if_false]at h;have h3:K av H:=by cases tags<;>exact h.2
    refine⟨av,h3,λK2 hk=>?_⟩;rw[e];unfold qN;rw[hf];simp only[htr,FU,if_false];cases tags<;>exact⟨h.1,hk⟩
theorem Yh {o:Hp}{tags:IU (Nat×Bool)}{C:Prop}{K:AV->IU Box->Prop}(h1:isTail o.op=false) (h2:isAllocO o.op=false) (h:nT P G o tags C tm H K):nT P G o tags C tm H λav H'=>H'=H/\K av H':=by
 rcases tc h1 h2 h with⟨av,h3,h4⟩|⟨_,h4⟩
 ·exact h4 _ ⟨rfl,h3⟩
 ·exact h4 _ λav h=>⟨rfl,h⟩
theorem ki {i:Nat}{tv:IU AV}{K:AV->AV->IU Box->Prop}(h0:isCallV (zm ops i).op=false) (h1:isTail (zm ops i).op=false) (h2:isAllocO (zm ops i).op=false) (h:wR P G ops i tv H K):∃av a',K av a' H/\wR P G ops i tv H λ_ a2 H2=>H2=H/\a2=a':=by
 unfold wR at h;split at h
 ·rename_i hg;rcases tc h1 h2 h with⟨av,h3,h4⟩|⟨h4,_⟩
  ·refine⟨av,dull av,h3,?_⟩;unfold wR;rw[hg];exact h4 _ ⟨rfl,rfl⟩
  ·rw[h0]at h4;cases h4
 ·rename_i j p hg;split at h
  ·rename_i g hgd;split at h
   ·exact h.elim
   ·rename_i hne;split at h
    ·rename_i tags C hch;rcases tc h1 h2 h with⟨av,h3,h4⟩|⟨h4,_⟩
     ·refine⟨av,.opt g p (dull av),h3,?_⟩;unfold wR;rw[hg];simp only[hgd,IE hne,hch];exact h4 _ ⟨rfl,rfl⟩
     ·rw[h0]at h4;cases h4
    ·exact h.elim
  ·exact h.elim
theorem ui {i:Nat}{o:Hp}{tv:IU AV}{K:AV->AV->IU Box->Prop}{Q:GW->HA->H5->Prop}{next:HA->H5->Prop}(ho:ops[i]? = some o) (hR:G9 G nb c H w tv a) (h1:isTail o.op=false) (h2:isAllocO o.op=false) (h:wR P G ops i tv H K) (hn:∀v w' c' av a',K av a' H->Hs c w c' w'->zl c H c' H->HR c' H w'->xj c' H w' (a.put o.dst v).tmps a' v->next (a.put o.dst v) w'): wpOpIn (vI rd) 0 P ops Q i next a w:=by
 have hoa:zm ops i=o:=by simp[zm,FN,ho]
 unfold wR at h;rw[hoa]at h;unfold wpOpIn;rw[ho];simp only;split at h
 ·rename_i hg;have hw:Fr o (yielded ops a.tmps)=true:=by simp[Fr,hg]
  rw[Hv hw];refine sJ hR (λg p h=>by simp[hasTag]at h) trivial (Yh h1 h2 h) ?_;intro v w' c' av H' hk e k hr hra;obtain⟨rfl,hk⟩:=hk;exact hn v w' c' av _ hk e k hr (xS hra)
 ·rename_i j p hg;split at h
  ·rename_i g hgd;split at h
   ·exact h.elim
   ·rename_i hne;split at h
    ·rename_i tags C hch;have hyield:yielded ops a.tmps j=match a.tmps[g]? with|some (.bool b)=>some b|_=>none:=by unfold yielded;rw[hgd];rfl
     have hgp:∀v,(a.put o.dst v).tmps[g]? = a.tmps[g]? :=by
      intro v;cases hd:o.dst with
      |none=>rfl
      |some d =>
       rw[yE,EW];have:d≠g:=λe=>hne (by rw[hd,e]);simp[this]
     by_cases hw:Fr o (yielded ops a.tmps)=true
     ·rw[Hv hw];have hgt:a.tmps[g]? = some (.bool p):=by
       simp only[Fr,hg,hyield]at hw;split at hw
       ·rename_i b hb;simp at hw;subst hw;exact hb
       ·simp at hw
      obtain⟨hC,htags,_⟩:=qM hR 9 g p tags C hgt hch;refine sJ hR htags hC (Yh h1 h2 h) ?_;intro v w' c' av H' hk e k hr hra;obtain⟨rfl,hk⟩:=hk;refine hn v w' c' av _ hk e k hr ⟨λ_=>hra.dull,λhno=>?_⟩;rw[hgp]at hno;exact Hu hgt hno
     ·rw[IE hw];refine⟨λ_ _=>trivial,?_⟩;have hne':tags≠[]:=by
       intro h0;subst h0;simp only[chain]at hch;split at hch
       ·cases hch
       ·split at hch
        ·cases hch
        ·cases hch
       ·cases hch
      obtain⟨av,hk⟩:=Yj h hne';refine hn undef w c av _ hk (Fq _ _) (GV _ _) hR.hr ⟨λhyes=>?_,λ_=>rfl⟩;rw[hgp]at hyes;exact Hu (by simp[Fr,hg,hyield,hyes]) hw
    ·exact h.elim
  ·exact h.elim
end
end Go.Sx
