/- The typed machine: the abstract machine's steps over typed data, in the style of continuations, so that the kernel can compute what a function does with unknown arguments. Definitions alone. What the typed machine comes to, the abstract machine comes to: one operation. What the typed machine comes to, the abstract machine comes to: operations. What the typed machine comes to, the abstract machine comes to: every operation but calls. What the typed machine comes to, the abstract machine comes to: any operation that calls no function of the program's. What the typed machine comes to, the abstract machine comes to: calls, regions, code. The typed machine is sound: what it computes of a function, a call of it comes to on the abstract machine. Plain lemmas for reading what the typed machine computes: numbers, sets as bits, rounds over a list. -/
import Derived.Test.YtdmfjabikomgiaaGreatMachC
namespace Go.Ab
inductive Leaf(TC:Type)(Ty:TC->Type)where|i(k:IntKind)(n:Int)|b(x:Bool)|s(l:List UInt8)|l(c:TC)(xs:List (Ty c))|o(v:Value)
structure Sig where
 TC:Type
 [dec:DecidableEq TC]Ty:TC->Type
 enc:(c:TC)->Ty c->D
 cells:(c:TC)->Ty c->List (Leaf TC Ty)ofCells:(c:TC)->List (Leaf TC Ty)->Option (Ty c)agg:TC->Bool
 size:TC->Nat
 elem:TypeId->Option TC
 lists:TypeId->List (Option TC)
attribute [instance] Sig.dec
variable (S : Sig)
inductive PD where|lf(x:Leaf S.TC S.Ty)|ag(cs:List (Leaf S.TC S.Ty))
inductive TL where|undef|skipped|d(x:PD S)|own(c:S.TC)(xs:List (S.Ty c))(lent:Bool)|loc(p:Place)|elt(p:Place)(i off:Nat)|seg(p:Place)(lo hi:Nat)|ptr(o off:Nat)|view(cs:List (Leaf S.TC S.Ty))|fn(f:Nat)(caps:List (Nat×Nat))|ref(o:Nat)
inductive TV where|fl(x:TL S)|agg(cs:List (TL S))|tup(vs:List (TL S))
abbrev TEnv:=List (Nat×TV S)
abbrev THeap:=List (List (TL S))
structure TSt where
 env:TEnv S
 heap:THeap S
variable {S}
def leafD:Leaf S.TC S.Ty->D|.i k n=>.v (.int k n)|.b x=>.v (.bool x)|.s l=>.v (.string ⟨⟨l⟩⟩)|.l c xs=>.list (xs.map (S.enc c))|.o v=>.v v
def PD.toD:PD S->D|.lf x=>leafD x|.ag cs=>.agg (cs.map leafD)
def TL.toA:TL S->AV|.undef=>.undef|.skipped=>.skipped|.d x=>.d x.toD|.own c xs l=>.own (xs.map (S.enc c)) l|.loc p=>.loc p|.elt p i off=>.elt p i off|.seg p i off=>.seg p i off|.ptr o off=>.ptr o off|.view cs=>.view (cs.map leafD)|.fn f caps=>.fn f caps|.ref o=>.ref o
def TV.toA:TV S->AV|.fl x=>x.toA|.agg cs=>.agg (cs.map TL.toA)|.tup vs=>.tup (vs.map TL.toA)
def envA(e:TEnv S):Env:=e.map fun(k,v)=>(k,v.toA)
def heapA(h:THeap S):Heap:=h.map fun cs=>cs.map TL.toA
def TSt.toS(s:TSt S):St:={env:=envA s.env,heap:=heapA s.heap}
def packT(g:Bool)(cs:List (Leaf S.TC S.Ty)):PD S:=if g then .ag cs else match cs with|x::_=>.lf x|[]=>.ag []
structure Sig.Ok(S:Sig)(P:Program):Prop where
 enc_eq:∀c x,S.enc c x=(packT (S:=S) (S.agg c) (S.cells c x)).toD
 of_eq:∀c cs x,S.ofCells c cs=some x->(S.cells c x).map (leafD (S:=S))=cs.map leafD
 inj:∀c x y,S.enc c x=S.enc c y->x=y
 len:∀c x,(S.cells c x).length=S.size c
 pos:∀c,0<S.size c
 one:∀c,S.agg c=false->S.size c=1
 elem:∀t c,S.elem t=some c->∃e,q2n P t=some e/\tyAgg P e=some (S.agg c)/\q0p P e=some (S.size c)
def getT:TEnv S->Nat->TV S|[],_=>.fl .undef|(k,v)::r,t=>if k=t then v else getT r t
def setT:TEnv S->Nat->TV S->TEnv S|[],t,v=>[(t,v)]|(k,u)::r,t,v=>if t<k then(t,v)::(k,u)::r else if t=k then(t,v)::r else(k,u)::setT r t v
def qaj:TEnv S->Nat->TEnv S|[],_=>[]|(k,u)::r,t=>if k=t then qaj r t else(k,u)::qaj r t
def qqt(e:TEnv S):List Nat->TEnv S|[]=>e|t::r=>qqt (qaj e t) r
def replT:TEnv S->Nat->TV S->TEnv S|[],_,_=>[]|(k,u)::r,t,v=>if k=t then(k,v)::r else(k,u)::replT r t v
def TV.placed:TV S->Bool|.fl (.loc _)|.fl (.elt ..)|.fl (.seg ..)=>true|_=>false
def TV.isOwn:TV S->Bool|.fl (.own ..)=>true|_=>false
def TL.isOwn:TL S->Bool|.own .. =>true|_=>false
def killT:TEnv S->TEnv S|[]=>[]|(k,v)::r=>if v.placed then qaj (killT r) k else(k,v)::killT r
def TV.sitsAt(t:Nat):TV S->Bool|.fl (.loc (.slot u))=>u==t|.fl (.elt (.slot u) _ _)=>u==t|.fl (.seg (.slot u) _ _)=>u==t|_=>false
def q90(t:Nat):TEnv S->TEnv S|[]=>[]|(k,v)::r=>if v.sitsAt t then qaj (q90 t r) k else(k,v)::q90 t r
def putT(e:TEnv S)(t:Nat)(v:TV S):TEnv S:=match v with|.fl .undef=>qaj (if(getT e t).isOwn then q90 t e else e) t|.fl (.own c xs l)=>setT (q90 t e) t (.fl (.own c xs l))|v=>setT (if(getT e t).isOwn then q90 t e else e) t v
def TSt.put(s:TSt S)(dst:Option Nat)(v:TV S):TSt S:=match dst with|some t=>{s with env:=putT s.env t v}|none=>s
def TSt.del(s:TSt S):List Nat->TSt S|[]=>s|t::r=>TSt.del {s with env:=putT s.env t (.fl .undef)} r
def qde(c:Option S.TC):Value->Option (TL S)
 |.slice none 0 0=>match c with|some c=>some (.own c [] false)|none=>none
 |.slice .. |.agg _|.tuple _|.func .. |.map (some _)|.chan (some _)|.iface .. |.pointer (some _)=>none|.int k n=>some (.d (.lf (.i k n)))|.bool x=>some (.d (.lf (.b x)))|.string ⟨⟨l⟩⟩=>some (.d (.lf (.s l)))|v=>some (.d (.lf (.o v)))
def qd9:List (Option S.TC)->List Value->Option (List (TL S))|_,[]=>some []|cs,v::r=>match qde (cs.headD none) v,qd9 cs.tail r with|some x,some xs=>some (x::xs)|_,_=>none
def qh5(cs:List (Option S.TC)):Value->TV S
 |.agg vs=>match qd9 cs vs.toList with|some xs=>.agg xs|none=>.fl .undef
 |v=>match qde (cs.headD none) v with|some x=>.fl x|none=>.fl .undef
def qck(cs:List (Option S.TC)):Value->Option (List (TL S))|.agg vs=>qd9 cs vs.toList|v=>match qde (cs.headD none) v with|some x=>some [x]|none=>none
def TV.cells:TV S->List (TL S)|.agg cs=>cs|.fl (.d (.ag cs))=>cs.map fun x=>.d (.lf x)|.fl x=>[x]|.tup _=>[]
def qo4:TL S->Option (Leaf S.TC S.Ty)|.d (.lf x)=>some x|.own c xs _=>some (.l c xs)|_=>none
def q4k:List (TL S)->Option (List (Leaf S.TC S.Ty))|[]=>some []|c::r=>match qo4 c,q4k r with|some x,some xs=>some (x::xs)|_,_=>none
def qjy:TV S->Option (PD S)
 |.agg cs=>match q4k cs with|some ds=>some (.ag ds)|none=>none
 |.fl (.d x)=>some x|.fl (.own c xs _)=>some (.lf (.l c xs))|_=>none
def TL.noAg:TL S->Bool|.d (.ag _)=>false|_=>true
def keepT(fl:Flag)(v:TV S):Option (TV S):=match fl,v with
 |.view,.fl (.own c xs _)=>some (.fl (.d (.lf (.l c xs))))|.view,.agg cs=>match q4k cs with|some ds=>some (.fl (.d (.ag ds)))|none=>if cs.all TL.noAg then some (.agg cs)else none
 |_,v=>some v
def qg5:List (TL S)->Bool|[]=>true|.own _ _ l::r=>l&&qg5 r|_::r=>qg5 r
def cellT(h:THeap S)(o off:Nat):TL S:=match h[o]? with|some cs=>(cs[off]?).getD .undef|none=>.undef
def qcm(h:THeap S)(o off:Nat)(v:TL S):THeap S:=match h[o]? with|some cs=>h.set o (cs.set off v)|none=>h
def q2k(s:TSt S):Place->TV S|.slot t=>getT s.env t|.cell o off=>.fl (cellT s.heap o off)
def qbc(s:TSt S)(p:Place)(v:TL S):TSt S:=match p with|.slot t=>{s with env:=putT s.env t (.fl v)}|.cell o off=>{env:=killT s.env,heap:=qcm s.heap o off v}
def q5h(s:TSt S)(p:Place)(v:TL S):TSt S:=match p with|.slot t=>{s with env:=setT s.env t (.fl v)}|.cell o off=>{s with heap:=qcm s.heap o off v}
inductive LK(TC:Type)where|i(k:IntKind)|b|s|l(c:TC)
inductive OT(S:Sig)where|lf(k:LK S.TC)|own(c:S.TC)(lent:Bool)|ag(c:S.TC)|ptr(o off:Nat)|fn(f:Nat)(caps:List (Nat×Nat))|ref(o:Nat)|undef
structure OSpec(S:Sig)where res:List (OT S)heap:List (List (OT S))
structure TEn where
 E:Env0
 S:Sig
 res:FuncId->List (OT S)news:FuncId->List (List (OT S))cut:FuncId->Nat->Bool
 outs:FuncId->Option (List (List (OT S))):=fun _=>none
variable {T : TEn}
def evT(T:TEn)(s:TSt T.S)(t:TypeId):Operand->TV T.S|.tmp t=>getT s.env t|.const v=>qh5 (T.S.lists t) v|.global _=>.fl .undef|.func f=>.fl (.fn f [])
def y6z:TV S->Option (PD S)|.fl (.d x)=>some x|_=>none
def q2f (T : TEn) (s : TSt T.S) (t : TypeId) (x : Operand) : Option (PD T.S) :=
 match x with
 | .const v => qjy (qh5 (T.S.lists t) v)
 | _ => y6z (evT T s t x)
def qfm (T : TEn) (s : TSt T.S) (t : TypeId) : List Operand -> Option (List (PD T.S))
 | [] => some []
 | x :: r => match q2f T s t x, qfm T s t r with
  | some a, some as => some (a :: as)
  | _, _ => none
def q6j:TV S->Option (TV S)|.fl .undef|.fl .skipped|.fl (.loc _)|.fl (.elt ..)|.fl (.seg ..)|.tup _=>none|v=>some v
def y47:TV S->Option (TV S)|.fl (.elt p i off)=>some (.fl (.elt p i off))|.fl (.seg p i off)=>some (.fl (.seg p i off))|v=>q6j v
def qci(fl:Flag)(q:Bool)(s:TSt S)(p:Place):Option (TV S×TSt S):=match q2k s p with
 |.fl (.own c xs l)=>match fl with|.keep=>some (.fl (.loc p),s)|.view=>if l then some (.fl (.d (.lf (.l c xs))),s)else if q then none else some (.fl (.d (.lf (.l c xs))),q5h s p (.own c xs true))
 |.fl .undef|.fl .skipped|.fl (.loc _)|.agg _=>none|v=>some (v,s)
def qft(s:TSt S)(o off:Nat):Nat->TSt S|0=>s|n+1=>qft (match cellT s.heap o off with|.own c xs false=>q5h s (.cell o off) (.own c xs true)|_=>s) o (off+1) n
def nth{α β:Type}(xs:List α)(n:Int)(k:α->Option β):Option β:=if 0<=n then match xs[n.toNat]? with|some x=>k x|none=>none else none
def nthN{α β:Type}(xs:List α)(n:Nat)(k:α->Option β):Option β:=match xs[n]? with|some x=>k x|none=>none
def capOk{β:Type}(n:Nat)(k:Option β):Option β:=if n<=q06 then k else none
def hiK{β:Type}(len:Nat)(n:Int)(k:Nat->Option β):Option β:=if 0<=n/\n<=(len:Int)then k n.toNat else none
def chk{β:Type}(p:Prop) [Decidable p](k:Option β):Option β:=if p then k else none
variable {β : Type}
def loadT(T:TEn)(fl:Flag)(q:Bool)(t:TypeId)(a:TV T.S)(s:TSt T.S)(k:TV T.S->TSt T.S->Option β):Option β:=match tyAgg T.E.P t,q0p T.E.P t with
 |some false,_=>match a with
  |.fl (.ptr o off)=>match qci fl q s (.cell o off)with|some (v,s1)=>k v s1|none=>none
  |.fl (.view (c::_))=>k (.fl (.d (.lf c))) s|.fl (.elt p i off)=>match q2k s p with
   |.fl (.own c xs _)=>nthN xs i fun x=>match(T.S.cells c x).drop off with|y::_=>k (.fl (.d (.lf y))) s|[]=>none
   |_=>none
  |_=>none
 |some true,some n=>match a with
  |.fl (.ptr o off)=>match s.heap[o]? with|some cs=>if off+n<=cs.length then match q4k ((cs.drop off).take n)with|some ds=>if qg5 ((cs.drop off).take n)then k (.fl (.d (.ag ds))) s else if q then none else k (.fl (.d (.ag ds))) (qft s o off n)|none=>none else none|none=>none
  |.fl (.view cs)=>if n<=cs.length then k (.fl (.d (.ag (cs.take n)))) s else none|.fl (.elt p i off)=>match q2k s p with|.fl (.own c xs _)=>nthN xs i fun x=>if n<=((T.S.cells c x).drop off).length then k (.fl (.d (.ag (((T.S.cells c x).drop off).take n)))) s else none|_=>none
  |_=>none
 |_,_=>none
def y70:TV S->Option Nat|.fl (.ptr o _)=>some o|.fl (.loc (.cell o _))=>some o|.fl (.elt (.cell o _) _ _)=>some o|.fl (.seg (.cell o _) _ _)=>some o|_=>none
def hitsT(objs:List Nat)(v:TV S):Bool:=v.placed&&(match y70 v with|some o=>objs.contains o|none=>false)
def q8k(objs:List Nat):TEnv S->TEnv S|[]=>[]|(k,v)::r=>if hitsT objs v then qaj (q8k objs r) k else(k,v)::q8k objs r
def qdk(a:TV T.S)(vs:List (TL T.S))(s:TSt T.S)(k:TSt T.S->Option β):Option β:=match a with
 |.fl (.ptr o off)=>match s.heap[o]? with|some cs=>if off+vs.length<=cs.length then k {env:=if((cs.drop off).take vs.length++vs).any TL.isOwn then q8k [o] s.env else s.env,heap:=s.heap.set o (cs.take off++vs++cs.drop (off+vs.length))}else none|none=>none
 |.fl (.elt p i off)=>match q2k s p,q4k vs with|.fl (.own c xs false),some ds=>nthN xs i fun x=>if off+ds.length<=(T.S.cells c x).length/\0<ds.length then match T.S.ofCells c ((T.S.cells c x).take off++ds++(T.S.cells c x).drop (off+ds.length))with|some y=>k (q5h s p (.own c (xs.set i y) false))|none=>none else none|_,_=>none
 |_=>none
def y1p:TL S->Bool|.d (.ag _)|.undef|.skipped|.loc _|.elt .. |.seg .. |.ref _=>false|_=>true
def y75(T:TEn)(t:TypeId)(a x:Operand)(s:TSt T.S)(k:TSt T.S->Option β):Option β:=match q6j (evT T s t x),tyAgg T.E.P t,q0p T.E.P t with|some v,some _,some n=>if v.cells.length=n/\v.cells.all y1p then qdk (evT T s t a) v.cells (s.del (tmpOf x)) k else none|_,_,_=>none
def andI(k:IntKind)(a b:Int):Int:=k.wrap ((BitVec.ofInt k.bits a)&&&(BitVec.ofInt k.bits b)).toNat
def orI(k:IntKind)(a b:Int):Int:=k.wrap ((BitVec.ofInt k.bits a)|||(BitVec.ofInt k.bits b)).toNat
def xorI(k:IntKind)(a b:Int):Int:=k.wrap ((BitVec.ofInt k.bits a)^^^(BitVec.ofInt k.bits b)).toNat
def ql2(k:IntKind)(a b:Int):Int:=k.wrap ((BitVec.ofInt k.bits a)&&&~~~(BitVec.ofInt k.bits b)).toNat
def shlI(k:IntKind)(a b:Int):Int:=k.wrap (a*2^(min b.toNat k.bits))
def shrI(k:IntKind)(a b:Int):Int:=a.fdiv (2^(min b.toNat k.bits))
def addI(k:IntKind)(a b:Int):Int:=k.wrap (a+b)
def subI(k:IntKind)(a b:Int):Int:=k.wrap (a-b)
def mulI(k:IntKind)(a b:Int):Int:=k.wrap (a*b)
def quoI(k:IntKind)(a b:Int):Int:=k.wrap (a.tdiv b)
def remI(_:IntKind)(a b:Int):Int:=a.tmod b
def negI(k:IntKind)(a:Int):Int:=k.wrap (0-a)
def eqB(a b:Int):Bool:=decide (a=b)
def neB(a b:Int):Bool:=!decide (a=b)
def ltB(a b:Int):Bool:=decide (a<b)
def leB(a b:Int):Bool:=decide (a<=b)
def eqS(a b:List UInt8):Bool:=decide (a=b)
def ltS(a b:List UInt8):Bool:=Op.bytesLess a b
def leS(a b:List UInt8):Bool:=Op.bytesLess a b||decide (a=b)
abbrev LfK(S:Sig)(β:Type):=Leaf S.TC S.Ty->Option β
def binT'(P:Program)(op:BinOp)(t:TypeId)(x y:Leaf S.TC S.Ty)(k:LfK S β):Option β:=match x,y with
 |.i κ a,.i κ' b=>match op with|.shl=>chk (0<=b) (k (.i κ (shlI κ a b)))|.shr=>chk (0<=b) (k (.i κ (shrI κ a b)))|.add=>if κ=κ' then k (.i κ (addI κ a b))else none|.sub=>if κ=κ' then k (.i κ (subI κ a b))else none|.mul=>if κ=κ' then k (.i κ (mulI κ a b))else none|.quo=>if κ=κ' then chk (b≠0) (k (.i κ (quoI κ a b)))else none|.rem=>if κ=κ' then chk (b≠0) (k (.i κ (remI κ a b)))else none|.and=>if κ=κ' then k (.i κ (andI κ a b))else none|.or=>if κ=κ' then k (.i κ (orI κ a b))else none|.xor=>if κ=κ' then k (.i κ (xorI κ a b))else none|.andNot=>if κ=κ' then k (.i κ (ql2 κ a b))else none|.eql=>if κ=κ' then k (.b (eqB a b))else none|.neq=>if κ=κ' then k (.b (neB a b))else none|.lss=>if κ=κ' then k (.b (ltB a b))else none|.leq=>if κ=κ' then k (.b (leB a b))else none|.gtr=>if κ=κ' then k (.b (ltB b a))else none|.geq=>if κ=κ' then k (.b (leB b a))else none
 |.s a,.s b=>match op with|.add=>chk (a.length+b.length<=9223372036854775807) (k (.s (a++b)))|.eql=>k (.b (eqS a b))|.neq=>k (.b (!eqS a b))|.lss=>k (.b (ltS a b))|.leq=>k (.b (leS a b))|.gtr=>k (.b (!leS a b))|.geq=>k (.b (!ltS a b))|_=>none
 |.b a,.b b=>match op,P.underlying t with|.eql,some .bool=>k (.b (a==b))|.neq,some .bool=>k (.b (!(a==b)))|_,_=>none
 |_,_=>none
def unT(op:UnOp)(x:Leaf S.TC S.Ty):Option (Leaf S.TC S.Ty):=match op,x with|.not,.b x=>some (.b (!x))|.neg,.i κ n=>some (.i κ (negI κ n))|_,_=>none
def idxT:TV S->Option Int|.fl (.d (.lf (.i _ n)))=>some n|_=>none
def fillT(place:Nat->Option (Nat×Nat))(cells:List (TL S)):List (Nat×TV S)->Option (List (TL S))|[]=>some cells|(i,v)::r=>match place i with|some (off,size)=>if v.cells.length=size/\off+size<=cells.length then fillT place (cells.take off++v.cells++cells.drop (off+size)) r else none|none=>none
def yem(P:Program)(t:TypeId)(i:Nat):TypeId:=match P.underlying t with
 |some (.struct fs)=>match fs[i]? with|some f=>f.type|none=>0
 |some (.array _ e)=>e|_=>0
def qsx(T:TEn)(t:TypeId)(s:TSt T.S):List (Nat×Operand)->Option (List (Nat×TV T.S))|[]=>some []|(i,x)::r=>match q6j (evT T s (yem T.E.P t i) x),qsx T t (s.del (tmpOf x)) r with|some v,some vs=>some ((i,v)::vs)|_,_=>none
def allLf:List (TL S)->Option (List (Leaf S.TC S.Ty))
 |[]=>some []|.d (.lf x)::r=>match allLf r with|some xs=>some (x::xs)|none=>none
 |_::_=>none
def qp4(cs:List (TL S)):Option (TV S):=match allLf cs with|some ds=>some (.fl (.d (.ag ds)))|none=>if cs.all TL.noAg then some (.agg cs)else none
def ofPD(c:S.TC):PD S->Option (S.Ty c)|.lf x=>if S.agg c then none else S.ofCells c [x]|.ag cs=>if S.agg c then S.ofCells c cs else none
def ofPDs(c:S.TC):List (PD S)->Option (List (S.Ty c))|[]=>some []|x::r=>match ofPD c x,ofPDs c r with|some y,some ys=>some (y::ys)|_,_=>none
def qbe(c:S.TC):Leaf S.TC S.Ty->Option (List (S.Ty c))|.l c' xs=>if h:c'=c then some (h▸xs)else none|_=>none
def lenT(T:TEn)(t:TypeId)(a:TV T.S)(s:TSt T.S):Option Nat:=match T.E.P.underlying t,a with
 |some .string,.fl (.d (.lf (.s l)))=>some l.length|some (.slice _),.fl (.d (.lf (.l _ xs)))=>some xs.length|some (.slice _),.fl (.loc p)=>match q2k s p with|.fl (.own _ xs _)=>some xs.length|_=>none
 |some (.slice _),.fl (.ref o)=>match cellT s.heap o 0 with|.own _ xs _=>some xs.length|_=>none
 |some (.slice _),.fl (.seg p lo hi)=>match q2k s p with|.fl (.own ..)=>some (hi-lo)|_=>none
 |_,_=>none
def qdr(len:Nat)(lo hi:Option (TV S))(k:Nat->Nat->Option β):Option β:=match hi with
 |none=>match lo with|none=>k 0 len|some a=>match idxT a with|some n=>hiK len n fun l=>k l len|none=>none
 |some b=>match idxT b with|none=>none|some m=>hiK len m fun h=>match lo with|none=>k 0 h|some a=>match idxT a with|some n=>hiK h n fun l=>k l h|none=>none
def segT(T:TEn)(t:TypeId)(a:TV T.S)(lo hi mx:Option Operand)(s:TSt T.S)(k:TV T.S->Option β):Option β:=match mx,a with
 |none,.fl (.loc p)=>match q2k s p with|.fl (.own c xs _)=>if T.S.elem t=some c then qdr xs.length (lo.map (evT T s 0)) (hi.map (evT T s 0)) fun l h=>k (.fl (.seg p l h))else none|_=>none
 |none,.fl (.ref o)=>match cellT s.heap o 0 with|.own c xs _=>if T.S.elem t=some c then qdr xs.length (lo.map (evT T s 0)) (hi.map (evT T s 0)) fun l h=>k (.fl (.seg (.cell o 0) l h))else none|_=>none
 |none,.fl (.seg p a0 b0)=>match q2k s p with|.fl (.own c xs _)=>if T.S.elem t=some c then chk (b0<=xs.length) (qdr (b0-a0) (lo.map (evT T s 0)) (hi.map (evT T s 0)) fun l h=>k (.fl (.seg p (a0+l) (a0+h))))else none|_=>none
 |_,_=>none
def y5m(T:TEn)(t:TypeId)(x:Operand)(lo hi mx:Option Operand)(s:TSt T.S)(k:TV T.S->Option β):Option β:=match mx,q2f T s t x with
 |none,some (.lf (.s l))=>match T.E.P.underlying t with|some .string=>qdr l.length (lo.map (evT T s 0)) (hi.map (evT T s 0)) fun a b=>k (.fl (.d (.lf (.s ((l.take b).drop a)))))|_=>none
 |none,some (.lf (.l c xs))=>if T.S.elem t=some c then qdr xs.length (lo.map (evT T s 0)) (hi.map (evT T s 0)) fun a b=>k (.fl (.d (.lf (.l c ((xs.take b).drop a)))))else none|_,_=>segT T t (evT T s t x) lo hi mx s k
def yco(P:Program)(t:TypeId):Bool:=match q2n P t with
 |some e=>match q7z P e with|some b=>decide (0<b/\b<=65536)&&qhz P e|none=>false
 |none=>false
def qtk(T:TEn)(q:Bool)(t:TypeId)(x y:Operand)(s:TSt T.S)(k:TV T.S->TSt T.S->Option β):Option β:=match T.S.elem t,q2f T s t y with
 |some c,some (.lf yl)=>match qbe c yl with
  |some ys=>if yco T.E.P t then match evT T s t x with
    |.fl (.own c' xs l)=>match qbe c (.l c' xs)with|some xs=>capOk (xs.length+ys.length) (k (.fl (.own c (xs++ys) l)) s)|none=>none
    |.fl (.loc p)=>match q2k s p with
     |.fl (.own c' xs l)=>if q then none else match qbe c (.l c' xs)with|some xs=>capOk (xs.length+ys.length) (k (.fl (.own c (xs++ys) l)) (qbc s p .undef))|none=>none
     |_=>none
    |_=>none else none|none=>none
 |_,_=>none
def qgs(T:TEn)(t:TypeId)(a:TV T.S)(n:Int)(s:TSt T.S)(k:TV T.S->Option β):Option β:=match T.S.elem t,T.E.P.underlying t,a with
 |some c,some (.slice _),.fl (.loc p)=>match q2k s p with|.fl (.own c' xs _)=>if c'=c then nth xs n fun _=>k (.fl (.elt p n.toNat 0))else none|_=>none
 |some c,some (.slice _),.fl (.ref o)=>match cellT s.heap o 0 with|.own c' xs _=>if c'=c then nth xs n fun _=>k (.fl (.elt (.cell o 0) n.toNat 0))else none|_=>none
 |some c,some (.slice _),.fl (.seg p lo hi)=>match q2k s p with|.fl (.own c' xs _)=>if c'=c then chk (0<=n/\n<((hi-lo:Nat):Int)) (nthN xs (lo+n.toNat) fun _=>k (.fl (.elt p (lo+n.toNat) 0)))else none|_=>none
 |some c,some (.slice _),.fl (.d (.lf (.l c' xs)))=>if c'=c then nth xs n fun x=>k (.fl (.view (T.S.cells c' x)))else none|_,some (.array m e),.fl (.ptr o b)=>match q0p T.E.P e with|some sz=>if 0<=n/\n<m/\1<m/\0<sz then k (.fl (.ptr o (b+n.toNat*sz)))else none|none=>none
 |_,some (.array m e),.fl (.view cs)=>match q0p T.E.P e with|some sz=>if 0<=n/\n<m/\1<m/\0<sz then k (.fl (.view (cs.drop (n.toNat*sz))))else none|none=>none
 |_,_,_=>none
def partT(P:Program)(t:TypeId)(cs:List (Leaf S.TC S.Ty))(off:Nat):Option (PD S):=match tyAgg P t,q0p P t with
 |some true,some n=>if off+n<=cs.length then some (.ag ((cs.drop off).take n))else none|some false,_=>match cs[off]? with|some x=>some (.lf x)|none=>none
 |_,_=>none
def qok(T:TEn)(c:T.S.TC)(u:TypeId)(y:Operand)(s:TSt T.S)(k:List (T.S.Ty c)->Option β):Option β:=match evT T s u y with
 |.fl (.seg p lo hi)=>match q2k s p with
  |.fl (.own c' xs _)=>match qbe c (.l c' xs)with|some ys=>chk (hi<=ys.length) (k ((ys.take hi).drop lo))|none=>none
  |_=>none
 |_=>match q2f T s u y with
  |some (.lf yl)=>match qbe c yl with|some ys=>k ys|none=>none
  |_=>none
def copyT(T:TEn)(t u:TypeId)(x y:Operand)(s:TSt T.S)(k:TV T.S->TSt T.S->Option β):Option β:=match evT T s t x with
 |.fl (.seg p lo hi)=>match q2k s p with|.fl (.own c xs false)=>if T.S.elem t=some c/\T.S.elem u=some c then qok T c u y s fun ys=>chk (hi<=xs.length) (k (.fl (.d (.lf (.i .i64 ((min (hi-lo) ys.length:Nat):Int))))) (q5h s p (.own c (xs.take lo++ys.take (hi-lo)++xs.drop (lo+min (hi-lo) ys.length)) false)))else none|_=>none
 |_=>none
def capsT(T:TEn)(s:TSt T.S):List Operand->Option (List (Nat×Nat))|[]=>some []|x::r=>match evT T s 0 x,capsT T s r with|.fl (.ptr o a),some ps=>some ((o,a)::ps)|_,_=>none
def eqVT(P:Program)(t:TypeId)(a b:Leaf S.TC S.Ty):Option Bool:=match P.underlying t,a,b with|some .bool,.b a,.b b=>some (a==b)|some (.int _),.i κ a,.i κ' b=>if κ=κ' then some (eqB a b)else none|some .string,.s a,.s b=>some (eqS a b)|_,_,_=>none
def eqFsT(P:Program)(xs ys:List (Leaf S.TC S.Ty)):List Field->Option Bool|[]=>some true|f::r=>if f.name= "_"then none else match partT P f.type xs f.offset,partT P f.type ys f.offset with
  |some (.lf a),some (.lf b)=>match eqVT P f.type a b,eqFsT P xs ys r with|some x,some y=>some (x&&y)|_,_=>none
  |_,_=>none
def y5b(P:Program)(op:BinOp)(t:TypeId)(xs ys:List (Leaf S.TC S.Ty)):Option Bool:=match P.underlying t with
 |some (.struct fs)=>if P.stoodInHeld t=false/\P.eqGuardType P.depth t=false then match op with
   |.eql=>eqFsT P xs ys fs.toList|.neq=>match eqFsT P xs ys fs.toList with|some b=>some (!b)|none=>none
   |_=>none else none|_=>none
def qu2(T:TEn)(fl:Flag)(q:Bool)(ty:TypeId)(op:Op)(s:TSt T.S):Option (TV T.S×TSt T.S):=match op with
 |.move (.tmp t)=>qci fl q s (.slot t)|.move x|.assign x=>match y47 (evT T s ty x)with|some v=>some (v,s)|none=>none
 |.alloc e=>match q4c T.E.P e with
  |some z=>match qck (T.S.lists e) z with|some cs=>some (.fl (.ptr s.heap.length 0),{s with heap:=s.heap++[cs]})|none=>none
  |none=>none
 |.box e x=>match q6j (evT T s e x),q0p T.E.P e with|some v,some n=>if v.cells.length=n then some (.fl (.ptr s.heap.length 0),{s with heap:=s.heap++[v.cells]})else none|_,_=>none
 |.build t parts=>match q4c T.E.P t,qsx T t s parts.toList with
  |some (.agg z),some ps=>if qeu T.E.P t then match qd9 (T.S.lists t) z.toList with
   |some cs0=>match fillT (fieldPlace T.E.P t) cs0 ps with
    |some cs=>match qp4 cs with|some v=>some (v,s)|none=>none
    |none=>none
   |none=>none else none|_,_=>none
 |.buildSlice t n parts=>match T.S.elem t,q2n T.E.P t with
  |some c,some e=>match qfm T s e (parts.toList.map (·.2))with
   |some ps=>match ofPDs c ps with|some xs=>if q5e 0 parts.toList/\xs.length=n/\n<=65536/\qhz T.E.P e/\qu1 T.E.P e then some (.fl (.own c xs false),s)else none|none=>none
   |none=>none
  |_,_=>none
 |.nilCheck x=>match evT T s ty x with|.fl (.ptr o off)=>some (.fl (.ptr o off),s)|.fl (.view cs)=>some (.fl (.view cs),s)|.fl (.elt p i off)=>if(q2k s p).isOwn then some (.fl (.elt p i off),s)else none|.fl (.fn f cs)=>some (.fl (.fn f cs),s)|_=>none
 |.unOp op t x=>match q2f T s t x with
  |some (.lf a)=>match unT op a with|some r=>some (.fl (.d (.lf r)),s)|none=>none
  |_=>none
 |.convert src dst x=>match T.E.P.underlying src,T.E.P.underlying dst,q2f T s src x with|some (.int _),some (.int κ),some (.lf (.i _ n))=>some (.fl (.d (.lf (.i κ (κ.wrap n)))),s)|some .string,some .string,some (.lf (.s b))=>some (.fl (.d (.lf (.s b))),s)|_,_,_=>none
 |.fieldAddr t x i=>match q39 T.E.P t i with
  |some (off,u)=>match q0p T.E.P u with
   |some (_+1)=>match evT T s 0 x with|.fl (.ptr o a)=>some (.fl (.ptr o (a+off)),s)|.fl (.view cs)=>some (.fl (.view (cs.drop off)),s)|.fl (.elt p j a)=>if(q2k s p).isOwn then some (.fl (.elt p j (a+off)),s)else none|_=>none
   |_=>none
  |none=>none
 |.field t x i=>match q2f T s t x,q39 T.E.P t i with
  |some (.ag cs),some (off,u)=>match partT T.E.P u cs off with|some y=>some (.fl (.d y),s)|none=>none
  |_,_=>none
 |.extract (.tmp t) i=>match getT s.env t with
  |.tup vs=>match vs[i]? with|some (.d x)=>some (.fl (.d x),s)|some (.ptr o a)=>some (.fl (.ptr o a),s)|_=>none
  |_=>none
 |.makeFunc (.func f) first caps=>if first.size=0 then match capsT T s caps.toList with|some ps=>some (.fl (.fn f ps),s)|none=>none else none|.call {callee:=.builtin .len,args,argTypes}=>match args.toList,argTypes.toList with
  |[x],[t]=>match lenT T t (evT T s t x) s with|some n=>some (.fl (.d (.lf (.i .i64 (n:Int)))),s)|none=>none
  |_,_=>none
 |.call {callee:=.builtin .max,args,.. }=>match args.toList with
  |[x,y]=>match q2f T s 0 x,q2f T s 0 y with|some (.lf (.i κ a)),some (.lf (.i _ b))=>some (.fl (.d (.lf (.i κ (if b>a then b else a)))),s)|_,_=>none
  |_=>none
 |.call {callee:=.builtin .min,args,.. }=>match args.toList with
  |[x,y]=>match q2f T s 0 x,q2f T s 0 y with|some (.lf (.i κ a)),some (.lf (.i _ b))=>some (.fl (.d (.lf (.i κ (if b<a then b else a)))),s)|_,_=>none
  |_=>none
 |_=>none
def stepT(T:TEn)(fl:Flag)(q:Bool)(ty:TypeId)(op:Op)(s:TSt T.S)(k:TV T.S->TSt T.S->Option β):Option β:=match op with
 |.load t a=>loadT T fl q t (evT T s 0 a) s k|.pick c a b=>match evT T s 0 c with
  |.fl (.d (.lf (.b t)))=>match t with
   |true=>match q2f T s ty a with|some x=>k (.fl (.d x)) s|none=>none
   |false=>match q2f T s ty b with|some x=>k (.fl (.d x)) s|none=>none
  |_=>none
 |.binOp op t x y t'=>match q2f T s t x,q2f T s t' y with
  |some (.lf a),some (.lf b)=>binT' T.E.P op t a b fun r=>k (.fl (.d (.lf r))) s|some (.ag xs),some (.ag ys)=>match y5b T.E.P op t xs ys with|some r=>k (.fl (.d (.lf (.b r)))) s|none=>none
  |_,_=>none
 |.slice t x lo hi mx=>y5m T t x lo hi mx s fun v=>k v s|.indexAddr t x i=>match idxT (evT T s 0 i)with|some n=>qgs T t (evT T s t x) n s fun v=>k v s|none=>none
 |.index t x i=>match T.E.P.underlying t,idxT (evT T s 0 i),q2f T s t x with|some .string,some n,some (.lf (.s l))=>nth l n fun b=>k (.fl (.d (.lf (.i .u8 b.toNat)))) s|_,_,_=>none
 |.makeSlice t l c=>match T.S.elem t,q2n T.E.P t,q2f T s 0 l,q2f T s 0 c with
  |some cd,some e,some (.lf (.i .i64 n)),some (.lf (.i .i64 m))=>match(q4c T.E.P e).bind fun z=>qjy (qh5 (T.S.lists e) z),q7z T.E.P e with
   |some z,some b=>match ofPD cd z with|some x=>if b<=65536 then chk (n=m/\0<=n/\n<=65536) (k (.fl (.own cd (List.replicate n.toNat x) false)) s)else none|none=>none
   |_,_=>none
  |_,_,_,_=>none
 |.call {callee:=.builtin .append,args,argTypes}=>match args.toList,argTypes.toList with|[x,y],[t,u]=>if t=u then qtk T q t x y s k else none|_,_=>none
 |.call {callee:=.builtin .copy,args,argTypes}=>match args.toList,argTypes.toList with|[x,y],[t,u]=>if q then none else copyT T t u x y s k|_,_=>none
 |op=>match qu2 T fl q ty op s with|some (v,s1)=>k v s1|none=>none
def LK.Ty(S:Sig):LK S.TC->Type|.i _=>Int|.b=>Bool|.s=>List UInt8|.l c=>List (S.Ty c)
def OT.Ty:OT S->Type|.lf k=>k.Ty S|.own c _=>List (S.Ty c)|.ag c=>S.Ty c|.ptr .. |.fn .. |.ref _|.undef=>Unit
def Prods:List (OT S)->Type|[]=>Unit|[a]=>a.Ty|a::b::r=>a.Ty×Prods (b::r)
def LK.mk:(k:LK S.TC)->k.Ty S->Leaf S.TC S.Ty|LK.i κ,n=>.i κ n|LK.b,x=>.b x|LK.s,z=>.s z|LK.l c,xs=>.l c xs
def OT.mk:(a:OT S)->a.Ty->TL S|.lf k,x=>.d (.lf (k.mk x))|.own c l,xs=>.own c xs l|.ag c,x=>.d (packT (S.agg c) (S.cells c x))|.ptr o off,_=>.ptr o off|.fn f caps,_=>.fn f caps|.ref o,_=>.ref o|.undef,_=>.undef
def vals:(l:List (OT S))->Prods l->List (TL S)|[],_=>[]|[a],x=>[a.mk x]|a::b::r,x=>a.mk x.1::vals (b::r) x.2
def LK.of:(k:LK S.TC)->Leaf S.TC S.Ty->Option (k.Ty S)|.i κ,.i κ' n=>if κ'=κ then some n else none|.b,.b x=>some x|.s,.s z=>some z|.l c,x=>qbe c x|_,_=>none
def OT.of:(a:OT S)->TL S->Option a.Ty|.lf k,.d (.lf x)=>k.of x|.own c l,.own c' xs l'=>if l'=l then qbe c (.l c' xs)else none|.ag c,.d x=>ofPD c x|.ptr o off,.ptr o' off'=>if o'=o/\off'=off then some ()else none|.fn f cs,.fn f' cs'=>if f'=f/\cs'=cs then some ()else none|.ref o,.ref o'=>if o'=o then some ()else none|.undef,.undef=>some ()|_,_=>none
def qf4:(l:List (OT S))->List (TL S)->Option (Prods l)
 |[],[]=>some ()|[a],[v]=>a.of v|a::b::r,v::vs=>match a.of v,qf4 (b::r) vs with|some x,some xs=>some (x,xs)|_,_=>none
 |_,_=>none
def OSpec.all(o:OSpec S):List (OT S):=o.res++o.heap.flatten
abbrev OSpec.Out(o:OSpec S):Type:=Prods o.all
def q4j:List Nat->List (TL S)->THeap S|[],_=>[]|n::r,vs=>vs.take n::q4j r (vs.drop n)
def resOf(o:OSpec S)(x:o.Out):List (TL S):=(vals o.all x).take o.res.length
def q2v(o:OSpec S)(x:o.Out):THeap S:=q4j (o.heap.map List.length) ((vals o.all x).drop o.res.length)
def ykb:TL S->OT S|.d (.lf (.i κ _))=>.lf (.i κ)|.d (.lf (.b _))=>.lf .b|.d (.lf (.s _))=>.lf .s|.d (.lf (.l c _))=>.lf (.l c)|.own c _ l=>.own c l|.ptr o off=>.ptr o off|.fn f cs=>.fn f cs|.ref o=>.ref o|_=>.ptr 0 0
def qix:List (TL S)->TV S|[v]=>.fl v|vs=>.tup vs
def CSem(T:TEn)(f:FuncId)(vs:List (TL T.S))(hs:THeap T.S)(o:OSpec T.S)(x:o.Out):Prop:=∃m,call T.E m f (vs.map TL.toA) (heapA hs)=some (q11 ((resOf o x).map TL.toA),heapA (q2v o x))
open Classical in
noncomputable def callC (T : TEn) (f : FuncId) (vs : List (TL T.S)) (hs : THeap T.S) (o : OSpec T.S) : Option o.Out :=
 if h : ∃ x, CSem T f vs hs o x then some h.choose else none
def ptrsT:TL S->List Nat|.ptr o _=>[o]|.ref o=>[o]|.fn _ cs=>cs.map (·.1)|_=>[]
def qkw:TV S->List Nat|.agg cs=>cs.flatMap ptrsT|.tup cs=>cs.flatMap ptrsT|.fl (.loc (.cell o _))=>[o]|.fl (.elt (.cell o _) _ _)=>[o]|.fl (.seg (.cell o _) _ _)=>[o]|.fl v=>ptrsT v
def dropT(m:Nat):TEnv S->TEnv S|[]=>[]|(k,v)::r=>if(qkw v).all (fun o=>decide (o<m))then(k,v)::dropT m r else qaj (dropT m r) k
def q6v(m:Nat)(h:THeap S):Bool:=(h.take m).all fun cs=>cs.all fun c=>(ptrsT c).all fun o=>decide (o<m)
def trimT(m:Nat)(s:TSt S):TSt S:=if q6v m s.heap then{env:=dropT m s.env,heap:=s.heap.take m}else s
def renT(ρ:Nat->Nat):TL S->TL S|.ptr o a=>.ptr (ρ o) a|.ref o=>.ref (ρ o)|.fn f cs=>.fn f (cs.map fun(o,a)=>(ρ o,a))|v=>v
def qyh(ρ:Nat->Nat):TV S->TV S|.agg cs=>.agg (cs.map (renT ρ))|.tup cs=>.tup (cs.map (renT ρ))|.fl v=>.fl (renT ρ v)
def qua(ρ:Nat->Nat)(e:TEnv S):TEnv S:=e.map fun p=>(p.1,qyh ρ p.2)
def qog(s:TSt S)(o:Nat):Bool:=(s.env.all fun p=>!(qkw p.2).contains o)&&s.heap.all fun cs=>cs.all fun c=>!(ptrsT c).contains o
def qge(o' o0:Nat)(s:TSt S):TSt S:={env:=qua (ρm o' o0) (killT s.env),heap:=((s.heap.set o0 (s.heap.getD o' [])).take o').map fun cs=>cs.map (renT (ρm o' o0))}
def y3s(o:Nat):TV S->Bool|.fl (.ptr o' _)=>o'==o|_=>false
def qbj(k:Nat)(s:TSt S):Nat->Option Nat|0=>none|m+1=>if k<=m/\qog s m=true/\(s.heap.getD m []).length=(s.heap.getD (s.heap.length-1) []).length then some m else qbj k s m
def qpg(k m:Nat):Nat->TSt S->TSt S|0,s=>s|n+1,s=>if m<s.heap.length/\(s.env.any fun p=>y3s (s.heap.length-1) p.2)=true then match qbj k s m with|some o0=>qpg k m n (qge (s.heap.length-1) o0 s)|none=>s else s
def qlg(k m:Nat)(s:TSt S):TSt S:=trimT m (qpg k m 3 s)
inductive Fr where|seq(b:Code)|block(id m:Nat)|loop(b:Code)(m:Nat)
noncomputable def unw(E:Env0)(f:FuncId)(k n:Nat):List Fr->Ex->St->Option (Ex×St)
 |[],ex,s=>some (ex,s)|.seq b::K,.normal,s=>match exec E f k n b s with|some (ex,s1)=>unw E f k n K ex s1|none=>none
 |.seq _::K,ex,s=>unw E f k n K ex s|.block id m::K,.exit id',s=>if id'=id then unw E f k n K .normal (trim m s)else unw E f k n K (.exit id') s|.block _ m::K,.normal,s=>unw E f k n K .normal (trim m s)|.block _ _::K,.ret,s=>unw E f k n K .ret s|.loop b m::K,.normal,s=>match exec E f k n (.loop b) (endRound k m s)with|some (ex,s1)=>unw E f k n K ex s1|none=>none
 |.loop _ _::K,ex,s=>unw E f k n K ex s
def fin(own:Bool)(P:Program)(fn:Func)(k:Nat):Ex->St->Option (AV×Heap)|.normal,s|.ret,s=>qbb own P fn k s|_,_=>none
structure Fx where
 f:FuncId
 fn:Func
 k:Nat
def Goes(E:Env0)(F:Fx)(c:Code)(K:List Fr)(s:St)(q:AV×Heap):Prop:=∃n ex s1 ex' s2,exec E F.f F.k n c s=some (ex,s1)/\unw E F.f F.k n K ex s1=some (ex',s2)/\fin (E.an.own F.f) E.P F.fn F.k ex' s2=some q
def BSem(T:TEn)(F:Fx)(o:OSpec T.S)(c:Code)(K:List Fr)(s:TSt T.S)(x:o.Out):Prop:=Goes T.E F c K s.toS (q11 ((resOf o x).map TL.toA),heapA (q2v o x))
open Classical in
noncomputable def goC (T : TEn) (F : Fx) (o : OSpec T.S) (c : Code) (K : List Fr) (s : TSt T.S) : Option o.Out :=
 if h : ∃ x, BSem T F o c K s x then some h.choose else none
def qfb(h:THeap S):List Nat->Option (THeap S)|[]=>some []|o::r=>match h[o]?,qfb h r with|some cs,some hs=>some (cs::hs)|_,_=>none
def argT(T:TEn)(s:TSt T.S)(t:TypeId)(x:Operand):Option (TL T.S):=match evT T s t x with|.fl (.ptr o a)=>some (.ptr o a)|.fl (.fn f cs)=>some (.fn f cs)|.fl (.view cs)=>some (.view cs)|.fl (.ref o)=>some (.ref o)|_=>match q2f T s t x with|some x=>some (.d x)|none=>none
def argsT(T:TEn)(s:TSt T.S):List TypeId->List Operand->Option (List (TL T.S))|_,[]=>some []|ts,x::r=>match argT T s (ts.headD 0) x,argsT T s ts.tail r with|some v,some vs=>some (v::vs)|_,_=>none
def outT:TV S->Option (TL S)|.fl (.ptr o a)=>some (.ptr o a)|.fl (.ref o)=>some (.ref o)|.fl (.fn f cs)=>some (.fn f cs)|v=>match qjy v with|some x=>some (.d x)|none=>none
def qv9(P:Program)(s:TSt S):ResultVar->Option (TL S)|.tmp t=>outT (getT s.env t)|.cell a t=>match getT s.env a with
  |.fl (.ptr o off)=>match tyAgg P t,q0p P t,s.heap[o]? with
   |some true,some n,some cs=>if off+n<=cs.length then match q4k ((cs.drop off).take n)with|some ds=>some (.d (.ag ds))|none=>none else none|some false,_,some cs=>match cs[off]? with|some v=>outT (.fl v)|none=>none
   |_,_,_=>none
  |_=>none
def qei(P:Program)(s:TSt S):List ResultVar->Option (List (TL S))|[]=>some []|x::r=>match qv9 P s x,qei P s r with|some v,some vs=>some (v::vs)|_,_=>none
def y4v(s:TSt S)(k:Nat):ResultVar->Bool|.tmp _=>true|.cell a _=>match getT s.env a with|.fl (.ptr o _)=>decide (k<=o)|_=>false
def y2a:List (TL S)->Bool|[.ref _,.ref _]=>true|_=>false
def y50(P:Program)(F:Fx)(o:OSpec S)(s:TSt S):Option o.Out:=match qei P s F.fn.results.toList with|none=>none|some vs=>if y2a vs then none else if((vs.flatMap ptrsT)++((s.heap.take F.k).flatMap fun cs=>cs.flatMap ptrsT)).all (fun o=>decide (o<F.k))then if(F.fn.results.toList.all (y4v s F.k)&&decide (F.k<=s.heap.length))=true/\vs.length=o.res.length/\(s.heap.take F.k).map List.length=o.heap.map List.length then qf4 o.all (vs++(s.heap.take F.k).flatten)else none else if(F.fn.results.toList.all qff&&((vs.flatMap ptrsT)++(s.heap.flatMap fun cs=>cs.flatMap ptrsT)).all (fun o=>decide (o<s.heap.length)))=true/\vs.length=o.res.length/\s.heap.map List.length=o.heap.map List.length then qf4 o.all (vs++s.heap.flatten)else none
def qtg(P:Program)(F:Fx)(o:OSpec S)(s:TSt S):Option o.Out:=match F.fn.results.toList with
 |[.tmp t]=>match getT s.env t with|.fl (.own c xs false)=>if(q6v F.k s.heap&&decide (F.k<=s.heap.length))=true/\[TL.ref (S:=S) F.k].length=o.res.length/\(s.heap.take F.k++[[TL.own c xs false]]).map List.length=o.heap.map List.length then qf4 o.all ([TL.ref F.k]++(s.heap.take F.k++[[TL.own c xs false]]).flatten)else none|_=>none
 |[.cell a t]=>match getT s.env a,tyAgg P t,q0p P t with
  |.fl (.ptr p 0),some true,some 1=>match cellT s.heap p 0 with|.own c xs false=>if(q6v F.k s.heap&&decide (F.k<=p)&&decide (F.k<=s.heap.length))=true/\[TL.ref (S:=S) F.k,TL.ref F.k].length=o.res.length/\(s.heap.take F.k++[[TL.own c xs false]]).map List.length=o.heap.map List.length then qf4 o.all ([TL.ref F.k,TL.ref F.k]++(s.heap.take F.k++[[TL.own c xs false]]).flatten)else none|_=>none
  |_,_,_=>none
 |_=>none
def qgw(own:Bool)(P:Program)(F:Fx)(o:OSpec S)(s:TSt S):Option o.Out:=if own then qtg P F o s else y50 P F o s
def qnn(keep:Bool)(k:Nat)(v:TV S)(h:THeap S):TV S×THeap S:=match v with|.fl (.ref o)=>if decide (o=k)&&q6v k h then match h.drop k with|[[.own c xs false]]=>(.fl (if keep then .own c xs false else .d (.lf (.l c xs))),h.take k)|_=>(v,h)else(v,h)|.tup [.ref o,.ref _]=>if decide (o=k)&&q6v k h then match h.drop k with|[[.own c xs false]]=>(if keep then .agg [.own c xs false]else .fl (.d (.ag [.l c xs])),h.take k)|_=>(.fl .undef,h)else(.fl .undef,h)|v=>(v,h)
def qcg(h:THeap S):List Nat->THeap S->THeap S|o::os,cs::r=>qcg (h.set o cs) os r|_,_=>h
def qvh(s:TSt S)(objs:List Nat)(h':THeap S):TSt S:={env:=q8k objs s.env,heap:=qcg s.heap objs (h'.map fun cs=>cs.map (renT (q16 objs s.heap.length)))++(h'.drop objs.length).map fun cs=>cs.map (renT (q16 objs s.heap.length))}
def y4g(ρ:Nat->Nat):TV S->TV S|.tup us=>.tup (us.map (renT ρ))|.fl v=>.fl (renT ρ v)|v=>v
def yiv(T:TEn)(h:FuncId)(hs:THeap T.S):OSpec T.S:={res:=if T.E.an.own h then(match T.res h with|[_,_]=>[.ref hs.length,.ref hs.length]|_=>[.ref hs.length])else T.res h,heap:=match T.outs h with|some os=>os++T.news h|none=>hs.map (fun cs=>cs.map ykb)++T.news h}
noncomputable def callT(T:TEn)(r:Rule)(h:FuncId)(vs:List (TL T.S))(dst:Option Nat)(s:TSt T.S)(k:TSt T.S->Option β):Option β:=match reach (heapA s.heap) (s.heap.length+1) (q4x [] (vs.flatMap ptrsT))with|none=>none|some objs=>if !r.draws||objs.all (fun o=>!above r.mode o)then match qfb s.heap objs with
   |some hs=>match callC T h (vs.map (renT (objs.idxOf ·))) (hs.map fun cs=>cs.map (renT (objs.idxOf ·))) (yiv T h (hs.map fun cs=>cs.map (renT (objs.idxOf ·))))with|some x=>if r.draws&&decide (objs.length<(qnn r.keep objs.length (qix (resOf _ x)) (q2v _ x)).2.length)then none else k (TSt.put (qvh s objs (qnn r.keep objs.length (qix (resOf _ x)) (q2v _ x)).2) dst (y4g (q16 objs s.heap.length) (qnn r.keep objs.length (qix (resOf _ x)) (q2v _ x)).1))|none=>none
   |none=>none else none
def q7s(s:TSt S):Operand->Option (Nat×TL S)
 |.tmp u=>match getT s.env u with
  |.fl (.own c xs false)=>some (u,.own c xs false)|.fl (.loc (.slot t))=>match getT s.env t with|.fl (.own c xs false)=>some (t,.own c xs false)|_=>none
  |_=>none
 |_=>none
def q6o(s:TSt S):Operand->Option (Nat×Nat×Nat×TL S)
 |.tmp u=>match getT s.env u with
  |.fl (.loc (.cell o off))=>match cellT s.heap o off with|.own c xs false=>some (u,o,off,.own c xs false)|_=>none
  |_=>none
 |_=>none
def qdj(s:TSt S):Operand->Bool
 |.tmp u=>match getT s.env u with|.fl (.loc (.cell _ _))=>true|_=>false
 |_=>false
def qlo(T:TEn)(s:TSt T.S)(t:TypeId)(x:Operand):Option (TL T.S×TSt T.S×List (Nat×Nat)):=match q7s s x with|some (u,v)=>some (.ref s.heap.length,{env:=putT s.env u (.fl .undef),heap:=s.heap++[[v]]},[(s.heap.length,u)])|none=>match q6o s x with|some (u,o,off,v)=>some (.ref s.heap.length,{env:=killT s.env,heap:=qcm s.heap o off .undef++[[v]]},[(s.heap.length,u)])|none=>match argT T s t x with|some v=>some (v,s,[])|none=>none
def q6p(T:TEn)(s:TSt T.S):List TypeId->List Operand->Option (List (TL T.S)×TSt T.S×List (Nat×Nat))|_,[]=>some ([],s,[])|ts,x::r=>match qlo T s (ts.headD 0) x with
  |some (v,s1,l)=>match q6p T s1 ts.tail r with|some (vs,s2,l')=>some (v::vs,s2,l++l')|none=>none
  |none=>none
def qcb(s:TSt S)(l:List Operand):Bool:=l.any fun x=>(q7s s x).isSome||qdj s x
def qxf(o:Nat):TV S->Bool|.fl (.ref o')=>o'==o|_=>false
def qva(dst:Option Nat)(o t:Nat)(s:TSt S):Option Nat:=match dst with|some d=>if qxf o (getT s.env d)then some d else if d=t then none else some t|none=>some t
def qdv(dst:Option Nat)(o t:Nat)(s:TSt S):Option (TSt S):=match s.heap[o]?,qva dst o t s with|some [.own c xs false],some d=>if s.heap.length=o+1/\q6v o s.heap=true then some {env:=putT (dropT o (killT s.env)) d (.fl (.own c xs false)),heap:=s.heap.take o}else none|some [.undef],_=>if s.heap.length=o+1/\q6v o s.heap=true then some {env:=dropT o s.env,heap:=s.heap.take o}else none|_,_=>none
def qca(dst:Option Nat):List (Nat×Nat)->TSt S->Option (TSt S)|[],s=>some s|(o,t)::r,s=>match qca dst r s with|some s1=>qdv dst o t s1|none=>none
noncomputable def doOpT(T:TEn)(F:Fx)(r:Rule)(ops:Array Oper)(o:Oper)(s:TSt T.S)(k:TSt T.S->Option β):Option β:=match o.op with
 |.store t a x=>if o.dst.isNone&&qc7 T.E (qax r ops o) s.toS a then y75 T t a x s k else none|.call {callee:=.value g,args,argTypes}=>if qcb s args.toList then if r.draws then none else match evT T s 0 g,q6p T s argTypes.toList args.toList with
   |.fl (.fn h caps),some (vs,s1,l)=>callT T (q5p T.E.an F.f r o) h (vs++caps.map fun(o,a)=>.ptr o a) o.dst s1 fun s2=>match qca o.dst l s2 with|some s3=>k s3|none=>none
   |_,_=>none else match evT T s 0 g,argsT T s argTypes.toList args.toList with|.fl (.fn h caps),some vs=>callT T (q5p T.E.an F.f r o) h (vs++caps.map fun(o,a)=>.ptr o a) o.dst s k|_,_=>none
 |op=>if q5l T.E (q9y r ops o) s.toS op then stepT T (T.E.an.flag F.f (o.dst.getD 0)) (r.draws&&!q4l ops op) o.type op s fun v s1=>match keepT (T.E.an.flag F.f (o.dst.getD 0)) v with|some w=>k ((s1.del (q8p op)).put o.dst w)|none=>none else none
noncomputable def opT(T:TEn)(F:Fx)(r:Rule)(ops:Array Oper)(o:Oper)(s:TSt T.S)(k:TSt T.S->Option β):Option β:=match o.guard with|none=>doOpT T F r ops o s k|some (j,want)=>match(ops[j]?).bind (·.dst)with|none=>none|some t=>match getT s.env t with
   |.fl (.d (.lf (.b b)))=>match b with|true=>if want then doOpT T F r ops o {s with env:=replT s.env t (.fl (.d (.lf (.b true))))} k else k (TSt.put {s with env:=replT s.env t (.fl (.d (.lf (.b true))))} o.dst (.fl .skipped))|false=>if want then k (TSt.put {s with env:=replT s.env t (.fl (.d (.lf (.b false))))} o.dst (.fl .skipped))else doOpT T F r ops o {s with env:=replT s.env t (.fl (.d (.lf (.b false))))} k
   |.fl .skipped=>k (s.put o.dst (.fl .skipped))|_=>none
noncomputable def opsT(T:TEn)(F:Fx)(r:Rule)(ops:Array Oper):List Oper->TSt T.S->(TSt T.S->Option β)->Option β|[],s,k=>k s|o::rest,s,k=>opT T F r ops o s fun s1=>opsT T F r ops rest s1 k
def takeT(T:TEn)(F:Fx)(o:Oper)(s:TSt T.S):Option (TSt T.S):=match o.op,o.guard,o.dst with
 |.load t (.tmp r),none,some d=>if T.E.an.flag F.f d=.keep then match tyAgg T.E.P t,q0p T.E.P t,getT s.env r with
   |some true,some 1,.fl (.ptr p off)=>match cellT s.heap p off with|.own c xs false=>some ((qbc s (.cell p off) .undef).put (some d) (.agg [.own c xs false]))|_=>none
   |_,_,_=>none else none|_,_,_=>none
def headT(T:TEn)(F:Fx)(ops:Array Oper)(s:TSt T.S):List Oper×TSt T.S:=match ops.toList with|[]=>([],s)|o::l=>match takeT T F o s with|some s1=>(l,s1)|none=>(o::l,s)
def yc2:Code->Option Nat|.region id _ _=>some id|.seq a _=>yc2 a|_=>none
def cutAt(T:TEn)(f:FuncId)(c:Code):Bool:=match yc2 c with|some id=>T.cut f id|none=>false
def replO(s:TSt S)(x:Operand)(v:TV S):TSt S:=match x with|.tmp t=>{s with env:=replT s.env t v}|_=>s
open Classical in
mutual
noncomputable def te (T : TEn) (F : Fx) (o : OSpec T.S) : Nat -> Code -> List Fr -> TSt T.S -> Option o.Out
 | 0, c, K, s => goC T F o c K s
 | n + 1, c, K, s => match c with
  | .skip => teK T F o n .normal K s
  | .label _ => teK T F o n .normal K s
  | .region id ops draw => match draw with
   | true => match T.E.an.order F.f id with
    | [l] => if qi0 T.E.an F.f ops s.toS = false then none else opsT T F { draws := true, mode := T.E.an.mode F.f id } ops (q1w ops l) s fun s1 => teK T F o n .normal K { s1 with env := qqt s1.env (T.E.an.clear F.f id) }
    | _ => none
   | false => opsT T F { draws := false, mode := T.E.an.mode F.f id } ops (headT T F ops s).1 (headT T F ops s).2 fun s1 => teK T F o n .normal K { s1 with env := qqt s1.env (T.E.an.clear F.f id) }
  | .seq a b => te T F o n a (.seq b :: K) s
  | .cond x a b => match evT T s 0 x with
   | .fl (.d (.lf (.b t))) => match t with
    | true => te T F o n a K (replO s x (.fl (.d (.lf (.b true)))))
    | false => te T F o n b K (replO s x (.fl (.d (.lf (.b false)))))
   | _ => none
  | .block id b => te T F o n b (.block id s.heap.length :: K) s
  | .loop b => goC T F o (.loop b) K s
  | .exit id => teK T F o n (.exit id) K s
  | .ret => qgw (T.E.an.own F.f) T.E.P F o s
  | _ => none
termination_by structural n => n
noncomputable def teK (T : TEn) (F : Fx) (o : OSpec T.S) : Nat -> Ex -> List Fr -> TSt T.S -> Option o.Out
 | 0, _, _, _ => none
 | n + 1, ex, K, s => match ex, K with
  | .ret, _ => qgw (T.E.an.own F.f) T.E.P F o s
  | .normal, [] => qgw (T.E.an.own F.f) T.E.P F o s
  | .normal, .seq b :: K => if cutAt T F.f b then goC T F o b K s else te T F o n b K s
  | .normal, .block _ m :: K => teK T F o n .normal K (trimT m s)
  | .normal, .loop b m :: K => goC T F o (.loop b) K (qlg F.k m s)
  | .exit id, .seq _ :: K => teK T F o n (.exit id) K s
  | .exit id, .block id' m :: K => if id = id' then teK T F o n .normal K (trimT m s) else teK T F o n (.exit id) K s
  | .exit id, .loop _ _ :: K => teK T F o n (.exit id) K s
  | .exit _, [] => none
termination_by structural n => n
end
end Go.Ab

namespace Go.Ab
variable {S : Sig} {β : Type}
theorem qhr(x:Leaf S.TC S.Ty):(leafD x).isAgg=false:=by cases x<;>rfl
theorem qv3(x:Leaf S.TC S.Ty):(leafD x).cells=[leafD x]:=by cases x<;>rfl
theorem q30(e:TEnv S)(t:Nat):get (envA e) t=(getT e t).toA:=by induction e with|nil=>rfl|cons p r ih=>obtain⟨k,v⟩:=p;simp only[envA,List.map_cons,get,getT]at ih⊢;grind
theorem qlt(e:TEnv S)(t:Nat)(v:TV S):setE (envA e) t v.toA=envA (setT e t v):=by induction e with|nil=>rfl|cons p r ih=>obtain⟨k,u⟩:=p;simp only[envA,List.map_cons,setE,setT]at ih⊢;grind
theorem q5d(e:TEnv S)(t:Nat):q7f (envA e) t=envA (qaj e t):=by induction e with|nil=>rfl|cons p r ih=>obtain⟨k,u⟩:=p;simp only[envA,List.map_cons,q7f,qaj]at ih⊢;grind
theorem ql8(l:List Nat):∀(e:TEnv S),q8q (envA e) l=envA (qqt e l):=by induction l with|nil=>intro e;rfl|cons t r ih=>intro e;simp only[q8q,qqt,q5d,ih]
theorem qnh(v:TV S):v.toA.placed=v.placed:=by cases v with|fl x=>cases x<;>rfl|_=>rfl
theorem qfq(v:TV S):v.toA.isOwn=v.isOwn:=by cases v with|fl x=>cases x<;>rfl|_=>rfl
theorem y51(v:TL S):v.toA.isOwn=v.isOwn:=by cases v<;>rfl
theorem qfw(e:TEnv S):q0z (envA e)=envA (killT e):=by induction e with|nil=>rfl|cons p r ih=>
  obtain⟨k,u⟩:=p;simp only[envA,List.map_cons,q0z,killT,qnh]at ih⊢;split;·rw[ih];exact q5d _ _
  simp_all
theorem y8t(objs:List Nat)(v:TV S):hits objs v.toA=hitsT objs v:=by simp only[hits,hitsT,qnh];congr 1;cases v with
 |fl x=>cases x with|loc p=>cases p<;>rfl|elt p i off=>cases p<;>rfl|seg p i off=>cases p<;>rfl|_=>rfl
 |_=>rfl
theorem qht(objs:List Nat)(e:TEnv S):q1h objs (envA e)=envA (q8k objs e):=by induction e with|nil=>rfl|cons p r ih=>
  obtain⟨k,u⟩:=p;simp only[envA,List.map_cons,q1h,q8k,y8t]at ih⊢;split;·rw[ih];exact q5d _ _
  simp_all
theorem y0d(t:Nat)(v:TV S):v.toA.sitsAt t=v.sitsAt t:=by cases v with
 |fl x=>cases x with|loc p=>cases p<;>rfl|elt p i off=>cases p<;>rfl|seg p i off=>cases p<;>rfl|_=>rfl
 |_=>rfl
theorem qdn(t:Nat)(e:TEnv S):qa7 t (envA e)=envA (q90 t e):=by induction e with|nil=>rfl|cons p r ih=>
  obtain⟨k,u⟩:=p;simp only[envA,List.map_cons,qa7,q90,y0d]at ih⊢;split;·rw[ih];exact q5d _ _
  simp_all
theorem qta:∀{e:TEnv S}{t:Nat}{v:TV S},getT e t=v->replT e t v=e
 |[],_,_,_=>rfl|(k,u)::r,t,v,h=>by
  simp only[getT]at h;simp only[replT];split;·simp_all
  .rename_i hk;rw[if_neg hk]at h;rw[qta h]
theorem qbv(e:TEnv S)(t:Nat)(v:TV S):putE (envA e) t v.toA=envA (putT e t v):=by
 have key:setE (if(get (envA e) t).isOwn then qa7 t (envA e)else envA e) t v.toA=envA (setT (if(getT e t).isOwn then q90 t e else e) t v):=by rw[q30,qfq,qdn];split<;>exact qlt _ _ _
 have key2:q7f (if(get (envA e) t).isOwn then qa7 t (envA e)else envA e) t=envA (qaj (if(getT e t).isOwn then q90 t e else e) t):=by rw[q30,qfq,qdn];split<;>exact q5d _ _
 cases v with
 |fl x=>cases x with|undef=>exact key2|own c xs l=>simp only[TV.toA,TL.toA,putE,putT,qdn];exact qlt _ _ (.fl (.own c xs l))|_=>exact key
 |agg cs=>exact key|tup vs=>exact key
theorem qgt(s:TSt S)(dst:Option Nat)(v:TV S):s.toS.put dst v.toA=(s.put dst v).toS:=by cases dst with|none=>rfl|some t=>simp only[St.put,TSt.put,TSt.toS,qbv]
theorem quw(l:List Nat):∀(s:TSt S),s.toS.del l=(s.del l).toS:=by induction l with|nil=>intro s;rfl|cons t r ih=>
  intro s;simp only[St.del,TSt.del];have:({s.toS with env:=putE s.toS.env t .undef}:St)=({s with env:=putT s.env t (.fl .undef)}:TSt S).toS:=by simp only[TSt.toS];rw[show AV.undef=(TV.fl (.undef:TL S)).toA from rfl,qbv]
  simp_all
theorem qe2{c:Option S.TC}{v:Value}{x:TL S}(h:qde c v=some x):q0l v=x.toA:=by
 unfold qde at h;split at h;·cases c with|none=>cases h|some c=>cases h;rfl
 all_goals first|cases h|skip
 all_goals first|rfl|skip
 rename_i h1 h2 h3 h4 h5 h6 h7 h8 h9 h10 h11 h12;unfold q0l;split;·simp_all
 all_goals first|rfl|skip
 all_goals grind
theorem qdm{vs:List Value}:∀{cs:List (Option S.TC)}{xs:List (TL S)},qd9 cs vs=some xs->vs.map q0l=xs.map TL.toA:=by induction vs with|nil=>intro cs xs h;simp only[qd9,sI]at h;simp_all|cons v r ih=>
  intro cs xs h;simp only[qd9]at h;split at h;·rename_i x ys h1 h2;cases h;simp only[List.map_cons,qe2 h1,ih h2]
  grind
theorem qe6{cs:List (Option S.TC)}{v:Value}(h:qh5 cs v≠.fl .undef):q15 v=(qh5 cs v).toA:=by
 unfold qh5 at h⊢;split at h
 .split at h;·rename_i xs hx;simp only[q15,TV.toA,qdm hx]
  simp_all
 .rename_i hna;split at h
  .rename_i x hx;have:q15 v=q0l v:=by cases v<;>first|rfl|exact absurd rfl (hna _)
   simp only[this,TV.toA,qe2 hx]
  simp_all
theorem qmd{cs:List (Option S.TC)}{v:Value}{xs:List (TL S)}(h:qck cs v=some xs):(q15 v).cells=xs.map TL.toA:=by
 unfold qck at h;split at h;·simp only[q15,AV.cells,qdm h]
 .rename_i hna;split at h
  .rename_i x hx;cases h;have:q15 v=q0l v:=by cases v<;>first|rfl|exact absurd rfl (hna _)
   rw[this,qe2 hx];have:∀y:TL S,qde (cs.headD none) v=some y->y.toA.cells=[y.toA]:=by
    intro y hy;unfold qde at hy;split at hy
    .split at hy;·cases hy;rfl
     .cases hy
    all_goals first|cases hy;rfl|cases hy
   rw[this x hx];rfl
  grind
theorem qst(v:TV S)(h:q6j v=some v):v.toA.cells=v.cells.map TL.toA:=by cases v with
 |fl x=>cases x with
  |d y=>cases y with|lf z=>cases z<;>rfl|ag cs=>simp[TV.toA,TL.toA,PD.toD,AV.cells,TV.cells,List.map_map,Function.comp_def]
  |_=>rfl
 |agg cs=>rfl|tup vs=>cases h
theorem qvc{x:TL S}{y:Leaf S.TC S.Ty}(h:qo4 x=some y):q0e x.toA=some (leafD y):=by unfold qo4 at h;split at h<;>first|cases h;rfl|cases h
theorem q3y:∀{l:List (TL S)}{ds:List (Leaf S.TC S.Ty)},q4k l=some ds->q14 (l.map TL.toA)=some (ds.map leafD)
 |[],ds,h=>by simp only[q4k,sI]at h;subst h;rfl|c::r,ds,h=>by
  simp only[q4k]at h;split at h;·rename_i x xs h1 h2;cases h;simp only[List.map_cons,q14,qvc h1,q3y h2]
  grind
theorem qdx{v:TV S}{p:PD S}(h:qjy v=some p):q4h v.toA=some p.toD:=by
 unfold qjy at h;split at h
 .split at h;·rename_i ds hd;cases h;simp only[TV.toA,q4h,q3y hd,mS,PD.toD]
  .cases h
 .cases h;rename_i x;cases p with|lf z=>cases z<;>rfl|ag cs=>rfl
 .cases h;rfl
 grind
theorem qe3:∀(l:List (TL S)),q5o (l.map TL.toA)=qg5 l|[]=>rfl|c::r=>by cases c<;>simp[q5o,qg5,TL.toA,qe3 r]
theorem qf5:∀{l:List (TL S)},q4k l=none->l.all TL.noAg=true->q14 (l.map TL.toA)=none|[],h,_=>by cases h|c::r,h,ha=>by simp only[List.all_cons,aT]at ha;simp only[List.map_cons,q14];cases hc:qo4 c with
  |none=>
   have:q0e c.toA=none:=by cases c with
    |d x=>cases x with|lf y=>cases hc|ag cs=>cases ha.1
    |own _ _ _=>cases hc|_=>rfl
   grind|some x=>cases hr:q4k r with|none=>rw[qf5 hr ha.2];cases q0e c.toA<;>rfl|some xs=>simp[q4k,hc,hr]at h
theorem y2s{fl:Flag}{v w:TV S}(h:keepT fl v=some w):q5a fl v.toA=w.toA:=by
 unfold keepT at h;split at h;·cases h;rfl
 .rename_i cs;simp only[TV.toA,q5a];split at h;·rename_i ds hd;cases h;rw[q3y hd];rfl
  .rename_i hd;split at h;·rename_i ha;cases h;rw[qf5 hd ha]
   grind
 .rename_i h1 h2;cases h;cases fl with|keep=>rfl|view=>cases v with
   |fl x=>cases x<;>first|rfl|grind|(exfalso;simp_all;done)
   |agg cs=>simp_all|tup vs=>rfl
theorem q4t(h:THeap S)(o off:Nat):q0v (heapA h) o off=(cellT h o off).toA:=by simp only[q0v,cellT,heapA,List.getElem?_map];cases h[o]? with|none=>rfl|some cs=>simp only[mS,List.getElem?_map];cases cs[off]?<;>rfl
theorem qe1(h:THeap S)(o off:Nat)(v:TL S):q18 (heapA h) o off v.toA=heapA (qcm h o off v):=by simp only[q18,qcm,heapA,List.getElem?_map];cases h[o]? with|none=>rfl|some cs=>simp
theorem q1p(s:TSt S)(p:Place):content s.toS p=(q2k s p).toA:=by cases p with|slot t=>exact q30 _ _|cell o off=>exact q4t _ _ _
theorem qhc(s:TSt S)(p:Place)(v:TL S):setPlace s.toS p v.toA=(qbc s p v).toS:=by cases p with|slot t=>simp only[setPlace,qbc,TSt.toS];rw[<-qbv];rfl|cell o off=>simp only[setPlace,qbc,TSt.toS,qfw,qe1]
theorem q6b(s:TSt S)(p:Place)(v:TL S):lendPlace s.toS p v.toA=(q5h s p v).toS:=by cases p with|slot t=>simp only[lendPlace,q5h,TSt.toS];rw[<-qlt];rfl|cell o off=>simp only[lendPlace,q5h,TSt.toS,qe1]
theorem qhg:∀(n:Nat)(s:TSt S)(o off:Nat),lendFrom s.toS o off n=(qft s o off n).toS|0,_,_,_=>rfl|n+1,s,o,off=>by simp only[lendFrom,qft];rw[show q0v s.toS.heap o off=(cellT s.heap o off).toA from q4t _ _ _];rw[<-qhg n];cases cellT s.heap o off with
  |own c xs l=>cases l with|false=>exact congrArg (fun z=>lendFrom z o (off+1) n) (q6b s (.cell o off) (.own c xs true))|true=>rfl
  |_=>rfl
variable {T : TEn}
theorem q64{s:TSt T.S}{t:TypeId}{x:Operand}(h:evT T s t x≠.fl .undef):ev T.E s.toS x=(evT T s t x).toA:=by cases x with|tmp u=>exact q30 _ _|const v=>exact qe6 h|global g=>exact absurd rfl h|func f=>rfl
theorem y0l{v:TV S}{p:PD S}(h:y6z v=some p):v=.fl (.d p):=by unfold y6z at h;grind
theorem q3d{s:TSt T.S}{t:TypeId}{x:Operand}{v:TV T.S}(h:evT T s t x=v)(hv:v≠.fl .undef):ev T.E s.toS x=v.toA:=by subst h;exact q64 hv
theorem q0s{s:TSt T.S}{t:TypeId}{x:Operand}{p:PD T.S}(h:q2f T s t x=some p):plainC T.E s.toS x=some p.toD:=by cases x with|const v=>simp only[q2f]at h;simp only[plainC];rw[qe6 (by intro hh;rw[hh]at h;cases h)];exact qdx h|_=>simp only[q2f]at h;have:=y0l h;simp only[plainC];rw[q3d this (by simp)];rfl
theorem qif {s : TSt T.S} {t : TypeId} : ∀ {l : List Operand} {ps : List (PD T.S)}, qfm T s t l = some ps -> plainsC T.E s.toS l = some (ps.map PD.toD)
 | [], ps, h => by simp only [qfm, sI] at h; subst h; rfl
 | x :: r, ps, h => by
  simp only [qfm] at h;split at h
  .rename_i a as h1 h2;cases h;simp only [plainsC, q0s h1, qif h2, List.map_cons]
  grind
theorem qba {v w : TV S} (h : q6j v = some w) : w = v /\ q3c v.toA = some v.toA /\ v ≠ .fl .undef := by
 cases v with
 | fl x => cases x with
  | d y => cases h; exact ⟨rfl, rfl, by simp⟩
  | _ => first | (cases h; done) | (cases h; exact ⟨rfl, rfl, by simp⟩)
 | agg cs => cases h; exact ⟨rfl, rfl, by simp⟩
 | tup vs => cases h
theorem qk0{v w:TV S}(h:y47 v=some w):w=v/\y3b v.toA=some v.toA/\v≠.fl .undef:=by cases v with
 |fl x=>cases x with|d y=>cases h;exact⟨rfl,rfl,by simp⟩|_=>first|(cases h;done)|(cases h;exact⟨rfl,rfl,by simp⟩)
 |agg cs=>cases h;exact⟨rfl,rfl,by simp⟩|tup vs=>cases h
theorem qcy{fl:Flag}{q:Bool}{s s1:TSt S}{p:Place}{v:TV S}(h:qci fl q s p=some (v,s1)):readPlace fl q s.toS p=some (v.toA,s1.toS):=by
 unfold qci at h;unfold readPlace;rw[q1p];split at h;·rename_i c xs l hc;rw[hc];cases fl with|keep=>simp only[sI,pI]at h;obtain⟨rfl,rfl⟩:=h;rfl|view=>
   simp only[TV.toA,TL.toA];simp only at h;split at h;·rename_i hl;cases h;rw[if_pos hl];rfl
   .rename_i hl;rw[if_neg hl];split at h;·cases h
    .rename_i hq;cases h;rw[if_neg hq];simp only[sI,pI];exact⟨rfl,q6b s p (.own c xs true)⟩
 all_goals first|(cases h;done)|skip
 rename_i h1 h2 h3 h4 h6;cases h;generalize q2k s p=w at*;cases w with
 |fl x=>cases x<;>first|rfl|grind|simp_all
 |agg cs=>simp_all|tup vs=>rfl
end Go.Ab

namespace Go.Ab
variable {S : Sig} {β : Type} {T : TEn} {P : Program}
theorem q6y(hS:S.Ok P)(c:S.TC)(x:S.Ty c):(S.enc c x).cells=(S.cells c x).map leafD:=by rw[hS.enc_eq];have hl:=hS.len c x;have hp:=hS.pos c;unfold packT;cases hg:S.agg c with|true=>rfl|false=>have h1:=hS.one c hg;match hcs:S.cells c x,hl with|[],hl=>rfl|[y],_=>simp only[fT,if_false,PD.toD,qv3,List.map_cons,List.map_nil]|y::z::r,hl=>simp_all
theorem y4s(hS:S.Ok P)(c:S.TC)(x:S.Ty c):(S.enc c x).isAgg=S.agg c:=by rw[hS.enc_eq];have hl:=hS.len c x;have hp:=hS.pos c;unfold packT;cases hg:S.agg c with|true=>rfl|false=>match hcs:S.cells c x,hl with|[],hl=>simp_all|y::r,_=>simp only[fT,if_false,PD.toD,qhr]
theorem qzt(hS:S.Ok P)(c:S.TC)(x:S.Ty c):qxd (S.agg c) (S.size c) (S.enc c x)=true:=by simp only[qxd,q6y hS,y4s hS,List.length_map,hS.len,beq_self_eq_true,decide_eq_true (hS.pos c),tA',List.all_map,Function.comp_def,qhr,Bool.not_false,List.all_eq_true,implies_true]
theorem q38(hS:S.Ok P){t e:TypeId}{c:S.TC}(h1:S.elem t=some c)(h2:q2n P t=some e)(xs:List (S.Ty c)):q40 P e (xs.map (S.enc c))=true:=by obtain⟨e',h3,h4,h5⟩:=hS.elem t c h1;rw[h2]at h3;cases h3;simp only[q40,h4,h5,List.all_map,List.all_eq_true,Function.comp_def];intro x _;exact qzt hS c x
theorem qpk(hS:S.Ok P){c:S.TC}{p:PD S}{x:S.Ty c}(h:ofPD c p=some x):p.toD=S.enc c x:=by rw[hS.enc_eq];cases p with
 |lf y=>
  simp only[ofPD]at h;split at h;·cases h
  .rename_i hg;have h1:=hS.of_eq c _ _ h;simp only[packT,hg];match hcs:S.cells c x,h1 with|[z],h1=>simp only[List.map_cons,List.map_nil,List.cons.injEq,and_true]at h1;exact h1.symm|[],h1=>grind|_::_::_,h1=>simp_all
 |ag cs=>
  simp only[ofPD]at h;split at h;·rename_i hg;have h1:=hS.of_eq c _ _ h;simp only[packT,hg,if_true,PD.toD,h1]
  grind
theorem qqx(hS:S.Ok P){c:S.TC}:∀{ps:List (PD S)}{xs:List (S.Ty c)},ofPDs c ps=some xs->ps.map PD.toD=xs.map (S.enc c)
 |[],xs,h=>by simp only[ofPDs,sI]at h;simp_all|p::r,xs,h=>by
  simp only[ofPDs]at h;split at h;·rename_i y ys h1 h2;cases h;simp only[List.map_cons,qpk hS h1,qqx hS h2]
  grind
theorem q74{c:S.TC}{x:Leaf S.TC S.Ty}{xs:List (S.Ty c)}(h:qbe c x=some xs):x=.l c xs:=by cases x with|l c' ys=>simp only[qbe]at h;grind|_=>cases h
theorem qin{α:Type}{xs:List α}{n:Int}{k:α->Option β}{r:β}(h:nth xs n k=some r):0<=n/\∃x,xs[n.toNat]?=some x/\k x=some r:=by unfold nth at h;grind
theorem qfo{α:Type}{xs:List α}{n:Nat}{k:α->Option β}{r:β}(h:nthN xs n k=some r):∃x,xs[n]?=some x/\k x=some r:=by unfold nthN at h;grind
theorem qno{n:Nat}{k:Option β}{r:β}(h:capOk n k=some r):n<=q06/\k=some r:=by unfold capOk at h;simp_all
theorem qpe{len:Nat}{n:Int}{k:Nat->Option β}{r:β}(h:hiK len n k=some r):(0<=n/\n<=(len:Int))/\k n.toNat=some r:=by unfold hiK at h;simp_all
theorem q6k{p:Prop} [Decidable p]{k:Option β}{r:β}(h:chk p k=some r):p/\k=some r:=by unfold chk at h;simp_all
theorem qi3(hS:S.Ok P){s:TSt S}{p:Place}{c:S.TC}{xs:List (S.Ty c)}{l:Bool}(hc:q2k s p=.fl (.own c xs l)){i off:Nat}{x:S.Ty c}(hx:xs[i]?=some x):q4o s.toS p i off=some (((S.cells c x).drop off).map leafD):=by simp only[q4o,q1p,hc,TV.toA,TL.toA,List.getElem?_map,hx,mS,q6y hS,List.map_drop]
theorem qj1(h:THeap S)(o:Nat):(heapA h)[o]?=(h[o]?).map (·.map TL.toA):=by simp[heapA]
def Does(A:Option (AV×St))(k:TV S->TSt S->Option β)(x:β):Prop:=∃v s1,A=some (v.toA,TSt.toS s1)/\k v s1=some x
theorem qzs(hS:T.S.Ok T.E.P){fl:Flag}{q:Bool}{t:TypeId}{a:TV T.S}{s:TSt T.S}{k:TV T.S->TSt T.S->Option β}{x:β}(h:loadT T fl q t a s k=some x):Does (q4b T.E fl q t a.toA s.toS) k x:=by
 unfold loadT at h;unfold q4b;split at h
 .rename_i hg;rw[hg];split at h
  .rename_i o off;split at h;·rename_i v s1 hr;exact⟨v,s1,qcy hr,h⟩
   .cases h
  .exact⟨_,_,rfl,h⟩
  .rename_i p i off;split at h
   .rename_i c xs l hc;obtain⟨y,hy,hk⟩:=qfo h;split at hk;·rename_i z zs hz;refine⟨_,_,?_,hk⟩;simp only[TV.toA,TL.toA,qi3 hS hc hy,hz,List.map_cons,PD.toD]
    .cases hk
   .cases h
  .cases h
 .rename_i n hg hn;rw[hg,hn];split at h
  .rename_i o off;split at h
   .rename_i cs hcs;split at h
    .rename_i hle;split at h
     .rename_i ds hds;have h1:s.toS.heap[o]?=some (cs.map TL.toA):=by rw[show s.toS.heap=heapA s.heap from rfl,qj1,hcs];rfl
      have h2:((cs.map TL.toA).drop off).take n=((cs.drop off).take n).map TL.toA:=by simp[List.map_take,List.map_drop]
      split at h;·rename_i hl;refine⟨_,_,?_,h⟩;simp only[TV.toA,TL.toA,h1,List.length_map,hle,if_true,h2,q3y hds,qe3,hl];rfl
      .rename_i hl;split at h;·cases h
       .rename_i hq;refine⟨_,_,?_,h⟩;simp only[TV.toA,TL.toA,h1,List.length_map,hle,if_true,h2,q3y hds,qe3,hl,hq,qhg];rfl
     .cases h
    .cases h
   .cases h
  .rename_i cs;split at h;·rename_i hle;refine⟨_,_,?_,h⟩;simp only[TV.toA,TL.toA,List.length_map,hle,if_true,PD.toD,List.map_take]
   .cases h
  .rename_i p i off;split at h
   .rename_i c xs l hc;obtain⟨y,hy,hk⟩:=qfo h;split at hk;·rename_i hle;refine⟨_,_,?_,hk⟩;simp only[TV.toA,TL.toA,qi3 hS hc hy,List.length_map,hle,if_true,PD.toD,List.map_take]
    .cases hk
   .cases h
  .cases h
 grind
def Puts(A:Option St)(k:TSt S->Option β)(x:β):Prop:=∃s1,A=some (TSt.toS s1)/\k s1=some x
theorem ydu(l:List (TL S)):(l.map TL.toA).any AV.isOwn=l.any TL.isOwn:=by induction l with|nil=>rfl|cons a r ih=>simp only[List.map_cons,List.any_cons,ih,y51]
theorem qih(hS:T.S.Ok T.E.P){a:TV T.S}{vs:List (TL T.S)}{s:TSt T.S}{k:TSt T.S->Option β}{x:β}(h:qdk a vs s k=some x):Puts (q2h a.toA (vs.map TL.toA) s.toS) k x:=by
 unfold qdk at h;unfold q2h;split at h
 .rename_i o off;split at h
  .rename_i cs hcs;have h1:s.toS.heap[o]?=some (cs.map TL.toA):=by rw[show s.toS.heap=heapA s.heap from rfl,qj1,hcs];rfl
   split at h
   .rename_i hle;refine⟨_,?_,h⟩;simp only[TV.toA,TL.toA,h1,List.length_map,hle,if_true,sI];have h2:((cs.map TL.toA).drop off).take vs.length++vs.map TL.toA=(((cs.drop off).take vs.length)++vs).map TL.toA:=by simp[List.map_take,List.map_drop]
    rw[h2,ydu];simp only[TSt.toS,St.mk.injEq];constructor
    .split;·exact qht _ _
     .rfl
    .simp[heapA,List.map_set,List.map_take,List.map_drop]
   .cases h
  .cases h
 .rename_i p i off;split at h
  .rename_i c xs ds hc hds;obtain⟨y,hy,hk⟩:=qfo h;split at hk
   .rename_i hle;split at hk
    .rename_i z hz;refine⟨_,?_,hk⟩;simp only[TV.toA,TL.toA,q1p,hc,q3y hds,List.getElem?_map,hy,mS,q6y hS,List.length_map,hle,and_self,if_true,sI];have h3:=hS.of_eq c _ _ hz;have h4:q7e (T.S.enc c y) off (ds.map leafD)=T.S.enc c z:=by rw[hS.enc_eq c y,hS.enc_eq c z];unfold packT;have hly:=hS.len c y;have hlz:=hS.len c z;cases hg:T.S.agg c with|true=>simp only[if_true,PD.toD,q7e,h3,List.map_append,List.map_take,List.map_drop,List.length_map]|false=>have h1:=hS.one c hg;simp only[fT,if_false];match hcs:T.S.cells c y,hcz:T.S.cells c z,ds,hle with
       |[u],[w],[d],hle=>
        rw[hcs]at h3;simp only[List.length_cons,List.length_nil]at hle;obtain rfl:off=0:=by omega
        rw[hcz]at h3;simp only[List.take_zero,List.nil_append,List.drop_succ_cons,List.drop_zero,List.length_cons,List.length_nil,Nat.zero_add,List.cons_append,List.map_cons,List.map_nil,List.cons.injEq,and_true]at h3;simp only[PD.toD,List.map_cons,List.map_nil];have:q7e (leafD u) 0 [leafD d]=leafD d:=by cases u<;>rfl
        rw[this,h3]|[],_,_,_=>simp only[hcs,List.length_nil]at hly;omega|_::_::_,_,_,_=>simp only[hcs,List.length_cons]at hly;omega|[_],[],_,_=>simp only[hcz,List.length_nil]at hlz;omega|[_],_::_::_,_,_=>simp only[hcz,List.length_cons]at hlz;omega|[_],[_],[],hle=>simp at hle|[_],[_],_::_::_,hle=>simp only[List.length_cons,List.length_nil]at hle;omega
     rw[h4,<-q6b];simp only[TL.toA,List.map_set]
    .cases hk
   .cases hk
  .cases h
 grind
theorem y1h(v:TL S):qr6 v.toA=y1p v:=by cases v with
 |d x=>cases x with|lf y=>cases y<;>rfl|ag cs=>rfl
 |_=>rfl
theorem qtt(hS:T.S.Ok T.E.P){t:TypeId}{a y:Operand}{s:TSt T.S}{k:TSt T.S->Option β}{x:β}(h:y75 T t a y s k=some x):Puts (q71 T.E t a y s.toS) k x:=by
 unfold y75 at h;unfold q71;split at h
 .rename_i v g n hv hg hn;obtain⟨rfl,hm,hne⟩:=qba hv;rw[q64 hne,hm,hg,hn];split at h
  .rename_i hc;have h1:ev T.E s.toS a=(evT T s t a).toA:=by refine q64 fun e=>?_;rw[e]at h;cases h
   rw[h1];have hcells:=qst (evT T s t y) hv;have h2:((evT T s t y).toA.cells.length=n/\(evT T s t y).toA.cells.all qr6=true):=by rw[hcells];refine⟨by simpa using hc.1,?_⟩;simpa[List.all_map,Function.comp_def,y1h]using hc.2
   simp only[h2,and_self,if_true];rw[quw,hcells];exact qih hS h
  .cases h
 grind
end Go.Ab

namespace Go.Ab
variable {S : Sig} {β : Type} {T : TEn} {P : Program}
theorem y15{P:Program}{op:BinOp}{t:TypeId}{x y:Leaf S.TC S.Ty}{k:LfK S β}{r:β}(h:binT' P op t x y k=some r):∃u v z,leafD x=.v u/\leafD y=.v v/\∃w,binT P op t u v=some w/\leafD z=.v w/\k z=some r:=by
 unfold binT' at h;split at h
 .rename_i κ a κ' b;refine⟨.int κ a,.int κ' b,?_⟩;split at h;·obtain⟨hp,hk⟩:=q6k h;exact⟨_,rfl,rfl,_,by simp only[binT,binV,Int.not_lt.2 hp,if_false];rfl,rfl,hk⟩
  .obtain⟨hp,hk⟩:=q6k h;exact⟨_,rfl,rfl,_,by simp only[binT,binV,Int.not_lt.2 hp,if_false];rfl,rfl,hk⟩
  all_goals(
   split at h;·rename_i hκ;subst hκ;first|exact⟨_,rfl,rfl,_,by simp only[binT,binV,if_true];rfl,rfl,h⟩|(obtain⟨hp,hk⟩:=q6k h;exact⟨_,rfl,rfl,_,by simp only[binT,binV,true_and,hp,not_false_eq_true,ne_eq,if_true];rfl,rfl,hk⟩)
   .cases h)
 .rename_i a b;refine⟨.string ⟨⟨a⟩⟩,.string ⟨⟨b⟩⟩,?_⟩;split at h;·obtain⟨hp,hk⟩:=q6k h;exact⟨_,rfl,rfl,_,by simp only[binT,binV,hp,if_true],rfl,hk⟩
  all_goals first|(cases h;done)|exact⟨_,rfl,rfl,_,by simp only[binT,binV];rfl,rfl,h⟩
 .rename_i a b;refine⟨.bool a,.bool b,?_⟩;split at h;·rename_i hu;exact⟨_,rfl,rfl,_,by simp only[binT,hu],rfl,h⟩
  .rename_i hu;exact⟨_,rfl,rfl,_,by simp only[binT,hu],rfl,h⟩
  .cases h
 grind
theorem y78{op:UnOp}{x z:Leaf S.TC S.Ty}(h:unT op x=some z):∃u w,leafD x=.v u/\unV op u=some w/\leafD z=.v w:=by
 unfold unT at h;split at h;·cases h;exact⟨_,_,rfl,rfl,rfl⟩
 .cases h;exact⟨_,_,rfl,rfl,rfl⟩
 grind
theorem qiv{v:TV S}{n:Int}(h:idxT v=some n):idxOf v.toA=some n/\v≠.fl .undef:=by
 unfold idxT at h;split at h;·cases h;exact⟨rfl,by simp⟩
 grind
theorem y9s{s:TSt T.S}{t:TypeId}{x:Operand}{n:Int}(h:idxT (evT T s t x)=some n):idxOf (ev T.E s.toS x)=some n:=by obtain⟨h1,h2⟩:=qiv h;rw[q64 h2];omega
theorem qsa:∀{l:List (TL S)}{ds:List (Leaf S.TC S.Ty)},allLf l=some ds->allD (l.map TL.toA)=some (ds.map leafD)
 |[],ds,h=>by simp only[allLf,sI]at h;subst h;rfl|c::r,ds,h=>by
  unfold allLf at h;split at h;·rename_i h0;cases h0
  .rename_i x r' h0;cases h0;split at h;·rename_i xs hx;cases h;simp only[List.map_cons,TL.toA,PD.toD,allD,qsa hx,mS]
   .cases h
  grind
theorem qnb:∀{l:List (TL S)},allLf l=none->l.all TL.noAg=true->allD (l.map TL.toA)=none|[],h,_=>by cases h|c::r,h,ha=>by simp only[List.all_cons,aT]at ha;cases c with
  |d x=>cases x with|lf y=>
    simp only[allLf]at h;split at h;·cases h
    .rename_i hr;simp only[List.map_cons,TL.toA,PD.toD,allD,qnb hr ha.2,Option.map_none]|ag cs=>cases ha.1
  |_=>rfl
theorem qqw{cs:List (TL S)}{v:TV S}(h:qp4 cs=some v):qdt (cs.map TL.toA)=v.toA:=by
 unfold qp4 at h;unfold qdt;split at h;·rename_i ds hd;cases h;rw[qsa hd];rfl
 .rename_i hd;split at h;·rename_i ha;cases h;rw[qnb hd ha];rfl
  grind
theorem qqj(v:TV S)(hv:q6j v=some v):v.toA.cells=v.cells.map TL.toA/\v.toA.cells.length=v.cells.length:=by have:=qst v hv;simp_all
theorem qt0{place:Nat->Option (Nat×Nat)}:∀{ps:List (Nat×TV S)}{cells cs:List (TL S)},(∀p∈ps,q6j p.2=some p.2)->fillT place cells ps=some cs->fillA place (cells.map TL.toA) (ps.map fun p=>(p.1,p.2.toA))=some (cs.map TL.toA)
 |[],cells,cs,_,h=>by simp only[fillT,sI]at h;subst h;rfl|(i,v)::r,cells,cs,hm,h=>by
  simp only[fillT]at h;split at h
  .rename_i off size hp;split at h;·rename_i hc;obtain⟨h1,h2⟩:=qqj v (hm (i,v) (by simp));simp only[List.map_cons,fillA,hp,h2,List.length_map,hc,and_self,if_true];have:=qt0 (fun p hp=>hm p (by simp[hp])) h;rw[<-this,h1];simp only[List.map_append,List.map_take,List.map_drop]
   .cases h
  grind
theorem qn7{t:TypeId}:∀{l:List (Nat×Operand)}{s:TSt T.S}{ps:List (Nat×TV T.S)},qsx T t s l=some ps->(∀p∈ps,q6j p.2=some p.2)/\q5g T.E s.toS l=some (ps.map fun p=>(p.1,p.2.toA))
 |[],s,ps,h=>by simp only[qsx,sI]at h;subst h;exact⟨by simp,rfl⟩|(i,x)::r,s,ps,h=>by
  simp only[qsx]at h;split at h
  .rename_i v vs h1 h2;cases h;obtain⟨rfl,hm,hne⟩:=qba h1;obtain⟨h3,h4⟩:=qn7 h2;refine⟨fun p hp=>?_,?_⟩
   .rcases List.mem_cons.1 hp with rfl|hp;·exact h1
    .exact h3 p hp
   .simp only[q5g,q64 hne,hm,quw,h4,List.map_cons]
  grind
theorem y8w{t:TypeId}{v:TV T.S}{s:TSt T.S}{n:Nat}(h:lenT T t v s=some n):lenA T.E t v.toA s.toS=some n/\v≠.fl .undef:=by
 unfold lenT at h;unfold lenA;split at h;·rename_i hu;cases h;refine⟨?_,by simp⟩;rw[hu];rfl
 .rename_i hu;cases h;refine⟨?_,by simp⟩;rw[hu];simp[TV.toA,TL.toA,PD.toD,leafD]
 .rename_i hu;rw[hu];split at h;·rename_i hc;cases h;simp only[TV.toA,TL.toA,q1p,hc,List.length_map];simp
  .cases h
 .rename_i hu;rw[hu];split at h;·rename_i hc;cases h;have hc':q0v (heapA s.heap) _ 0=_:=(q4t s.heap _ 0).trans (congrArg TL.toA hc);simp only[TV.toA,TL.toA,TSt.toS,hc',List.length_map];simp
  .cases h
 .rename_i hu;rw[hu];split at h;·rename_i hc;cases h;simp only[TV.toA,TL.toA,q1p,hc];simp
  .cases h
 grind
theorem q8c{len:Nat}{lo hi:Option (TV S)}{k:Nat->Nat->Option β}{r:β}(h:qdr len lo hi k=some r):∃a b,q3z len (lo.map TV.toA) (hi.map TV.toA)=some (a,b)/\k a b=some r/\(∀v∈lo,v≠.fl .undef)/\(∀v∈hi,v≠.fl .undef):=by unfold qdr at h;unfold q3z;cases hi with
 |none=>simp only at h;cases lo with|none=>grind|some a=>
   simp only at h;split at h;·rename_i n hn;obtain⟨h1,h2⟩:=qiv hn;obtain⟨h3,h4⟩:=qpe h;refine⟨_,_,?_,h4,by simpa using h2,by simp⟩;simp only[Option.map_none,mS,h1,h3,and_self,if_true]
   grind
 |some b=>
  simp only at h;split at h;·cases h
  .rename_i m hm;obtain⟨h1,h2⟩:=qiv hm;obtain⟨h3,h4⟩:=qpe h;cases lo with|none=>grind|some a=>
    simp only at h4;split at h4;·rename_i n hn;obtain⟨h5,h6⟩:=qiv hn;obtain⟨h7,h8⟩:=qpe h4;refine⟨_,_,?_,h8,by simpa using h6,by simpa using h2⟩;simp only[mS,h1,h3,h5,h7,and_self,if_true]
    simp_all
theorem qd8{s:TSt T.S}{t:TypeId}{x:Option Operand}(h:∀v∈x.map (evT T s t),v≠.fl .undef):x.map (ev T.E s.toS)=(x.map (evT T s t)).map TV.toA:=by cases x with|none=>rfl|some y=>simp only[mS];rw[q64 (t:=t) (h (evT T s t y) (by simp))]
theorem q6c{E:Env0}{s:St}{y:Operand}(h:(ev E s y).placed=true\/∃o,ev E s y=.ref o):plainC E s y=none:=by
 cases y with|const c=>
  exfalso;simp only[ev,q15]at h;split at h;·rcases h with h|⟨o,h⟩<;>cases h
  .unfold q0l at h;split at h<;>(rcases h with h|⟨o,h⟩<;>cases h)|_=>
  simp only[plainC];generalize ev E s _=c at h;rcases h with h|⟨o,h⟩;·cases c<;>first|rfl|cases h
  .rw[h];rfl
theorem y63(hS:T.S.Ok T.E.P){t:TypeId}{y:Operand}{lo hi mx:Option Operand}{s:TSt T.S}{k:TV T.S->Option β}{r:β}(h:segT T t (evT T s t y) lo hi mx s k=some r):∃v,q5f T.E t y lo hi mx s.toS=some v.toA/\k v=some r:=by
 unfold segT at h;split at h
 .rename_i p hv;have hev:=q3d hv (by simp);split at h
  .rename_i c xs l hc;split at h;·rename_i he;obtain⟨a,b,h1,h2,h3,h4⟩:=q8c h;obtain⟨e,h5,h6,h7⟩:=hS.elem t c he;refine⟨_,?_,h2⟩;have hpl:plainC T.E s.toS y=none:=q6c (.inl (by rw[hev];rfl));simp only[q5f,hpl,segOp,hev,TV.toA,TL.toA,segBase,q1p,hc,h5,List.length_map];rw[qd8 h3,qd8 h4,h1];simp only[q38 hS he h5,if_true,Nat.zero_add]
   .cases h
  .cases h
 .rename_i o hv;have hev:=q3d hv (by simp);split at h
  .rename_i c xs l hc;split at h;·rename_i he;obtain⟨a,b,h1,h2,h3,h4⟩:=q8c h;obtain⟨e,h5,h6,h7⟩:=hS.elem t c he;refine⟨_,?_,h2⟩;have hpl:plainC T.E s.toS y=none:=q6c (.inr ⟨o,by rw[hev];rfl⟩);have hc':q0v s.toS.heap o 0=_:=(q4t s.heap o 0).trans (congrArg TL.toA hc);simp only[q5f,hpl,segOp,hev,TV.toA,TL.toA,segBase,hc',h5,List.length_map];rw[qd8 h3,qd8 h4,h1];simp only[q38 hS he h5,if_true,Nat.zero_add]
   .cases h
  .cases h
 .rename_i p a0 b0 hv;have hev:=q3d hv (by simp);split at h
  .rename_i c xs l hc;split at h;·rename_i he;obtain⟨hle,h⟩:=q6k h;obtain⟨a,b,h1,h2,h3,h4⟩:=q8c h;obtain⟨e,h5,h6,h7⟩:=hS.elem t c he;refine⟨_,?_,h2⟩;have hpl:plainC T.E s.toS y=none:=q6c (.inl (by rw[hev];rfl));simp only[q5f,hpl,segOp,hev,TV.toA,TL.toA,segBase,q1p,hc,h5,List.length_map,hle,if_true];rw[qd8 h3,qd8 h4,h1];simp only[q38 hS he h5,if_true]
   .cases h
  .cases h
 grind
theorem qpb(_hS:T.S.Ok T.E.P){c:T.S.TC}{u:TypeId}{y:Operand}{s:TSt T.S}{k:List (T.S.Ty c)->Option β}{r:β}(h:qok T c u y s k=some r):∃ys,copySrc T.E s.toS y=some (ys.map (T.S.enc c))/\k ys=some r:=by
 unfold qok at h;split at h
 .rename_i p lo hi hv;have hev:=q3d hv (by simp);split at h
  .rename_i c' xs l hc;split at h;·rename_i ys hy;cases q74 hy;obtain⟨hle,h⟩:=q6k h;refine⟨_,?_,h⟩;have hpl:plainC T.E s.toS y=none:=q6c (.inl (by rw[hev];rfl));simp only[copySrc,hpl,hev,TV.toA,TL.toA,q1p,hc,List.length_map,hle,if_true,List.map_drop,List.map_take]
   .cases h
  grind
 .split at h
  .rename_i yl hp;split at h;·rename_i ys hy;cases q74 hy;exact⟨ys,by simp only[copySrc,q0s hp,PD.toD,leafD],h⟩
   .cases h
  grind
theorem y1n(hS:T.S.Ok T.E.P){t u:TypeId}{y z:Operand}{s:TSt T.S}{k:TV T.S->TSt T.S->Option β}{r:β}(h:copyT T t u y z s k=some r):Does (qd3 T.E t u y z s.toS) k r:=by
 unfold copyT at h;split at h
 .rename_i p lo hi hv;have hev:=q3d hv (by simp);split at h
  .rename_i c xs hc;split at h;·rename_i he;obtain⟨ys,h1,h2⟩:=qpb hS h;obtain⟨hle,h3⟩:=q6k h2;obtain⟨e,h5,h6,h7⟩:=hS.elem t c he.1;obtain⟨e',g5,g6,g7⟩:=hS.elem u c he.2;refine⟨_,_,?_,h3⟩;simp only[qd3,hev,TV.toA,TL.toA,h1,h5,g5,q1p,hc,List.length_map,hle,q38 hS he.1 h5,and_self,if_true];rw[<-q6b];simp only[TL.toA,PD.toD,leafD,List.map_append,List.map_take,List.map_drop]
   .cases h
  .cases h
 grind
theorem qvx(hS:T.S.Ok T.E.P){t:TypeId}{y:Operand}{lo hi mx:Option Operand}{s:TSt T.S}{k:TV T.S->Option β}{r:β}(h:y5m T t y lo hi mx s k=some r):∃v,q5f T.E t y lo hi mx s.toS=some v.toA/\k v=some r:=by
 unfold y5m at h;split at h
 .rename_i l hp;split at h;·rename_i hu;obtain⟨a,b,h1,h2,h3,h4⟩:=q8c h;refine⟨_,?_,h2⟩;simp only[q5f,q0s hp,PD.toD,leafD];rw[qd8 h3,qd8 h4,h1,hu];rfl
  grind
 .rename_i c xs hp;split at h;·rename_i he;obtain⟨a,b,h1,h2,h3,h4⟩:=q8c h;refine⟨_,?_,h2⟩;obtain⟨e,h5,h6,h7⟩:=hS.elem t c he;simp only[q5f,q0s hp,PD.toD,leafD,h5,List.length_map];rw[qd8 h3,qd8 h4,h1];simp only[q38 hS he h5,if_true,TV.toA,TL.toA,PD.toD,leafD,List.map_drop,List.map_take]
  grind
 .exact y63 hS h
theorem qsu(hS:T.S.Ok T.E.P){q:Bool}{t:TypeId}{y z:Operand}{s:TSt T.S}{k:TV T.S->TSt T.S->Option β}{r:β}(h:qtk T q t y z s k=some r):Does (q2l T.E q t y z s.toS) k r:=by
 unfold qtk at h;split at h
 .rename_i c yl he hp;split at h
  .rename_i ys hy;cases q74 hy;split at h
   .rename_i hg;obtain⟨e,h5,h6,h7⟩:=hS.elem t c he;simp only[yco,h5]at hg;split at hg
    .rename_i b hb;simp only[aT,dT']at hg;split at h
     .rename_i c' xs l hv;split at h;·rename_i xs' hx;cases q74 hx;obtain⟨h1,h2⟩:=qno h;refine⟨_,_,?_,h2⟩;simp only[q2l,q0s hp,PD.toD,leafD,h5,hb,hg,q38 hS he h5,and_self,if_true,q3d hv (by simp),TV.toA,TL.toA,List.length_map,h1,List.map_append]
      .cases h
     .rename_i p hv;split at h
      .rename_i c' xs l hc;split at h;·cases h
       .rename_i hq;split at h
        .rename_i xs' hx;cases q74 hx;obtain⟨h1,h2⟩:=qno h;refine⟨_,_,?_,h2⟩;have hq':q=false:=by simpa using hq
         simp only[q2l,q0s hp,PD.toD,leafD,h5,hb,hg,q38 hS he h5,and_self,if_true,q3d hv (by simp),TV.toA,TL.toA,q1p,hc,hq',List.length_map,h1,List.map_append];rw[<-qhc];rfl
        .cases h
      .cases h
     .cases h
    .cases hg
   .cases h
  .cases h
 grind
theorem qj5(hS:T.S.Ok T.E.P){t:TypeId}{v:TV T.S}{n:Int}{s:TSt T.S}{k:TV T.S->Option β}{r:β}(h:qgs T t v n s k=some r):(∃w,q1q T.E t v.toA n s.toS=some w.toA/\k w=some r)/\v≠.fl .undef:=by
 unfold qgs at h;split at h
 .rename_i c e p he hu;obtain⟨e',h5,h6,h7⟩:=hS.elem t c he;simp only[q2n,hu,sI]at h5;subst h5;split at h
  .rename_i c' xs l hc;split at h;·rename_i hcc;subst hcc;obtain⟨h0,x,hx,hk⟩:=qin h;refine⟨⟨_,?_,hk⟩,by simp⟩;simp only[q1q,hu,TV.toA,TL.toA,q1p,hc,h7,h0,if_true,List.getElem?_map,hx,mS,q6y hS,List.length_map,hS.len]
   .cases h
  .cases h
 .rename_i c e o he hu;obtain⟨e',h5,h6,h7⟩:=hS.elem t c he;simp only[q2n,hu,sI]at h5;subst h5;split at h
  .rename_i c' xs l hc;split at h;·rename_i hcc;subst hcc;obtain⟨h0,x,hx,hk⟩:=qin h;refine⟨⟨_,?_,hk⟩,by simp⟩;have hc':q0v s.toS.heap o 0=_:=(q4t s.heap o 0).trans (congrArg TL.toA hc);simp only[q1q,hu,TV.toA,TL.toA,hc',h7,h0,if_true,List.getElem?_map,hx,mS,q6y hS,List.length_map,hS.len]
   .cases h
  .cases h
 .rename_i c e p lo hi he hu;obtain⟨e',h5,h6,h7⟩:=hS.elem t c he;simp only[q2n,hu,sI]at h5;subst h5;split at h
  .rename_i c' xs l hc;split at h;·rename_i hcc;subst hcc;obtain⟨hb,h⟩:=q6k h;obtain⟨x,hx,hk⟩:=qfo h;refine⟨⟨_,?_,hk⟩,by simp⟩;simp only[q1q,hu,TV.toA,TL.toA,q1p,hc,h7,hb,and_self,if_true,List.getElem?_map,hx,mS,q6y hS,List.length_map,hS.len]
   .cases h
  .cases h
 .rename_i c e c' xs he hu;obtain⟨e',h5,h6,h7⟩:=hS.elem t c he;simp only[q2n,hu,sI]at h5;subst h5;split at h;·rename_i hcc;subst hcc;obtain⟨h0,x,hx,hk⟩:=qin h;refine⟨⟨_,?_,hk⟩,by simp⟩;simp only[q1q,hu,TV.toA,TL.toA,PD.toD,leafD,h7,h0,if_true,List.getElem?_map,hx,mS,q6y hS,List.length_map,hS.len]
  .cases h
 .rename_i m e o b hu;split at h
  .rename_i sz hsz;split at h;·rename_i hb;refine⟨⟨_,?_,h⟩,by simp⟩;simp only[q1q,hu,TV.toA,TL.toA,hsz,if_pos hb]
   .cases h
  .cases h
 .rename_i m e cs hu;split at h
  .rename_i sz hsz;split at h;·rename_i hb;refine⟨⟨_,?_,h⟩,by simp⟩;simp only[q1q,hu,TV.toA,TL.toA,hsz,if_pos hb,List.map_drop]
   .cases h
  .cases h
 grind
theorem qk5{P:Program}{t:TypeId}{cs:List (Leaf S.TC S.Ty)}{off:Nat}{p:PD S}(h:partT P t cs off=some p):qb1 P t (cs.map leafD) off=some p.toD:=by
 unfold partT at h;unfold qb1;split at h
 .rename_i n h1 h2;rw[h1,h2];split at h;·rename_i hle;cases h;simp only[List.length_map,hle,if_true,PD.toD,List.map_take,List.map_drop]
  .cases h
 .rename_i h1;rw[h1];split at h;·rename_i x hx;cases h;simp only[List.getElem?_map,hx,mS,PD.toD]
  .cases h
 grind
theorem y8n{P:Program}{t:TypeId}{a b:Leaf S.TC S.Ty}{r:Bool}(h:eqVT P t a b=some r):∃u v,leafD a=.v u/\leafD b=.v v/\eqV P t u v=some r:=by
 unfold eqVT at h;split at h;·rename_i a b hu;exact⟨_,_,rfl,rfl,by simp only[eqV,hu,h]⟩
 .rename_i k κ a κ' b hu;refine⟨_,_,rfl,rfl,?_⟩;simp only[eqV,hu];exact h
 .rename_i a b hu;refine⟨_,_,rfl,rfl,?_⟩;simp only[eqV,hu];exact h
 grind
theorem ql7{P:Program}{xs ys:List (Leaf S.TC S.Ty)}:∀{fs:List Field}{r:Bool},eqFsT P xs ys fs=some r->eqFs P (xs.map leafD) (ys.map leafD) fs=some r
 |[],r,h=>h|f::fs,r,h=>by
  unfold eqFsT at h;split at h;·cases h
  .rename_i hn;split at h
   .rename_i a b ha hb;split at h;·rename_i p q hp hq;cases h;obtain⟨u,v,e1,e2,e3⟩:=y8n hp;have ih:=ql7 hq;unfold eqFs;rw[if_neg hn,qk5 ha,qk5 hb];simp only[PD.toD,e1,e2,e3,ih]
    .cases h
   grind
theorem y08{P:Program}{op:BinOp}{t:TypeId}{xs ys:List (Leaf S.TC S.Ty)}{r:Bool}(h:y5b P op t xs ys=some r):eqAgg P op t (xs.map leafD) (ys.map leafD)=some r:=by
 unfold y5b at h;unfold eqAgg;split at h
 .rename_i fs hu;rw[hu];simp only;split at h
  .rename_i hc;rw[if_pos hc];split at h;·rw[ql7 h]
   .split at h;·rename_i b hb;cases h;rw[ql7 hb]
    .cases h
   .cases h
  .cases h
 grind
theorem qsb{s:TSt T.S}:∀{l:List Operand}{ps:List (Nat×Nat)},capsT T s l=some ps->qa5 T.E s.toS l=some ps
 |[],ps,h=>by simp only[capsT,sI]at h;subst h;rfl|x::r,ps,h=>by
  simp only[capsT]at h;split at h;·rename_i o a ps' h1 h2;cases h;simp only[qa5,q3d h1 (by simp),TV.toA,TL.toA,qsb h2]
  grind
end Go.Ab

namespace Go.Ab
variable {S : Sig} {β : Type} {T : TEn} {P : Program}
theorem qij{s:TSt S}{cs:List (Option S.TC)}{z:Value}{xs:List (TL S)}(h:qck cs z=some xs):(some (.ptr s.toS.heap.length 0,{s.toS with heap:=s.toS.heap++[(q15 z).cells]}):Option (AV×St))=some ((TV.fl (.ptr s.heap.length 0):TV S).toA,TSt.toS {s with heap:=s.heap++[xs]}):=by rw[qmd h];simp[TSt.toS,heapA,TV.toA,TL.toA]
theorem qw0(hS:T.S.Ok T.E.P){fl:Flag}{q:Bool}{ty:TypeId}{op:Op}{s s1:TSt T.S}{v:TV T.S}(h:qu2 T fl q ty op s=some (v,s1)):q0b T.E fl q op s.toS=some (v.toA,s1.toS):=by
 unfold qu2 at h;split at h;·exact qcy h
 .rename_i x hx;split at h;·rename_i w hw;cases h;obtain⟨rfl,hm,hne⟩:=qk0 hw;cases x with|tmp t=>exact absurd rfl (hx t)|_=>simp only[q0b];rw[q64 hne,hm];rfl
  .cases h
 .split at h;·rename_i w hw;cases h;obtain⟨rfl,hm,hne⟩:=qk0 hw;simp only[q0b];rw[q64 hne,hm];rfl
  .cases h
 .rename_i e;split at h
  .rename_i z hz;split at h;·rename_i cs hcs;cases h;simp only[q0b,hz,mS];exact qij hcs
   .cases h
  .cases h
 .rename_i e x;split at h
  .rename_i w n hw hn;obtain⟨rfl,hm,hne⟩:=qba hw;obtain⟨h1,h2⟩:=qqj _ hw;split at h
   .rename_i hc;cases h;have h3:(evT T s e x).toA.cells.length=n:=by rw[h2];exact hc
    simp only[q0b,q64 hne,hm,hn];rw[if_pos h3,h1];simp[TSt.toS,heapA,TV.toA,TL.toA]
   .cases h
  .cases h
 .rename_i t parts;split at h
  .rename_i z ps hz hps;obtain⟨h1,h2⟩:=qn7 hps;split at h
   .rename_i hpl;split at h
    .rename_i cs0 hcs0;split at h
     .rename_i cs hcs;split at h;·rename_i w hw;cases h;have h3:=qt0 h1 hcs;rw[<-qdm hcs0]at h3;simp only[q0b,hz,h2,hpl,if_true,h3,mS,qqw hw]
      .cases h
     .cases h
    .cases h
   .cases h
  .cases h
 .rename_i t n parts;split at h
  .rename_i c e hc he;split at h
   .rename_i ps hps;split at h
    .rename_i xs hxs;split at h;·rename_i hcond;cases h;simp only[q0b,he,qif hps,qqx hS hxs,List.length_map,q38 hS hc he,hcond,and_self,if_true,TV.toA,TL.toA]
     .cases h
    .cases h
   .cases h
  .cases h
 .rename_i x;split at h;·rename_i hv;cases h;simp only[q0b,q3d hv (by simp)];rfl
  .rename_i hv;cases h;simp only[q0b,q3d hv (by simp)];rfl
  .rename_i hv;split at h;·rename_i ho;cases h;have ho':=ho;rw[<-qfq,<-q1p]at ho';simp only[q0b,q3d hv (by simp),TV.toA,TL.toA,ho',if_true]
   .cases h
  .rename_i hv;cases h;simp only[q0b,q3d hv (by simp)];rfl
  .cases h
 .rename_i o t x;split at h
  .rename_i a ha;split at h;·rename_i r hr;cases h;obtain⟨u,w,h1,h2,h3⟩:=y78 hr;simp only[q0b,q0s ha,PD.toD,h1,h2,mS,TV.toA,TL.toA,h3]
   .cases h
  .cases h
 .rename_i src dst x;split at h;·rename_i h1 h2 h3;cases h;simp only[q0b,h1,h2,q0s h3,PD.toD,leafD,TV.toA,TL.toA]
  .rename_i h1 h2 h3;cases h;simp only[q0b,h1,h2,q0s h3,PD.toD,leafD,TV.toA,TL.toA]
  .cases h
 .rename_i t x i;split at h
  .rename_i off u hf;split at h
   .rename_i m hm;split at h;·rename_i hv;cases h;simp only[q0b,hf,hm,q3d hv (by simp),TV.toA,TL.toA]
    .rename_i hv;cases h;simp only[q0b,hf,hm,q3d hv (by simp),TV.toA,TL.toA,List.map_drop]
    .rename_i hv;split at h;·rename_i ho;cases h;have ho':=ho;rw[<-qfq,<-q1p]at ho';simp only[q0b,hf,hm,q3d hv (by simp),TV.toA,TL.toA,ho',if_true]
     .cases h
    .cases h
   .cases h
  .cases h
 .rename_i t x i;split at h
  .rename_i cs off u hp hf;split at h;·rename_i y hy;cases h;simp only[q0b,q0s hp,hf,PD.toD,qk5 hy,mS,TV.toA,TL.toA]
   .cases h
  .cases h
 .rename_i t i;split at h
  .rename_i vs hv;have h1:get s.toS.env t=.tup (vs.map TL.toA):=by rw[show s.toS.env=envA s.env from rfl,q30,hv];rfl
   split at h;·rename_i x hx;cases h;simp only[q0b,h1,List.getElem?_map,hx,mS,TL.toA,TV.toA]
   .rename_i o a hx;cases h;simp only[q0b,h1,List.getElem?_map,hx,mS,TL.toA,TV.toA]
   .cases h
  .cases h
 .rename_i f first caps;split at h
  .rename_i h0;split at h;·rename_i ps hps;cases h;simp only[q0b,h0,if_true,qsb hps,mS,TV.toA,TL.toA]
   .cases h
  .cases h
 .rename_i args argTypes;split at h
  .rename_i x t h1 h2;split at h;·rename_i n hn;cases h;obtain⟨h3,h4⟩:=y8w hn;simp only[q0b,q33,h1,h2,q64 h4,h3,mS];rfl
   .cases h
  .cases h
 .rename_i args argTypes;split at h
  .rename_i x y h1;split at h;·rename_i κ a κ' b h2 h3;cases h;simp only[q0b,q33,h1,q0s h2,q0s h3,PD.toD,leafD,TV.toA,TL.toA]
   .cases h
  .cases h
 .rename_i args argTypes;split at h
  .rename_i x y h1;split at h;·rename_i κ a κ' b h2 h3;cases h;simp only[q0b,q33,h1,q0s h2,q0s h3,PD.toD,leafD,TV.toA,TL.toA]
   .cases h
  .cases h
 grind
theorem qpt(c:S.TC)(n:Nat)(x:S.Ty c):(List.replicate n x).map (S.enc c)=List.replicate n (S.enc c x):=by simp
theorem qzw(hS:T.S.Ok T.E.P){fl:Flag}{q:Bool}{ty:TypeId}{op:Op}{s:TSt T.S}{k:TV T.S->TSt T.S->Option β}{r:β}(h:stepT T fl q ty op s k=some r):Does (q0b T.E fl q op s.toS) k r:=by
 unfold stepT at h;split at h
 .rename_i t a;have hne:evT T s 0 a≠.fl .undef:=by intro e;rw[e]at h;unfold loadT at h;split at h<;>cases h
  simp only[q0b];rw[q64 hne];exact qzs hS h
 .rename_i c a b;split at h
  .rename_i t hc;split at h
   .split at h;·rename_i x hx;refine⟨_,_,?_,h⟩;simp only[q0b,q3d hc (by simp),TV.toA,TL.toA,PD.toD,leafD,if_true,q0s hx,mS]
    .cases h
   .split at h;·rename_i x hx;refine⟨_,_,?_,h⟩;simp only[q0b,q3d hc (by simp),TV.toA,TL.toA,PD.toD,leafD,fT,if_false,q0s hx,mS]
    .cases h
  grind
 .rename_i op t x y t';split at h;·rename_i a b ha hb;obtain⟨u,v,z,h1,h2,w,h3,h4,h5⟩:=y15 h;refine⟨_,_,?_,h5⟩;simp only[q0b,q0s ha,q0s hb,PD.toD,h1,h2,h3,mS,TV.toA,TL.toA,h4]
  .rename_i xs ys ha hb;split at h;·rename_i r hr;refine⟨_,_,?_,h⟩;simp only[q0b,q0s ha,q0s hb,PD.toD,y08 hr,mS,TV.toA,TL.toA,leafD]
   .cases h
  grind
 .rename_i t x lo hi mx;obtain⟨v,h1,h2⟩:=qvx hS h;refine⟨_,_,?_,h2⟩;simp only[q0b,h1,mS]
 .rename_i t x i;split at h;·rename_i n hn;obtain⟨⟨w,h1,h2⟩,h3⟩:=qj5 hS h;refine⟨_,_,?_,h2⟩;simp only[q0b,y9s hn,q64 h3,h1,mS]
  grind
 .rename_i t x i;split at h;·rename_i n l hu hn hp;obtain⟨h0,b,hb,hk⟩:=qin h;refine⟨_,_,?_,hk⟩;simp only[q0b,y9s hn,q0s hp,PD.toD,leafD,qo2,hu,h0,if_true,hb,mS,TV.toA,TL.toA]
  grind
 .rename_i t l c;split at h
  .rename_i cd e n m he hte hl hc;split at h
   .rename_i z b hz hb;split at h
    .rename_i x hx;split at h
     .rename_i hb2;obtain⟨hp,hk⟩:=q6k h;refine⟨_,_,?_,hk⟩;have h1:((q4c T.E.P e).bind fun z=>q4h (q15 z))=some (T.S.enc cd x):=by cases hz0:q4c T.E.P e with|none=>rw[hz0]at hz;cases hz|some z0=>rw[hz0]at hz;simp only[bS]at hz⊢;rw[qe6 (by intro hh;rw[hh]at hz;cases hz),qdx hz,qpk hS hx]
      have h2:=q38 hS he hte [x];simp only[List.map_cons,List.map_nil]at h2;simp only[q0b,hte,q0s hl,q0s hc,PD.toD,leafD,h1,hb];rw[if_pos ⟨hp.1,hp.2.1,hp.2.2,hb2,h2⟩];simp only[TV.toA,TL.toA,qpt]
     .cases h
    .cases h
   .cases h
  grind
 .rename_i args argTypes;split at h
  .rename_i x y t u h1 h2;split at h;·rename_i htu;subst htu;obtain⟨v,s1,h3,h4⟩:=qsu hS h;refine⟨v,s1,?_,h4⟩;simp only[q0b,q33,h1,h2,if_true,h3]
   .cases h
  grind
 .rename_i args argTypes;split at h
  .rename_i x y t u h1 h2;split at h;·cases h
   .rename_i hq;obtain⟨v,s1,h3,h4⟩:=y1n hS h;refine⟨v,s1,?_,h4⟩;simp only[q0b,q33,h1,h2,if_neg hq,h3]
  grind
 .split at h;·rename_i v s1 hp;exact⟨v,s1,qw0 hS hp,h⟩
  grind
end Go.Ab

namespace Go.Ab
variable {S : Sig} {β : Type} {T : TEn} {P : Program}
def Le{α:Type}(a b:Option α):Prop:=∀r,a=some r->b=some r
theorem Le.to{α:Type}{a b:Option α}{r:α}(h:Le a b)(ha:a=some r):b=some r:=h r ha
theorem qj0(v:TL S):q0m v.toA=ptrsT v:=by cases v<;>rfl
theorem qh8(v:TV S):q44 v.toA=qkw v:=by
 have key:∀vs:List (TL S),(vs.map TL.toA).flatMap q0m=vs.flatMap ptrsT:=by intro vs;induction vs with|nil=>rfl|cons v r ih=>simp only[List.map_cons,List.flatMap_cons,qj0,ih]
 cases v with
 |fl x=>cases x with|loc p=>cases p<;>rfl|elt p i off=>cases p<;>rfl|seg p i off=>cases p<;>rfl|_=>rfl
 |agg cs=>exact key cs|tup cs=>exact key cs
theorem qjc(m:Nat)(e:TEnv S):dropE m (envA e)=envA (dropT m e):=by induction e with|nil=>rfl|cons p r ih=>
  obtain⟨k,u⟩:=p;simp only[envA,List.map_cons,dropE,dropT,qh8]at ih⊢;split;·simp_all
  .rw[ih];exact q5d _ _
theorem q5j(m:Nat)(h:THeap S):q32 m (heapA h)=q6v m h:=by simp only[q32,q6v,heapA,<-List.map_take,List.all_map,Function.comp_def,qj0]
theorem qob(m:Nat)(s:TSt S):trim m s.toS=(trimT m s).toS:=by
 simp only[trim,trimT,show s.toS.heap=heapA s.heap from rfl,q5j];split;·simp only[TSt.toS,qjc];simp only[heapA,List.map_take]
 rfl
theorem ql1(vs:List (TL S)):(vs.map TL.toA).flatMap q0m=vs.flatMap ptrsT:=by induction vs with|nil=>rfl|cons v r ih=>simp only[List.map_cons,List.flatMap_cons,qj0,ih]
theorem yd6(ρ:Nat->Nat)(v:TL S):renAV ρ v.toA=(renT ρ v).toA:=by cases v<;>rfl
theorem qfj(ρ:Nat->Nat)(vs:List (TL S)):(vs.map TL.toA).map (renAV ρ)=(vs.map (renT ρ)).map TL.toA:=by simp only[List.map_map];congr 1;funext v;exact yd6 ρ v
theorem qip(ρ:Nat->Nat)(h:THeap S):(heapA h).map (fun cs=>cs.map (renAV ρ))=heapA (h.map fun cs=>cs.map (renT ρ)):=by simp only[heapA,List.map_map];congr 1;funext cs;exact qfj ρ cs
theorem quu(ρ:Nat->Nat)(v:TV S):qvf ρ v.toA=(qyh ρ v).toA:=by cases v with|fl x=>cases x<;>rfl|agg cs=>exact congrArg AV.agg (qfj ρ cs)|tup cs=>exact congrArg AV.tup (qfj ρ cs)
theorem y0w(ρ:Nat->Nat)(e:TEnv S):qkk ρ (envA e)=envA (qua ρ e):=by simp only[qkk,qua,envA,List.map_map];congr 1;funext p;simp only[Function.comp_def,quu]
theorem qti(s:TSt S)(o:Nat):q9m s.toS o=qog s o:=by simp only[q9m,qog,TSt.toS,envA,heapA,List.all_map,Function.comp_def,qh8,qj0]
theorem qnk(h:THeap S)(o:Nat):(heapA h).getD o []=(h.getD o []).map TL.toA:=by simp only[List.getD_eq_getElem?_getD,heapA,List.getElem?_map];cases h[o]?<;>rfl
theorem qo6(o' o0:Nat)(s:TSt S):qg0 o' o0 s.toS=(qge o' o0 s).toS:=by simp only[qg0,qge,TSt.toS,qfw,y0w,qnk];congr 1;rw[<-qip];congr 1;simp only[heapA,List.map_take,List.map_set]
theorem y30(o:Nat)(v:TV S):ptrTo o v.toA=y3s o v:=by cases v with|fl x=>cases x<;>rfl|_=>rfl
theorem qhb(k:Nat)(s:TSt S):∀m,qcn k s.toS m=qbj k s m|0=>rfl|m+1=>by simp only[qcn,qbj,qti,qhb k s m,show s.toS.heap=heapA s.heap from rfl,qnk,List.length_map];simp only[heapA,List.length_map]
theorem qms(k m:Nat):∀(n:Nat)(s:TSt S),regain k m n s.toS=(qpg k m n s).toS
 |0,_=>rfl|n+1,s=>by
  have e1:s.toS.heap.length=s.heap.length:=by simp[TSt.toS,heapA]
  have e2:(s.toS.env.any fun p=>ptrTo (s.heap.length-1) p.2)=s.env.any fun p=>y3s (s.heap.length-1) p.2:=by simp only[TSt.toS,envA,List.any_map,Function.comp_def,y30]
  simp only[regain,qpg,e1,e2,qhb,qo6];split;·cases qbj k s m with|none=>rfl|some o0=>exact qms k m n _
  rfl
theorem qrc(k m:Nat)(s:TSt S):endRound k m s.toS=(qlg k m s).toS:=by simp only[endRound,qlg,qms,qob]
theorem qje(h:THeap S):∀(l:List Nat),q4d (heapA h) l=(qfb h l).map heapA|[]=>rfl|o::r=>by simp only[q4d,qfb,qj1,qje h r];cases h[o]? with|none=>rfl|some cs=>cases qfb h r with|none=>rfl|some hs=>rfl
theorem qfr:∀(os:List Nat)(h hb:THeap S),q2g (heapA h) os (heapA hb)=heapA (qcg h os hb)|[],h,hb=>by cases hb<;>rfl|o::os,h,[]=>rfl|o::os,h,cs::r=>by have:=qfr os (h.set o cs) r;simp only[qcg,<-this];simp only[heapA,List.map_cons,q2g,List.map_set]
theorem y13(s:TSt S)(objs:List Nat)(h':THeap S):q4a s.toS objs (heapA h')=(qvh s objs h').toS:=by
 have hl:s.toS.heap.length=s.heap.length:=by simp[TSt.toS,heapA]
 simp only[q4a,qvh,TSt.toS,qht,St.mk.injEq,true_and];rw[show(heapA s.heap).length=s.heap.length by simp[heapA],qip,qfr];rw[show(heapA h').drop objs.length=heapA (h'.drop objs.length)by simp[heapA,List.map_drop],qip];simp[heapA]
theorem qv0(vs:List (TL S)):q11 (vs.map TL.toA)=(qix vs).toA:=by match vs with|[]=>rfl|[v]=>rfl|v::w::r=>rfl
theorem y41(ρ:Nat->Nat)(v:TV S):qab ρ v.toA=(y4g ρ v).toA:=by cases v with|fl x=>cases x<;>rfl|tup us=>exact congrArg AV.tup (qfj ρ us)|agg us=>rfl
theorem y39(keep:Bool)(k:Nat)(v:TV S)(h:THeap S):q7t keep k (v.toA,heapA h)=((qnn keep k v h).1.toA,heapA (qnn keep k v h).2):=by
 have same:∀v:TV S,(∀o,v≠.fl (.ref o))->(∀o p,v≠.tup [.ref o,.ref p])->q7t keep k (v.toA,heapA h)=(v.toA,heapA h):=by intro v hv hv2;cases v with
  |fl x=>cases x<;>first|rfl|exact absurd rfl (hv _)
  |tup vs=>match vs with
   |[]=>rfl|[x]=>cases x<;>rfl|[x,y]=>cases x<;>cases y<;>first|rfl|exact absurd rfl (hv2 _ _)
   |x::y::z::r=>cases x<;>cases y<;>rfl
  |_=>rfl
 unfold qnn;split
 .rename_i o;have e:q7t keep k ((TV.fl (TL.ref o):TV S).toA,heapA h)=if decide (o=k)&&q6v k h then match(heapA h).drop k with|[[.own xs false]]=>(if keep then AV.own xs false else .d (.list xs),(heapA h).take k)|_=>((TV.fl (TL.ref o):TV S).toA,heapA h)else((TV.fl (TL.ref o):TV S).toA,heapA h):=by rw[<-q5j];rfl
  rw[e];split
  .have hd:(heapA h).drop k=heapA (h.drop k):=by simp[heapA,List.map_drop]
   have ht:(heapA h).take k=heapA (h.take k):=by simp[heapA,List.map_take]
   rw[hd,ht];generalize h.drop k=r;rcases r with _|⟨cs,r⟩;·rfl
   .rcases r with _|⟨cs2,r⟩
    .rcases cs with _|⟨x,cs⟩;·rfl
     .rcases cs with _|⟨y,cs⟩;·cases x with|own c ys l=>cases l<;>cases keep<;>rfl|_=>rfl
      .cases x with|own c ys l=>cases l<;>rfl|_=>rfl
    .rcases cs with _|⟨x,cs⟩;·rfl
     .rcases cs with _|⟨y,cs⟩;·cases x with|own c ys l=>cases l<;>rfl|_=>rfl
      .cases x with|own c ys l=>cases l<;>rfl|_=>rfl
  .rfl
 .rename_i o p;have e:q7t keep k ((TV.tup [TL.ref o,TL.ref p]:TV S).toA,heapA h)=if decide (o=k)&&q6v k h then match(heapA h).drop k with|[[.own xs false]]=>(if keep then AV.agg [.own xs false]else .d (.agg [.list xs]),(heapA h).take k)|_=>(AV.undef,heapA h)else(AV.undef,heapA h):=by rw[<-q5j];rfl
  rw[e];split
  .have hd:(heapA h).drop k=heapA (h.drop k):=by simp[heapA,List.map_drop]
   have ht:(heapA h).take k=heapA (h.take k):=by simp[heapA,List.map_take]
   rw[hd,ht];generalize h.drop k=r;rcases r with _|⟨cs,r⟩;·rfl
   .rcases r with _|⟨cs2,r⟩
    .rcases cs with _|⟨x,cs⟩;·rfl
     .rcases cs with _|⟨y,cs⟩;·cases x with|own c ys l=>cases l<;>cases keep<;>rfl|_=>rfl
      .cases x with|own c ys l=>cases l<;>rfl|_=>rfl
    .rcases cs with _|⟨x,cs⟩;·rfl
     .rcases cs with _|⟨y,cs⟩;·cases x with|own c ys l=>cases l<;>rfl|_=>rfl
      .cases x with|own c ys l=>cases l<;>rfl|_=>rfl
  .rfl
 simp_all
theorem quc{α:Type}{p:Prop} [Decidable p]{x y:α}(h:(if p then some x else none)=some y):p/\x=y:=by simp_all
theorem qsv{α:Type}{p:Prop} [Decidable p]{x:Option α}{y:α}(h:(if p then x else none)=some y):p/\x=some y:=by simp_all
theorem y8f:∀{k:LK S.TC}{x:Leaf S.TC S.Ty}{y:k.Ty S},k.of x=some y->k.mk y=x|.i κ,.i κ' n,y,h=>by have h':(if κ'=κ then some n else(none:Option Int))=some (y:Int):=h;obtain⟨rfl,rfl⟩:=quc h';rfl|.b,.b x,y,h=>by have h':some x=some (y:Bool):=h;cases h';rfl|.s,.s x,y,h=>by have h':some x=some (y:List UInt8):=h;cases h';rfl|.l c,x,y,h=>by have h':qbe c x=some (y:List (S.Ty c)):=h;exact(q74 h').symm|.i _,.b _,_,h|.i _,.s _,_,h|.i _,.l ..,_,h|.i _,.o _,_,h|.b,.i ..,_,h|.b,.s _,_,h|.b,.l ..,_,h|.b,.o _,_,h|.s,.i ..,_,h|.s,.b _,_,h|.s,.l ..,_,h|.s,.o _,_,h=>by cases h
theorem yep(hS:S.Ok P){c:S.TC}{y:PD S}{z:S.Ty c}(h:ofPD c y=some z):(TL.d (packT (S.agg c) (S.cells c z)):TL S).toA=(TL.d y).toA:=by show AV.d (packT (S.agg c) (S.cells c z)).toD=AV.d y.toD;rw[<-hS.enc_eq,qpk hS h]
theorem y9g(hS:S.Ok P){c:S.TC}{x y:S.Ty c}(h:(TL.d (packT (S.agg c) (S.cells c x)):TL S).toA=(TL.d (packT (S.agg c) (S.cells c y))).toA):x=y:=by have h':AV.d (packT (S.agg c) (S.cells c x)).toD=AV.d (packT (S.agg c) (S.cells c y)).toD:=h;injection h' with h';rw[<-hS.enc_eq,<-hS.enc_eq]at h';exact hS.inj c _ _ h'
theorem of_mk(hS:S.Ok P):∀{a:OT S}{v:TL S}{x:a.Ty},a.of v=some x->(a.mk x).toA=v.toA
 |.lf k,.d (.lf y),x,h=>by have h':k.of y=some (x:k.Ty S):=h;show(TL.d (.lf (k.mk x))).toA=_;rw[y8f h']|.own c l,.own c' xs l',x,h=>by have h':(if l'=l then qbe c (.l c' xs)else none)=some (x:List (S.Ty c)):=h;obtain⟨rfl,h2⟩:=qsv h';cases q74 h2;rfl|.ag c,.d y,x,h=>yep hS (z:=x) h|.ptr o off,.ptr o' off',x,h=>by have h':(if o'=o/\off'=off then some ()else none)=some (x:Unit):=h;obtain⟨⟨rfl,rfl⟩,_⟩:=quc h';rfl|.fn f cs,.fn f' cs',x,h=>by have h':(if f'=f/\cs'=cs then some ()else none)=some (x:Unit):=h;obtain⟨⟨rfl,rfl⟩,_⟩:=quc h';rfl|.ref o,.ref o',x,h=>by
  have h':(if o'=o then some ()else none)=some (x:Unit):=h;split at h';·rename_i e;subst e;rfl
  simp_all|.undef,.undef,x,h=>rfl|.undef,.ref _,_,h|.undef,.skipped,_,h|.undef,.d _,_,h|.undef,.own ..,_,h|.undef,.loc _,_,h|.undef,.elt ..,_,h|.undef,.seg ..,_,h|.undef,.ptr ..,_,h|.undef,.view _,_,h|.undef,.fn ..,_,h=>by cases h|.ref _,.undef,_,h|.ref _,.skipped,_,h|.ref _,.d _,_,h|.ref _,.own ..,_,h|.ref _,.loc _,_,h|.ref _,.elt ..,_,h|.ref _,.seg ..,_,h|.ref _,.ptr ..,_,h|.ref _,.view _,_,h|.ref _,.fn ..,_,h=>by cases h|.lf _,.ref _,_,h|.own ..,.ref _,_,h|.ag _,.ref _,_,h|.ptr ..,.ref _,_,h|.fn ..,.ref _,_,h=>by cases h|.lf _,.undef,_,h|.lf _,.skipped,_,h|.lf _,.d (.ag _),_,h|.lf _,.own ..,_,h|.lf _,.loc _,_,h|.lf _,.elt ..,_,h|.lf _,.seg ..,_,h|.lf _,.ptr ..,_,h|.lf _,.view _,_,h|.lf _,.fn ..,_,h=>by cases h|.own ..,.undef,_,h|.own ..,.skipped,_,h|.own ..,.d _,_,h|.own ..,.loc _,_,h|.own ..,.elt ..,_,h|.own ..,.seg ..,_,h|.own ..,.ptr ..,_,h|.own ..,.view _,_,h|.own ..,.fn ..,_,h=>by cases h|.ag _,.undef,_,h|.ag _,.skipped,_,h|.ag _,.own ..,_,h|.ag _,.loc _,_,h|.ag _,.elt ..,_,h|.ag _,.seg ..,_,h|.ag _,.ptr ..,_,h|.ag _,.view _,_,h|.ag _,.fn ..,_,h=>by cases h|.ptr ..,.undef,_,h|.ptr ..,.skipped,_,h|.ptr ..,.d _,_,h|.ptr ..,.own ..,_,h|.ptr ..,.loc _,_,h|.ptr ..,.elt ..,_,h|.ptr ..,.seg ..,_,h|.ptr ..,.view _,_,h|.ptr ..,.fn ..,_,h=>by cases h|.fn ..,.undef,_,h|.fn ..,.skipped,_,h|.fn ..,.d _,_,h|.fn ..,.own ..,_,h|.fn ..,.loc _,_,h|.fn ..,.elt ..,_,h|.fn ..,.seg ..,_,h|.fn ..,.ptr ..,_,h|.fn ..,.view _,_,h=>by cases h
theorem qmz(hS:S.Ok P):∀{l:List (OT S)}{vs:List (TL S)}{x:Prods l},qf4 l vs=some x->(vals l x).map TL.toA=vs.map TL.toA|[],[],_,_=>rfl|[],_::_,x,h=>by have h':(none:Option (Prods ([]:List (OT S))))=some x:=h;grind|[a],[v],x,h=>by have h':a.of v=some (x:a.Ty):=h;show [(a.mk x).toA]=[v.toA];rw[of_mk hS h']|[a],[],x,h=>by have h':(none:Option (Prods [a]))=some x:=h;grind|[a],_::_::_,x,h=>by have h':(none:Option (Prods [a]))=some x:=h;grind|a::b::r,[],x,h=>by have h':(none:Option (Prods (a::b::r)))=some x:=h;grind|a::b::r,v::w,x,h=>by have h':(match a.of v,qf4 (b::r) w with|some x,some xs=>some (x,xs)|_,_=>(none:Option (a.Ty×Prods (b::r))))=some (x:a.Ty×Prods (b::r)):=h;cases h1:a.of v with|none=>simp_all|some y=>cases h2:qf4 (b::r) w with|none=>simp_all|some ys=>rw[h1,h2]at h';cases h';show(a.mk y).toA::(vals (b::r) ys).map TL.toA=_;rw[of_mk hS h1,qmz hS h2];rfl
theorem qds:∀(l:List (OT S))(x:Prods l),(vals l x).length=l.length|[],_=>rfl|[_],_=>rfl|a::b::r,x=>by simp only[vals,List.length_cons,qds (b::r) x.2]
theorem qet:∀(ns:List Nat)(l l':List (TL S)),l.map TL.toA=l'.map TL.toA->heapA (q4j ns l)=heapA (q4j ns l')
 |[],_,_,_=>rfl|n::r,l,l',h=>by
  simp only[q4j,heapA,List.map_cons]at*;have h1:(l.take n).map TL.toA=(l'.take n).map TL.toA:=by simp only[List.map_take,h]
  have h2:(l.drop n).map TL.toA=(l'.drop n).map TL.toA:=by simp only[List.map_drop,h]
  rw[h1];have:=qet r _ _ h2;simp only[heapA]at this;grind
theorem q87:∀(h:THeap S),q4j (h.map List.length) h.flatten=h|[]=>rfl|cs::r=>by simp only[List.map_cons,q4j,List.flatten_cons,List.take_left,List.drop_left,q87 r]
theorem q8d:∀(ns:List Nat)(l:List (TL S)),(q4j ns l).flatten=l.take ns.sum|[],l=>by rfl|n::r,l=>by simp only[q4j,List.flatten_cons,q8d r,List.sum_cons,List.take_add]
theorem qod(hS:S.Ok P){o:OSpec S}{vs:List (TL S)}{hp:THeap S}{x:o.Out}(hv:vs.length=o.res.length)(hl:hp.map List.length=o.heap.map List.length)(h:qf4 o.all (vs++hp.flatten)=some x):q11 ((resOf o x).map TL.toA)=q11 (vs.map TL.toA)/\heapA (q2v o x)=heapA hp:=by
 have h1:=qmz hS h;constructor;·congr 1;simp only[resOf,List.map_take,h1,<-hv];simp
 .simp only[q2v];rw[<-hl];rw[qet (hp.map List.length) ((vals o.all x).drop o.res.length) hp.flatten (by simp_all),q87]
theorem yg5(hS:S.Ok P):∀{k:LK S.TC}{x y:k.Ty S},leafD (k.mk x)=leafD (k.mk y)->x=y|.i κ,x,y,h=>by have h':D.v (.int κ (x:Int))=D.v (.int κ (y:Int)):=h;grind|.b,x,y,h=>by have h':D.v (.bool (x:Bool))=D.v (.bool (y:Bool)):=h;grind|.s,x,y,h=>by have h':D.v (.string ⟨⟨(x:List UInt8)⟩⟩)=D.v (.string ⟨⟨(y:List UInt8)⟩⟩):=h;grind|.l c,x,y,h=>by have h':D.list ((x:List (S.Ty c)).map (S.enc c))=D.list ((y:List (S.Ty c)).map (S.enc c)):=h;injection h' with h';exact(List.map_inj_right (fun a b hab=>hS.inj c a b hab)).1 h'
theorem ybk(hS:S.Ok P):∀{a:OT S}{x y:a.Ty},(a.mk x).toA=(a.mk y).toA->x=y|.lf k,x,y,h=>by have h':AV.d (leafD (k.mk x))=AV.d (leafD (k.mk y)):=h;injection h' with h';exact yg5 hS h'|.own c l,x,y,h=>by have h':AV.own ((x:List (S.Ty c)).map (S.enc c)) l=AV.own ((y:List (S.Ty c)).map (S.enc c)) l:=h;injection h' with h';exact(List.map_inj_right (fun a b hab=>hS.inj c a b hab)).1 h'|.ag c,x,y,h=>y9g hS (x:=x) (y:=y) h|.ptr ..,_,_,_=>rfl|.fn ..,_,_,_=>rfl|.ref _,_,_,_=>rfl|.undef,_,_,_=>rfl
theorem qzj(hS:S.Ok P):∀{l:List (OT S)}{x y:Prods l},(vals l x).map TL.toA=(vals l y).map TL.toA->x=y|[],_,_,_=>rfl|[a],x,y,h=>by simp only[vals,List.map_cons,List.map_nil,List.cons.injEq,and_true]at h;exact ybk hS h|a::b::r,x,y,h=>by simp only[vals,List.map_cons,List.cons.injEq]at h;exact Prod.ext (ybk hS h.1) (qzj hS h.2)
theorem qvl{vs ws:List AV}(hl:vs.length=ws.length)(h:q11 vs=q11 ws):vs=ws:=by match vs,ws,hl with|[],[],_=>rfl|[v],[w],_=>simp only[q11]at h;rw[h]|v::v'::r,w::w'::r',_=>simpa[q11]using h
theorem y65(hS:S.Ok P){o:OSpec S}{x y:o.Out}(h1:q11 ((resOf o x).map TL.toA)=q11 ((resOf o y).map TL.toA))(h2:heapA (q2v o x)=heapA (q2v o y)):x=y:=by
 apply qzj hS (l:=o.all);have hx:=qds o.all x;have hy:=qds o.all y;have h3:=qvl (by simp[resOf,hx,hy]) h1;have h4:((vals o.all x).drop o.res.length).map TL.toA=((vals o.all y).drop o.res.length).map TL.toA:=by
  have:=congrArg List.flatten h2;simp only[heapA,q2v]at this;have key:∀l:List (TL S),l.length=o.heap.flatten.length->((q4j (o.heap.map List.length) l).map fun cs=>cs.map TL.toA).flatten=l.map TL.toA:=by intro l hl;rw[<-List.map_flatten,q8d,List.take_of_length_le (by rw[hl,List.length_flatten];exact Nat.le_refl _)]
  rw[key _ (by rw[List.length_drop,hx];simp[OSpec.all]),key _ (by rw[List.length_drop,hy];simp[OSpec.all])]at this;omega
 rw[<-List.take_append_drop o.res.length (vals o.all x),<-List.take_append_drop o.res.length (vals o.all y),List.map_append,List.map_append,h4];simp only[resOf]at h3;rw[h3]
theorem qjh{f:FuncId}{vs:List (TL T.S)}{hs:THeap T.S}{o:OSpec T.S}{x:o.Out}(h:callC T f vs hs o=some x):CSem T f vs hs o x:=by
 unfold callC at h;split at h;·rename_i hx;cases h;exact hx.choose_spec
 grind
theorem qiq(hS:T.S.Ok T.E.P){f:FuncId}{vs:List (TL T.S)}{hs:THeap T.S}{o:OSpec T.S}{x:o.Out}(h:CSem T f vs hs o x):callC T f vs hs o=some x:=by unfold callC;have hx:∃x,CSem T f vs hs o x:=⟨x,h⟩;rw[dif_pos hx];congr 1;obtain⟨m,h1⟩:=hx.choose_spec;obtain⟨m',h2⟩:=h;have h3:=y48 h1 (Nat.le_max_left m m');have h4:=y48 h2 (Nat.le_max_right m m');rw[h3]at h4;simp only[sI,pI]at h4;exact y65 hS h4.1 h4.2
theorem y6f{E:Env0}{f:FuncId}{n m k:Nat}{c:Code}{s:St}{q q':Ex×St}(h:exec E f k n c s=some q)(h':exec E f k m c s=some q'):q=q':=by have h1:=qjx h (Nat.le_max_left n m);have h2:=qjx h' (Nat.le_max_right n m);simp_all
theorem q4u{E:Env0}{f:FuncId}{n m k:Nat}(hle:n<=m):∀{K:List Fr}{ex:Ex}{s:St}{q:Ex×St},unw E f k n K ex s=some q->unw E f k m K ex s=some q
 |[],ex,s,q,h=>h|.seq b::K,ex,s,q,h=>by cases ex with
  |normal=>
   simp only[unw]at h⊢;split at h;·rename_i e1 s1 h1;rw[qjx h1 hle];exact q4u hle h
   grind|_=>simp only[unw]at h⊢;exact q4u hle h
 |.block id m::K,ex,s,q,h=>by cases ex with|exit i=>
   simp only[unw]at h⊢;split at h;·rename_i hi;rw[if_pos hi];exact q4u hle h
   .rename_i hi;rw[if_neg hi];exact q4u hle h|_=>simp only[unw]at h⊢;exact q4u hle h
 |.loop b m::K,ex,s,q,h=>by cases ex with
  |normal=>
   simp only[unw]at h⊢;split at h;·rename_i e1 s1 h1;rw[qjx h1 hle];exact q4u hle h
   grind|_=>simp only[unw]at h⊢;exact q4u hle h
theorem qpq{E:Env0}{f:FuncId}{k n:Nat}:∀(K:List Fr)(s:St),unw E f k n K .ret s=some (.ret,s)|[],_=>rfl|.seq _::K,s=>by simp only[unw];exact qpq K s|.block _ _::K,s=>by simp only[unw];exact qpq K s|.loop _ _::K,s=>by simp only[unw];exact qpq K s
theorem Goes.uniq{E:Env0}{F:Fx}{c:Code}{K:List Fr}{s:St}{q q':AV×Heap}(h:Goes E F c K s q)(h':Goes E F c K s q'):q=q':=by obtain⟨n,ex,s1,ex',s2,h1,h2,h3⟩:=h;obtain⟨m,fx,t1,fx',t2,g1,g2,g3⟩:=h';have:=y6f h1 g1;cases this;have u1:=q4u (Nat.le_max_left n m) h2;have u2:=q4u (Nat.le_max_right n m) g2;simp_all
theorem qo9{F:Fx}{o:OSpec T.S}{c:Code}{K:List Fr}{s:TSt T.S}{x:o.Out}(h:goC T F o c K s=some x):BSem T F o c K s x:=by
 unfold goC at h;split at h;·rename_i hx;cases h;exact hx.choose_spec
 grind
theorem yak(hS:T.S.Ok T.E.P){F:Fx}{o:OSpec T.S}{c:Code}{K:List Fr}{s:TSt T.S}{x:o.Out}(h:BSem T F o c K s x):goC T F o c K s=some x:=by unfold goC;have hx:∃x,BSem T F o c K s x:=⟨x,h⟩;rw[dif_pos hx];congr 1;have:=Goes.uniq hx.choose_spec h;simp only[pI]at this;exact y65 hS this.1 this.2
end Go.Ab

namespace Go.Ab
variable {S : Sig} {β : Type} {T : TEn} {P : Program}
def Runs(A:Nat->Option St)(k:TSt S->Option β)(x:β):Prop:=∃n s1,A n=some (TSt.toS s1)/\k s1=some x
theorem qnr{r:Rule}{h:FuncId}{vs:List (TL T.S)}{dst:Option Nat}{s:TSt T.S}{k:TSt T.S->Option β}{x:β}(hh:callT T r h vs dst s k=some x):Runs (fun n=>callA T.E r n h (vs.map TL.toA) dst s.toS) k x:=by
 unfold callT at hh;split at hh;·grind
 .rename_i objs ho;split at hh
  .rename_i hm;split at hh
   .rename_i hs hhs;split at hh
    .rename_i y hy;split at hh;·cases hh
     .rename_i hd;obtain⟨m,hc⟩:=qjh hy;refine⟨m+1,_,?_,hh⟩;have hl:s.toS.heap.length=s.heap.length:=by simp[TSt.toS,heapA]
      simp only[callA,ql1,show s.toS.heap=heapA s.heap from rfl,show(heapA s.heap).length=s.heap.length by simp[heapA],ho,hm,if_true,qje,hhs,mS,qfj,qip,hc,qv0,y39];have hlen:∀q:THeap T.S,(heapA q).length=q.length:=fun q=>by simp[heapA]
      rw[hlen,if_neg hd,y41,y13,qgt]
    .cases hh
   .cases hh
  grind
theorem qwd{s:TSt T.S}{t:TypeId}{x:Operand}{v:TL T.S}(h:argT T s t x=some v):argOf T.E s.toS x=some v.toA:=by
 unfold argT at h;have key:∀{p:PD T.S},q2f T s t x=some p->argOf T.E s.toS x=some (AV.d p.toD):=by
  intro p hp;have h1:=q0s hp;simp only[argOf];split;·rename_i o a hv;cases x with|const c=>have h2:q15 c=AV.ptr o a:=hv;have h3:plainC T.E s.toS (.const c)=q4h (q15 c):=rfl;rw[h3,h2]at h1;cases h1|_=>simp only[plainC,hv,plain]at h1;cases h1
  .rename_i o a hv;cases x with|const c=>have h2:q15 c=AV.fn o a:=hv;have h3:plainC T.E s.toS (.const c)=q4h (q15 c):=rfl;rw[h3,h2]at h1;cases h1|_=>simp only[plainC,hv,plain]at h1;cases h1
  .rename_i a hv;cases x with|const c=>have h2:q15 c=AV.view a:=hv;have h3:plainC T.E s.toS (.const c)=q4h (q15 c):=rfl;rw[h3,h2]at h1;cases h1|_=>simp only[plainC,hv,plain]at h1;cases h1
  .rename_i a hv;cases x with|const c=>have h2:q15 c=AV.ref a:=hv;have h3:plainC T.E s.toS (.const c)=q4h (q15 c):=rfl;rw[h3,h2]at h1;cases h1|_=>simp only[plainC,hv,plain]at h1;cases h1
  grind
 split at h;·rename_i hv;cases h;simp only[argOf,q3d hv (by simp)];rfl
 .rename_i hv;cases h;simp only[argOf,q3d hv (by simp)];rfl
 .rename_i hv;cases h;simp only[argOf,q3d hv (by simp)];rfl
 .rename_i hv;cases h;simp only[argOf,q3d hv (by simp)];rfl
 .split at h;·rename_i p hp;cases h;exact key hp
  grind
theorem qtb{s:TSt T.S}:∀{l:List Operand}{ts:List TypeId}{vs:List (TL T.S)},argsT T s ts l=some vs->qa8 T.E s.toS l=some (vs.map TL.toA)
 |[],ts,vs,h=>by simp only[argsT,sI]at h;subst h;rfl|x::r,ts,vs,h=>by
  simp only[argsT]at h;split at h;·rename_i v vs' h1 h2;cases h;simp only[qa8,qwd h1,qtb h2,List.map_cons]
  grind
def ownL:TL S->List D|.own c xs _=>xs.map (S.enc c)|_=>[]
theorem qh9{s:TSt S}(x:Operand):Ab.shareOf s.toS x=(q7s s x).map fun p=>(p.1,ownL p.2):=by cases x with
 |tmp u=>simp only[Ab.shareOf,q7s,show s.toS.env=envA s.env from rfl,q30];generalize getT s.env u=v;cases v with
  |fl y=>cases y with
   |own c xs l=>cases l<;>rfl|loc p=>cases p with
    |slot t=>simp only[TV.toA,TL.toA];generalize getT s.env t=w;cases w with
     |fl z=>cases z with|own c xs l=>cases l<;>rfl|_=>rfl
     |_=>rfl
    |cell o off=>rfl
   |_=>rfl
  |_=>rfl
 |_=>rfl
theorem qq0{s:TSt S}{x:Operand}{u:Nat}{v:TL S}(h:q7s s x=some (u,v)):∃c xs,v=.own c xs false:=by unfold q7s at h;grind
theorem qmc{s:TSt S}(x:Operand):Ab.shareCell s.toS x=(q6o s x).map fun p=>(p.1,p.2.1,p.2.2.1,ownL p.2.2.2):=by cases x with
 |tmp u=>simp only[Ab.shareCell,q6o,show s.toS.env=envA s.env from rfl,q30,show s.toS.heap=heapA s.heap from rfl];generalize getT s.env u=v;cases v with
  |fl y=>cases y with
   |loc p=>cases p with|slot t=>rfl|cell o off=>simp only[TV.toA,TL.toA,q4t];generalize cellT s.heap o off=w;cases w with|own c xs l=>cases l<;>rfl|_=>rfl
   |_=>rfl
  |_=>rfl
 |_=>rfl
theorem qm3{s:TSt S}{x:Operand}{u o off:Nat}{v:TL S}(h:q6o s x=some (u,o,off,v)):∃c xs,v=.own c xs false:=by unfold q6o at h;grind
theorem qkn(s:TSt S)(x:Operand):Ab.cellShared s.toS x=qdj s x:=by cases x with
 |tmp u=>simp only[Ab.cellShared,qdj,show s.toS.env=envA s.env from rfl,q30];generalize getT s.env u=v;cases v with
  |fl y=>cases y with|loc p=>cases p<;>rfl|_=>rfl
  |_=>rfl
 |_=>rfl
theorem qd6(s:TSt S)(l:List Operand):q57 s.toS l=qcb s l:=by unfold q57 qcb;congr 1;funext x;rw[qh9,qkn];cases q7s s x<;>rfl
theorem qd0:∀{l:List Operand}{s s1:TSt T.S}{ts:List TypeId}{vs:List (TL T.S)}{sh:List (Nat×Nat)},q6p T s ts l=some (vs,s1,sh)->q58 T.E s.toS l=some (vs.map TL.toA,s1.toS,sh)|[],s,s1,ts,vs,sh,h=>by simp only[q6p,sI,pI]at h;obtain⟨rfl,rfl,rfl⟩:=h;rfl|x::r,s,s1,ts,vs,sh,h=>by simp only[q6p]at h;cases h1:qlo T s (ts.headD 0) x with|none=>grind|some q=>obtain⟨v,s2,l0⟩:=q;simp only[h1]at h;cases h2:q6p T s2 ts.tail r with|none=>grind|some q2=>
    obtain⟨vs',s3,l'⟩:=q2;simp only[h2,sI,pI]at h;obtain⟨rfl,rfl,rfl⟩:=h;have one:qeg T.E s.toS x=some (v.toA,s2.toS,l0):=by unfold qlo at h1;unfold qeg;rw[qh9];cases hs:q7s s x with
     |none=>rw[hs]at h1;simp only at h1;rw[qmc];cases hsc:q6o s x with|some p=>obtain⟨u,o,off,w⟩:=p;obtain⟨c,xs,rfl⟩:=qm3 hsc;rw[hsc]at h1;simp only[sI,pI]at h1;obtain⟨rfl,rfl,rfl⟩:=h1;have e1:q0z (envA s.env)=envA (killT s.env):=qfw s.env;have e2:q18 (heapA s.heap) o off .undef=heapA (qcm s.heap o off .undef):=qe1 s.heap o off .undef;simp only[Option.map_none,mS,ownL,show s.toS.env=envA s.env from rfl,show s.toS.heap=heapA s.heap from rfl,e1,e2];simp only[TSt.toS,heapA,List.length_map,List.map_append,List.map_cons,List.map_nil,TL.toA]|none=>rw[hsc]at h1;simp only at h1;cases ha:argT T s (ts.headD 0) x with|none=>grind|some w=>rw[ha]at h1;simp only[sI,pI]at h1;obtain⟨rfl,rfl,rfl⟩:=h1;simp only[Option.map_none,qwd ha]
     |some p=>obtain⟨u,w⟩:=p;obtain⟨c,xs,rfl⟩:=qq0 hs;rw[hs]at h1;simp only[sI,pI]at h1;obtain⟨rfl,rfl,rfl⟩:=h1;have e1:putE (envA s.env) u .undef=envA (putT s.env u (.fl .undef)):=qbv s.env u (.fl .undef);simp only[mS,ownL,e1,TSt.toS,heapA,List.length_map,List.map_append,List.map_cons,List.map_nil,TL.toA]
    simp only[q58,one,qd0 h2,List.map_cons]
theorem qt2(o:Nat)(v:TV S):qtn o v.toA=qxf o v:=by cases v with|fl y=>cases y<;>rfl|_=>rfl
theorem quf{dst:Option Nat}{o t:Nat}{s:TSt S}:qwp dst o t s.toS=qva dst o t s:=by cases dst with|none=>rfl|some d=>simp only[qwp,qva,show s.toS.env=envA s.env from rfl,q30,qt2]
theorem qjn{dst:Option Nat}{o t:Nat}{s s1:TSt S}(h:qdv dst o t s=some s1):q5m dst o t s.toS=some s1.toS:=by
 unfold qdv at h;split at h
 .rename_i c xs d hcs hho;split at h
  .rename_i hc;cases h;have e0:s.toS.heap[o]?=some [.own (xs.map (S.enc c)) false]:=by show(heapA s.heap)[o]?=_;simp only[heapA,List.getElem?_map,hcs,mS,List.map_cons,List.map_nil,TL.toA]
   have e1:s.toS.heap.length=o+1:=by show(heapA s.heap).length=_;simp[heapA,hc.1]
   have e2:q32 o s.toS.heap=true:=by rw[show s.toS.heap=heapA s.heap from rfl,q5j];exact hc.2
   have e3:putE (dropE o (q0z (envA s.env))) d (.own (xs.map (S.enc c)) false)=envA (putT (dropT o (killT s.env)) d (.fl (.own c xs false))):=by rw[qfw,qjc];exact qbv _ d (.fl (.own c xs false))
   simp only[q5m,e0,quf,hho,e1,e2,and_self,if_true];rw[show s.toS.env=envA s.env from rfl,e3];simp only[TSt.toS,heapA,List.map_take]
  grind
 .rename_i hcs;split at h
  .rename_i hc;cases h;have e0:s.toS.heap[o]?=some [.undef]:=by show(heapA s.heap)[o]?=_;simp only[heapA,List.getElem?_map,hcs,mS,List.map_cons,List.map_nil,TL.toA]
   have e1:s.toS.heap.length=o+1:=by show(heapA s.heap).length=_;simp[heapA,hc.1]
   have e2:q32 o s.toS.heap=true:=by rw[show s.toS.heap=heapA s.heap from rfl,q5j];exact hc.2
   have e3:dropE o (envA s.env)=envA (dropT o s.env):=by rw[qjc]
   simp only[q5m,e0,e1,e2,and_self,if_true];rw[show s.toS.env=envA s.env from rfl,e3];simp only[TSt.toS,heapA,List.map_take]
  grind
 grind
theorem qi5{dst:Option Nat}:∀{l:List (Nat×Nat)}{s s1:TSt S},qca dst l s=some s1->unshare dst l s.toS=some s1.toS|[],s,s1,h=>by simp only[qca,sI]at h;subst h;rfl|(o,t)::r,s,s1,h=>by simp only[qca]at h;cases h1:qca dst r s with|none=>grind|some s2=>simp only[h1]at h;simp only[unshare,qi5 h1,qjn h]
theorem y0f{ops:Array Oper}{s:St}{o:Oper}{j t:Nat}{want:Bool}(hg:o.guard=some (j,want))(ht:(ops[j]?).bind (·.dst)=some t):q1o ops s o=match get s.env t with|.d (.v (.bool b))=>some (b==want)|.skipped=>some false|_=>none:=by simp only[q1o,hg];grind
theorem qg7(hS:T.S.Ok T.E.P){F:Fx}{r:Rule}{ops:Array Oper}{o:Oper}{s:TSt T.S}{k:TSt T.S->Option β}{x:β}(hg:q1o ops s.toS o=some true)(h:doOpT T F r ops o s k=some x):Runs (fun n=>runOp T.E F.f r ops n o s.toS) k x:=by
 unfold doOpT at h;split at h
 .rename_i t a y ho;split at h;·rename_i hd;obtain⟨s1,h1,h2⟩:=qtt hS h;exact⟨1,s1,by simp only[runOp,hg,ho,hd,if_true,h1],h2⟩
  grind
 .rename_i g args argTypes ho;by_cases hsh:qcb s args.toList=true
  .rw[if_pos hsh]at h;by_cases hdr:r.draws=true;·grind
   .rw[if_neg hdr]at h;split at h
    .rename_i f caps vs s1' l hv hvs;obtain⟨n,s1,h1,h2⟩:=qnr h;simp only at h2;split at h2
     .rename_i s3 hu;refine⟨n+1,s3,?_,h2⟩;have hargs:=qd0 hvs;simp only[runOp,hg,ho,qd6,hsh,if_true,if_neg hdr,q3d hv (by simp),TV.toA,TL.toA,hargs];have e:(List.map TL.toA (vs++List.map (fun x=>TL.ptr x.1 x.2) caps):List AV)=List.map TL.toA vs++List.map (fun x=>AV.ptr x.1 x.2) caps:=by rw[List.map_append];congr 1;simp[List.map_map,Function.comp_def,TL.toA]
      have h1':callA T.E (q5p T.E.an F.f r o) n f (List.map TL.toA (vs++List.map (fun x=>TL.ptr x.1 x.2) caps)) o.dst s1'.toS=some s1.toS:=h1;rw[<-e,h1'];exact qi5 hu
     simp_all
    grind
  .rw[if_neg hsh]at h;split at h;·rename_i f caps vs hv hvs;obtain⟨n,s1,h1,h2⟩:=qnr h;refine⟨n+1,s1,?_,h2⟩;simp only[runOp,hg,ho,qd6,if_neg hsh,q3d hv (by simp),TV.toA,TL.toA,qtb hvs];rw[<-h1,List.map_append];congr 2;simp[List.map_map,Function.comp_def,TL.toA]
   grind
 .rename_i hns hnc;split at h
  .rename_i hr;obtain⟨v,s1,h1,h2⟩:=qzw hS h;simp only at h2;split at h2;·rename_i w hw;refine⟨1,_,?_,h2⟩;have hk:=y2s hw;simp only[runOp,hg];simp only[hr,if_true,h1,hk,quw,qgt]
   simp_all
  grind
theorem qps{s:TSt S}{t:Nat}{v:TV S}(h:getT s.env t=v):({s with env:=replT s.env t v}:TSt S)=s:=by rw[qta h]
theorem y7z(hS:T.S.Ok T.E.P){F:Fx}{r:Rule}{ops:Array Oper}{o:Oper}{s:TSt T.S}{k:TSt T.S->Option β}{x:β}(h:opT T F r ops o s k=some x):Runs (fun n=>runOp T.E F.f r ops n o s.toS) k x:=by
 unfold opT at h;split at h;·rename_i hg;exact qg7 hS (by simp only[q1o,hg]) h
 .rename_i j want hg;split at h;·cases h
  .rename_i t ht;have hgo:=y0f (s:=s.toS) hg ht;rw[show s.toS.env=envA s.env from rfl,q30]at hgo;split at h
   .rename_i b hb;rw[hb]at hgo;simp only[TV.toA,TL.toA,PD.toD,leafD]at hgo;split at h;·rw[qps hb]at h;cases want with|true=>exact qg7 hS hgo h|false=>exact⟨1,_,by simp only[runOp,hgo];exact congrArg some (qgt s o.dst (.fl .skipped)),h⟩
    .rw[qps hb]at h;cases want with|true=>exact⟨1,_,by simp only[runOp,hgo];exact congrArg some (qgt s o.dst (.fl .skipped)),h⟩|false=>exact qg7 hS hgo h
   .rename_i hb;rw[hb]at hgo;simp only[TV.toA,TL.toA]at hgo;exact⟨1,_,by simp only[runOp,hgo];exact congrArg some (qgt s o.dst (.fl .skipped)),h⟩
   grind
theorem y3i{E:Env0}{f:FuncId}{r:Rule}{ops:Array Oper}{l:List Oper}{s s1:St}{n m:Nat}(h:runOps E f r ops n l s=some s1)(hle:n<=m):runOps E f r ops m l s=some s1:=by induction hle with|refl=>exact h|step _ ih=>exact(mono _).ops _ _ _ _ _ _ ih
theorem y85{E:Env0}{f:FuncId}{r:Rule}{ops:Array Oper}{o:Oper}{s s1:St}{n m:Nat}(h:runOp E f r ops n o s=some s1)(hle:n<=m):runOp E f r ops m o s=some s1:=by induction hle with|refl=>exact h|step _ ih=>exact(mono _).op _ _ _ _ _ _ ih
theorem ql4(hS:T.S.Ok T.E.P){F:Fx}{r:Rule}{ops:Array Oper}:∀{l:List Oper}{s:TSt T.S}{k:TSt T.S->Option β}{x:β},opsT T F r ops l s k=some x->Runs (fun n=>runOps T.E F.f r ops n l s.toS) k x|[],s,k,x,h=>⟨0,s,rfl,h⟩|o::l,s,k,x,h=>by obtain⟨n,s1,h1,h2⟩:=y7z hS h;obtain⟨m,s2,h3,h4⟩:=ql4 hS h2;refine⟨max n m,s2,?_,h4⟩;simp only[q27,y85 h1 (Nat.le_max_left n m),y3i h3 (Nat.le_max_right n m)]
theorem y2h{F:Fx}{o:Oper}{s:TSt T.S}:qpz T.E F.f o s.toS=(takeT T F o s).map TSt.toS:=by
 unfold qpz takeT;split
 .rename_i t r d hop hg hd;simp only[hop,hg,hd];split;·rw[show s.toS.env=envA s.env from rfl,q30];cases tyAgg T.E.P t with|none=>rfl|some g=>cases g with|false=>rfl|true=>match q0p T.E.P t with|none=>rfl|some 0=>rfl|some (n+2)=>rfl|some 1=>cases getT s.env r with
      |fl x=>cases x with
       |ptr p off=>simp only[TV.toA,TL.toA];rw[show content s.toS (.cell p off)=(cellT s.heap p off).toA from q4t _ _ _];cases cellT s.heap p off with
        |own c xs l=>cases l with|false=>simp only[TL.toA,mS,sI];rw[<-qgt,<-qhc];rfl|true=>rfl
        |d y=>cases y<;>rfl|_=>rfl
       |d y=>cases y<;>rfl|_=>rfl
      |_=>rfl
  rfl
 simp
theorem y4p{F:Fx}{ops:Array Oper}{s:TSt T.S}:q5k T.E F.f ops s.toS=((headT T F ops s).1,(headT T F ops s).2.toS):=by unfold q5k headT;cases ops.toList with|nil=>rfl|cons o l=>simp only[y2h];cases takeT T F o s<;>rfl
theorem qwj{v:TV S}{x:TL S}(h:outT v=some x):outOf v.toA=some x.toA:=by
 unfold outT at h;split at h;·cases h;rfl
 .cases h;rfl
 .cases h;rfl
 .split at h
  .rename_i p hp;cases h;have h1:=qdx hp;unfold outOf;split;·rename_i hv;rw[hv]at h1;cases h1
   .rename_i hv;rw[hv]at h1;cases h1
   .rename_i hv;rw[hv]at h1;cases h1
   .rw[h1];rfl
  grind
theorem qvs{P:Program}{s:TSt S}{r:ResultVar}{v:TL S}(h:qv9 P s r=some v):q53 P s.toS r=some v.toA:=by unfold qv9 at h;unfold q53;cases r with|tmp t=>simp only at h⊢;rw[show s.toS.env=envA s.env from rfl,q30];exact qwj h|cell a t=>
  simp only at h⊢;rw[show s.toS.env=envA s.env from rfl,q30];split at h
  .rename_i o off hv;rw[hv];simp only[TV.toA,TL.toA];rw[show s.toS.heap=heapA s.heap from rfl,qj1];split at h
   .rename_i n cs h1 h2 h3;rw[h1,h2,h3];simp only[mS];split at h
    .rename_i hle;rw[List.length_map,if_pos hle];split at h
     .rename_i ds hds;cases h;have h4:((cs.map TL.toA).drop off).take n=((cs.drop off).take n).map TL.toA:=by simp[List.map_take,List.map_drop]
      rw[h4,q3y hds];rfl
     .cases h
    .cases h
   .rename_i cs h1 h3;rw[h1,h3];simp only[mS];split at h;·rename_i w hw;simp only[List.getElem?_map,hw,mS];exact qwj (v:=.fl w) h
    .cases h
   grind
  grind
theorem qi4{P:Program}{s:TSt S}:∀{l:List ResultVar}{vs:List (TL S)},qei P s l=some vs->q21 P s.toS l=some (vs.map TL.toA)
 |[],vs,h=>by simp only[qei,sI]at h;subst h;rfl|r::l,vs,h=>by
  simp only[qei]at h;split at h;·rename_i v vs' h1 h2;cases h;simp only[q21,qvs h1,qi4 h2,List.map_cons]
  grind
theorem qsq(h:THeap S)(k:Nat):((heapA h).take k).flatMap (fun cs=>cs.flatMap q0m)=(h.take k).flatMap fun cs=>cs.flatMap ptrsT:=by rw[heapA,<-List.map_take];generalize h.take k=l;induction l with|nil=>rfl|cons cs r ih=>simp only[List.map_cons,List.flatMap_cons,ql1,ih]
theorem qzz(h:THeap S):(heapA h).flatMap (fun cs=>cs.flatMap q0m)=h.flatMap fun cs=>cs.flatMap ptrsT:=by have:=qsq h h.length;rwa [List.take_length,show h.length=(heapA h).length by simp[heapA],List.take_length]at this
theorem y1x{s:TSt S}{k:Nat}(l:List ResultVar):l.all (q7o s.toS k)=l.all (y4v s k):=by congr 1;funext r;cases r with|tmp t=>rfl|cell a t=>simp only[q7o,y4v];rw[show s.toS.env=envA s.env from rfl,q30];cases getT s.env a with|fl x=>cases x<;>rfl|_=>rfl
theorem y12(vs:List (TL S)):qhj (q11 (vs.map TL.toA))=y2a vs:=by match vs with
 |[]=>rfl|[x]=>cases x with|d y=>cases y<;>rfl|_=>rfl
 |[x,y]=>cases x<;>cases y<;>rfl|x::y::z::r=>cases x<;>cases y<;>rfl
theorem qny(hS:S.Ok P){F:Fx}{o:OSpec S}{s:TSt S}{x:o.Out}(h:y50 P F o s=some x):leave P F.fn F.k s.toS=some (q11 ((resOf o x).map TL.toA),heapA (q2v o x)):=by
 unfold y50 at h;unfold leave;split at h;·cases h
 .rename_i vs hvs;rw[qi4 hvs];simp only[ql1,show s.toS.heap=heapA s.heap from rfl,qsq,qzz,show(heapA s.heap).length=s.heap.length by simp[heapA],y1x,y12];split at h;·cases h
  rename_i hmk;rw[if_neg hmk];split at h;·rename_i hc;rw[if_pos hc];obtain⟨⟨h1,h2,h3⟩,h4⟩:=qsv h;obtain⟨h5,h6⟩:=qod hS h2 h3 h4;rw[if_pos h1,h5,h6];simp[heapA,List.map_take]
  .rename_i hc;rw[if_neg hc];obtain⟨⟨h1,h2,h3⟩,h4⟩:=qsv h;obtain⟨h5,h6⟩:=qod hS h2 h3 h4;grind
theorem qm4(hS:S.Ok P){F:Fx}{o:OSpec S}{s:TSt S}{x:o.Out}(h:qtg P F o s=some x):qjr P F.fn F.k s.toS=some (q11 ((resOf o x).map TL.toA),heapA (q2v o x)):=by
 unfold qtg at h;split at h
 .rename_i t hres;split at h
  .rename_i c xs hg;obtain⟨⟨h1,h2,h3⟩,h4⟩:=qsv h;obtain⟨h5,h6⟩:=qod hS h2 h3 h4;have hg':get s.toS.env t=.own (xs.map (S.enc c)) false:=by rw[show s.toS.env=envA s.env from rfl,q30,hg];rfl
   unfold qjr;rw[hres];simp only[hg',show s.toS.heap=heapA s.heap from rfl,q5j,show(heapA s.heap).length=s.heap.length by simp[heapA],h1,if_true,h5,h6];simp[heapA,List.map_take,TL.toA,q11]
  grind
 .rename_i r t hres;split at h
  .rename_i p hg ht hn;split at h
   .rename_i c xs hct;obtain⟨⟨h1,h2,h3⟩,h4⟩:=qsv h;obtain⟨h5,h6⟩:=qod hS h2 h3 h4;have hg':get s.toS.env r=.ptr p 0:=by rw[show s.toS.env=envA s.env from rfl,q30,hg];rfl
    have hc':content s.toS (.cell p 0)=.own (xs.map (S.enc c)) false:=by show q0v (heapA s.heap) p 0=_;rw[q4t,hct];rfl
    unfold qjr;rw[hres];simp only[hg',ht,hn,hc',show s.toS.heap=heapA s.heap from rfl,q5j,show(heapA s.heap).length=s.heap.length by simp[heapA],h1,if_true,h5,h6];simp[heapA,List.map_take,TL.toA,q11]
   .cases h
  grind
 grind
theorem qcv(hS:S.Ok P){own:Bool}{F:Fx}{o:OSpec S}{s:TSt S}{x:o.Out}(h:qgw own P F o s=some x):qbb own P F.fn F.k s.toS=some (q11 ((resOf o x).map TL.toA),heapA (q2v o x)):=by
 unfold qgw at h;unfold qbb;split at h;·rename_i hc;rw[if_pos hc];exact qm4 hS h
 .rename_i hc;rw[if_neg hc];exact qny hS h
def KGoes(T:TEn)(F:Fx)(o:OSpec T.S)(ex:Ex)(K:List Fr)(s:St)(x:o.Out):Prop:=∃n ex' s2,unw T.E F.f F.k n K ex s=some (ex',s2)/\fin (T.E.an.own F.f) T.E.P F.fn F.k ex' s2=some (q11 ((resOf o x).map TL.toA),heapA (q2v o x))
theorem qav{F:Fx}{o:OSpec T.S}{c:Code}{K:List Fr}{s s1:St}{ex:Ex}{x:o.Out}{n:Nat}(h:exec T.E F.f F.k n c s=some (ex,s1))(hk:KGoes T F o ex K s1 x):Goes T.E F c K s (q11 ((resOf o x).map TL.toA),heapA (q2v o x)):=by obtain⟨m,ex',s2,h1,h2⟩:=hk;exact⟨max n m,ex,s1,ex',s2,qjx h (Nat.le_max_left n m),q4u (Nat.le_max_right n m) h1,h2⟩
theorem qx3{F:Fx}{o:OSpec T.S}{c:Code}{K:List Fr}{s:St}{x:o.Out}(h:Goes T.E F c K s (q11 ((resOf o x).map TL.toA),heapA (q2v o x))):∃n ex s1,exec T.E F.f F.k n c s=some (ex,s1)/\KGoes T F o ex K s1 x:=by obtain⟨n,ex,s1,ex',s2,h1,h2,h3⟩:=h;exact⟨n,ex,s1,h1,n,ex',s2,h2,h3⟩
theorem k_seq{F:Fx}{o:OSpec T.S}{b:Code}{K:List Fr}{s:St}{x:o.Out}(h:Goes T.E F b K s (q11 ((resOf o x).map TL.toA),heapA (q2v o x))):KGoes T F o .normal (.seq b::K) s x:=by obtain⟨n,ex,s1,ex',s2,h1,h2,h3⟩:=h;exact⟨n,ex',s2,by simp only[unw,h1];omega,h3⟩
theorem yip{F:Fx}{o:OSpec T.S}{b:Code}{m:Nat}{K:List Fr}{s:St}{x:o.Out}(h:Goes T.E F (.loop b) K (endRound F.k m s) (q11 ((resOf o x).map TL.toA),heapA (q2v o x))):KGoes T F o .normal (.loop b m::K) s x:=by obtain⟨n,ex,s1,ex',s2,h1,h2,h3⟩:=h;exact⟨n,ex',s2,by simp only[unw,h1];omega,h3⟩
theorem y3u(hS:T.S.Ok T.E.P){F:Fx}{o:OSpec T.S}{s:TSt T.S}{x:o.Out}(h:qgw (T.E.an.own F.f) T.E.P F o s=some x)(K:List Fr):KGoes T F o .ret K s.toS x:=⟨0,.ret,s.toS,qpq K _,qcv hS h⟩
theorem ykt{F:Fx}{o:OSpec T.S}{a b:Code}{K:List Fr}{s:St}{x:o.Out}(h:Goes T.E F a (.seq b::K) s (q11 ((resOf o x).map TL.toA),heapA (q2v o x))):Goes T.E F (.seq a b) K s (q11 ((resOf o x).map TL.toA),heapA (q2v o x)):=by obtain⟨n,ex,s1,ex',s2,h1,h2,h3⟩:=h;cases ex with
 |normal=>
  simp only[unw]at h2;split at h2;·rename_i e3 s3 h4;exact⟨n+1,e3,s3,ex',s2,by rw[qis _ _ _ _ _ _,h1];exact h4,q4u (Nat.le_succ n) h2,h3⟩
  simp_all|exit i=>simp only[unw]at h2;exact⟨n+1,_,s1,ex',s2,by rw[qis _ _ _ _ _ _,h1],q4u (Nat.le_succ n) h2,h3⟩|ret=>simp only[unw]at h2;exact⟨n+1,_,s1,ex',s2,by rw[qis _ _ _ _ _ _,h1],q4u (Nat.le_succ n) h2,h3⟩
theorem y9k{F:Fx}{o:OSpec T.S}{id:Nat}{b:Code}{K:List Fr}{s:St}{x:o.Out}(h:Goes T.E F b (.block id s.heap.length::K) s (q11 ((resOf o x).map TL.toA),heapA (q2v o x))):Goes T.E F (.block id b) K s (q11 ((resOf o x).map TL.toA),heapA (q2v o x)):=by
 obtain⟨n,ex,s1,ex',s2,h1,h2,h3⟩:=h;cases ex with|normal=>simp only[unw]at h2;exact⟨n+1,_,_,ex',s2,by rw[q8t,h1],q4u (Nat.le_succ n) h2,h3⟩|exit i=>
  simp only[unw]at h2;split at h2;·rename_i hi;exact⟨n+1,.normal,_,ex',s2,by rw[q8t,h1];grind,q4u (Nat.le_succ n) h2,h3⟩
  .rename_i hi;exact⟨n+1,.exit i,s1,ex',s2,by rw[q8t,h1];grind,q4u (Nat.le_succ n) h2,h3⟩|ret=>simp only[unw]at h2;exact⟨n+1,_,s1,ex',s2,by rw[q8t,h1],q4u (Nat.le_succ n) h2,h3⟩
theorem ydm{F:Fx}{o:OSpec T.S}{b:Code}{K:List Fr}{s:St}{x:o.Out}(h:Goes T.E F b (.loop b s.heap.length::K) s (q11 ((resOf o x).map TL.toA),heapA (q2v o x))):Goes T.E F (.loop b) K s (q11 ((resOf o x).map TL.toA),heapA (q2v o x)):=by obtain⟨n,ex,s1,ex',s2,h1,h2,h3⟩:=h;cases ex with
 |normal=>
  simp only[unw]at h2;split at h2;·rename_i e3 s3 h4;exact⟨n+1,e3,s3,ex',s2,by rw[qg1,h1];exact h4,q4u (Nat.le_succ n) h2,h3⟩
  grind|exit i=>simp only[unw]at h2;exact⟨n+1,_,s1,ex',s2,by rw[qg1,h1],q4u (Nat.le_succ n) h2,h3⟩|ret=>simp only[unw]at h2;exact⟨n+1,_,s1,ex',s2,by rw[qg1,h1],q4u (Nat.le_succ n) h2,h3⟩
theorem y69(s:TSt S):s.toS.heap.length=s.heap.length:=by simp[TSt.toS,heapA]
theorem qni{s:TSt T.S}{x:Operand}{v:TV T.S}(h:evT T s 0 x=v):replO s x v=s:=by cases x with|tmp t=>exact qps (s:=s) (t:=t) h|_=>rfl
theorem qfv(hS:T.S.Ok T.E.P)(F:Fx)(o:OSpec T.S):∀(n:Nat),(∀(c:Code)(K:List Fr)(s:TSt T.S)(x:o.Out),te T F o n c K s=some x->BSem T F o c K s x)/\(∀(ex:Ex)(K:List Fr)(s:TSt T.S)(x:o.Out),teK T F o n ex K s=some x->KGoes T F o ex K s.toS x)
 |0=>⟨fun c K s x h=>qo9 h,fun ex K s x h=>by cases h⟩|n+1=>by
  obtain⟨ih,ihK⟩:=qfv hS F o n;constructor;·intro c K s x h;unfold BSem;have hseq1:∀m,exec T.E F.f F.k (m+1) .skip s.toS=some (.normal,s.toS):=fun _=>rfl;unfold te at h;cases c with
   |skip=>exact qav (n:=1) rfl (ihK _ _ _ _ h)|label l=>exact qav (n:=1) rfl (ihK _ _ _ _ h)|region id ops draw=>simp only at h;cases draw with
    |true=>
     simp only at h;split at h
     .rename_i l hl;have hfr:qi0 T.E.an F.f ops s.toS=true:=by simp_all
      simp only[hfr,Bool.true_eq_false,if_false]at h;obtain⟨m,s1,h1,h2⟩:=ql4 hS h;refine qav (n:=m+1) (ex:=.normal) (s1:={s1.toS with env:=q8q s1.toS.env (T.E.an.clear F.f id)}) ?_ ?_;·rw[q9z];simp only[if_true,hfr,Bool.true_eq_false,if_false,hl,List.map_cons,List.map_nil,agree,h1]
      .have:=ihK _ _ _ _ h2;simp only[TSt.toS]at this⊢;rw[ql8];omega
     grind|false=>
     simp only at h;obtain⟨m,s1,h1,h2⟩:=ql4 hS h;refine qav (n:=m+1) (ex:=.normal) (s1:={s1.toS with env:=q8q s1.toS.env (T.E.an.clear F.f id)}) ?_ ?_;·rw[q9z];simp only[fT,if_false,y4p,h1]
     .have:=ihK _ _ _ _ h2;simp only[TSt.toS]at this⊢;rw[ql8];omega
   |seq a b=>exact ykt (ih _ _ _ _ h)|cond y a b=>
    simp only at h;split at h
    .rename_i t ht;have hev:=q3d ht (by simp);split at h;·rw[qni ht]at h;obtain⟨m,ex,s1,h1,h2⟩:=qx3 (ih _ _ _ _ h);exact qav (n:=m+1) (by rw[qj9,hev];exact h1) h2
     .rw[qni ht]at h;obtain⟨m,ex,s1,h1,h2⟩:=qx3 (ih _ _ _ _ h);exact qav (n:=m+1) (by rw[qj9,hev];exact h1) h2
    grind|block id b=>refine y9k ?_;rw[y69];exact ih _ _ _ _ h|loop b=>exact qo9 h|exit id=>exact qav (n:=1) rfl (ihK _ _ _ _ h)|ret=>exact qav (n:=1) rfl (y3u hS h K)|_=>cases h
  .intro ex K s x h;unfold teK at h;split at h;·exact y3u hS h _
   .exact⟨0,.normal,s.toS,rfl,qcv hS h⟩
   .split at h;·exact k_seq (qo9 h)
    .exact k_seq (ih _ _ _ _ h)
   .obtain⟨m,e2,s2,h1,h2⟩:=ihK _ _ _ _ h;rw[<-qob]at h1;exact⟨m,e2,s2,by simp only[unw];omega,h2⟩
   .refine yip ?_;rw[qrc];exact qo9 h
   .obtain⟨m,e2,s2,h1,h2⟩:=ihK _ _ _ _ h;exact⟨m,e2,s2,by simp only[unw];omega,h2⟩
   .split at h;·rename_i hi;obtain⟨m,e2,s2,h1,h2⟩:=ihK _ _ _ _ h;rw[<-qob]at h1;exact⟨m,e2,s2,by simp only[unw,hi,if_true];omega,h2⟩
    .rename_i hi;obtain⟨m,e2,s2,h1,h2⟩:=ihK _ _ _ _ h;exact⟨m,e2,s2,by simp only[unw,hi,if_false];omega,h2⟩
   .obtain⟨m,e2,s2,h1,h2⟩:=ihK _ _ _ _ h;exact⟨m,e2,s2,by simp only[unw];omega,h2⟩
   grind
theorem qcx(hS:T.S.Ok T.E.P){F:Fx}{o:OSpec T.S}{c:Code}{K:List Fr}{s:TSt T.S}(n:Nat){p:Option o.Out}(h:te T F o n c K s=p):Le p (goC T F o c K s):=fun r hr=>yak hS ((qfv hS F o n).1 c K s r (h.trans hr))
theorem y90(hS:T.S.Ok T.E.P){F:Fx}{o:OSpec T.S}{b:Code}{K:List Fr}{s:TSt T.S}(n:Nat){p:Option o.Out}(h:te T F o n b (.loop b s.heap.length::K) s=p):Le p (goC T F o (.loop b) K s):=fun r hr=>yak hS (ydm (by rw[y69];exact(qfv hS F o n).1 b (.loop b s.heap.length::K) s r (h.trans hr)))
theorem y0y(hS:T.S.Ok T.E.P){F:Fx}{o:OSpec T.S}{b c:Code}{K:List Fr}{s:TSt T.S}(n:Nat){p:Option o.Out}(hc:c=.loop b)(h:te T F o n b (.loop b s.heap.length::K) s=p):Le p (goC T F o c K s):=by subst hc;exact y90 hS n h
def qlp:List Nat->Code->Code|0::r,.seq a _=>qlp r a|1::r,.seq _ b=>qlp r b|0::r,.cond _ a _=>qlp r a|1::r,.cond _ _ b=>qlp r b|0::r,.block _ b=>qlp r b|0::r,.loop b=>qlp r b|_,c=>c
def qjq:List Nat->Code->List Nat->List Fr->List Fr|0::r,.seq a b,ms,K=>qjq r a ms (.seq b::K)|1::r,.seq _ b,ms,K=>qjq r b ms K|0::r,.cond _ a _,ms,K=>qjq r a ms K|1::r,.cond _ _ b,ms,K=>qjq r b ms K|0::r,.block id b,ms,K=>qjq r b ms.tail (.block id (ms.headD 0)::K)|0::r,.loop b,ms,K=>qjq r b ms.tail (.loop b (ms.headD 0)::K)|_,_,_,K=>K
theorem q2j{k:IntKind}{a b:Int}(h:D.v (.int k a)=D.v (.int k b)):a=b:=by grind
theorem qyt{a b:Bool}(h:D.v (.bool a)=D.v (.bool b)):a=b:=by grind
theorem q17{α:Type}{e:α->D}(he:∀a b,e a=e b->a=b){xs ys:List α}(h:D.list (xs.map e)=D.list (ys.map e)):xs=ys:=by injection h with h;exact(List.map_inj_right (fun a b hab=>he a b hab)).1 h
def bindT:Nat->List (TL S)->TEnv S|_,[]=>[]|k,v::r=>(k,.fl v)::bindT (k+1) r
theorem qzh:∀(vs:List (TL S))(k:Nat),q2q k (vs.map TL.toA)=envA (bindT k vs)|[],_=>rfl|v::r,k=>by simp only[List.map_cons,q2q,bindT,qzh r];rfl
theorem y77(hS:T.S.Ok T.E.P){f:FuncId}{fn:Func}{c:Code}{vs:List (TL T.S)}{hs:THeap T.S}{o:OSpec T.S}(n:Nat)(hok:T.E.ok f=true)(hf:T.E.P.funcs[f]?=some fn)(hb:fn.body=some c)(hn0:(decide (vs.length<=fn.ntmps)&&(q7x T.E.P fn c).isNone&&(T.E.lib f).isNone)=true){p:Option o.Out}(h:te T ⟨f,fn,hs.length⟩ o n c [] ⟨bindT 0 vs,hs⟩=p):Le p (callC T f vs hs o):=by
 rw[aT,aT]at hn0;have hn:=of_decide_eq_true hn0.1.1;have hnil:q7x T.E.P fn c=none:=Option.isNone_iff_eq_none.1 hn0.1.2;have hlb:T.E.lib f=none:=Option.isNone_iff_eq_none.1 hn0.2;have hro:qd7 T.E.P fn c=c:=by simp[qd7,hnil]
 have hgn:∀vs hp r,q46 T.E.P fn c vs hp r=r:=fun vs hp r=>by simp[q46,hnil]
 intro r hr;obtain⟨m,ex,s1,ex',s2,h1,h2,h3⟩:=(qfv hS ⟨f,fn,hs.length⟩ o n).1 c [] ⟨bindT 0 vs,hs⟩ r (h.trans hr);cases h2;refine qiq hS ⟨m+1,?_⟩;have he:(⟨q2q 0 (vs.map TL.toA),heapA hs⟩:St)=(⟨bindT 0 vs,hs⟩:TSt T.S).toS:=by simp only[TSt.toS,qzh]
 have hl:(heapA hs).length=hs.length:=by simp[heapA]
 have h1':exec T.E f hs.length m c (⟨bindT 0 vs,hs⟩:TSt T.S).toS=some (ex,s1):=h1;simp only[call,hok,hlb,if_true,hf,hb,List.length_map,hn,he,hro,hgn,hl,h1'];cases ex with|normal=>simpa[fin,heapA]using h3|ret=>simpa[fin,heapA]using h3|exit i=>cases h3
theorem qef(hS:T.S.Ok T.E.P){f:FuncId}{fn:Func}{c rest:Code}{cl:T.S.TC}{xs:List (T.S.Ty cl)}{o:OSpec T.S}(n:Nat)(hok:T.E.ok f=true)(hf:T.E.P.funcs[f]?=some fn)(hb:fn.body=some c)(hn0:(decide (1<=fn.ntmps)&&(T.E.lib f).isNone)=true)(hnil:q7x T.E.P fn c=some rest){p:Option o.Out}(h:te T ⟨f,fn,0⟩ o n rest [] ⟨bindT 0 [.d (.lf (.l cl xs))],[]⟩=p)(he:xs=[]->∀r,p=some r->q11 ((resOf o r).map TL.toA)=.ref 0/\heapA (q2v o r)=[[.own [] false]]):Le p (callC T f [.d (.lf (.l cl xs))] [] o):=by
 rw[aT]at hn0;have hn:=of_decide_eq_true hn0.1;have hlb:T.E.lib f=none:=Option.isNone_iff_eq_none.1 hn0.2;have hro:qd7 T.E.P fn c=rest:=by simp[qd7,hnil]
 intro r hr;obtain⟨m,ex,s1,ex',s2,h1,h2,h3⟩:=(qfv hS ⟨f,fn,0⟩ o n).1 rest [] ⟨bindT 0 [.d (.lf (.l cl xs))],[]⟩ r (h.trans hr);cases h2;refine qiq hS ⟨m+1,?_⟩;have hst:(⟨q2q 0 ([TL.d (.lf (.l cl xs))].map TL.toA),heapA ([]:THeap T.S)⟩:St)=(⟨bindT 0 [.d (.lf (.l cl xs))],[]⟩:TSt T.S).toS:=by rfl
 have hg:∀q,q=some (q11 ((resOf o r).map TL.toA),heapA (q2v o r))->q46 T.E.P fn c ([TL.d (.lf (.l cl xs))].map TL.toA) (heapA ([]:THeap T.S)) q=q:=by rintro q rfl;unfold q46;rw[hnil];cases xs with|nil=>obtain⟨e1,e2⟩:=he rfl r hr;rw[e1,e2];rfl|cons x xs=>rfl
 have h1':exec T.E f (heapA ([]:THeap T.S)).length m rest (⟨bindT 0 [.d (.lf (.l cl xs))],[]⟩:TSt T.S).toS=some (ex,s1):=h1;simp only[call,hok,hlb,if_true,hf,hb,List.length_map,List.length_singleton,hn,hst,hro,h1'];cases ex with|normal=>rw[show fin _ _ _ _ Ex.normal s1=_ from rfl]at h3;exact(hg _ h3).trans h3|ret=>exact(hg _ h3).trans h3|exit i=>cases h3
theorem qau(hS:T.S.Ok T.E.P){f:FuncId}{m:List AV->Heap->Option (AV×Heap)}{vs:List (TL T.S)}{hs:THeap T.S}{o:OSpec T.S}(hok:T.E.ok f=true)(hl:T.E.lib f=some m){x:o.Out}(h:libA m (vs.map TL.toA) (heapA hs)=some (q11 ((resOf o x).map TL.toA),heapA (q2v o x)))(hp:T.E.pre f=none:=by rfl):callC T f vs hs o=some x:=qiq hS ⟨1,by simp only[call,hok,hl,hp,if_true];exact h⟩
theorem y24(hS:T.S.Ok T.E.P){f g:FuncId}{m:List AV->Heap->Option (AV×Heap)}{k:AV->List AV->Heap->Option (AV×Heap)}{vs:List (TL T.S)}{hs:THeap T.S}{o og:OSpec T.S}(hok:T.E.ok f=true)(hl:T.E.lib f=some m)(hp:T.E.pre f=some (g,k)){y:og.Out}(hg:callC T g vs hs og=some y)(hh:heapA (q2v og y)=[]){x:o.Out}(h:libA (k (q11 ((resOf og y).map TL.toA))) (vs.map TL.toA) (heapA hs)=some (q11 ((resOf o x).map TL.toA),heapA (q2v o x))):callC T f vs hs o=some x:=by obtain⟨n,hn⟩:=qjh hg;rw[hh]at hn;exact qiq hS ⟨n+1,by simp only[call,hok,hl,hp,if_true,hn];exact h⟩
end Go.Ab

namespace Go.Ab
theorem Le.refl{α:Type}(a:Option α):Le a a:=fun _ h=>h
theorem Le.trans{α:Type}{a b c:Option α}(h:Le a b)(h':Le b c):Le a c:=fun r hr=>h' r (h r hr)
theorem wrap64{n:Int}(h1:-9223372036854775808<=n)(h2:n<9223372036854775808):IntKind.wrap .i64 n=n:=by
 have key:IntKind.wrap .i64 n=if n%18446744073709551616≥9223372036854775808 then n%18446744073709551616-18446744073709551616 else n%18446744073709551616:=by show(if(true&&decide (n%18446744073709551616≥9223372036854775808))=true then n%18446744073709551616-18446744073709551616 else n%18446744073709551616)=_;simp only[tA',dT']
 omega
theorem q2m{a b:Int}(h1:-9223372036854775808<=a+b)(h2:a+b<9223372036854775808):addI .i64 a b=a+b:=wrap64 h1 h2
theorem q61{a b:Int}(h1:-9223372036854775808<=a-b)(h2:a-b<9223372036854775808):subI .i64 a b=a-b:=wrap64 h1 h2
theorem shl1{k:Int}(h0:0<=k)(h:k<=62):shlI .i64 1 k=((2^k.toNat:Nat):Int):=by
 obtain⟨n,rfl⟩:=Int.eq_ofNat_of_zero_le h0;have hn:n<=62:=by omega
 simp only[shlI,IntKind.bits,tN,Int.one_mul];rw[Nat.min_eq_left (by omega)];have:(2:Int)^n=((2^n:Nat):Int):=by simp
 rw[this];have h2:2^n<=2^62:=Nat.pow_le_pow_right (by decide) hn;have h3:(2:Nat)^62=4611686018427387904:=by rfl
 generalize 2^n=m at*;exact wrap64 (by omega) (by omega)
theorem yd4{a b:Int}:eqB a b=true↔a=b:=by simp[eqB]
theorem q03{a b:Int}(h:a<b):ltB a b=true:=by simp[ltB,h]
theorem q00{a b:Int}(h:b<=a):ltB a b=false:=by simp[ltB,h]
theorem q10{a b:Int}(h:a<=b):leB a b=true:=by simp[leB,h]
theorem q12{a b:Int}(h:b<a):leB a b=false:=by simp[leB,h]
theorem q0f(a:Int):eqB a a=true:=by simp[eqB]
theorem q0h(a:Int):neB a a=false:=by simp[neB]
theorem q0i{a b:Int}(h:a≠b):eqB a b=false:=by simp[eqB,h]
theorem q0w{a b:Int}(h:a≠b):neB a b=true:=by simp[neB,h]
theorem q0g{β:Type}{p:Prop} [Decidable p](h:p)(k:Option β):chk p k=k:=by simp[chk,h]
theorem q05{β:Type}{n:Nat}(h:n<=q06)(k:Option β):capOk n k=k:=by simp[capOk,h]
theorem q97{β:Type}{len:Nat}{n:Int}(h0:0<=n)(h:n<=(len:Int))(k:Nat->Option β):hiK len n k=k n.toNat:=by simp[hiK,h0,h]
def ndiff(a b:Nat):Nat:=a^^^(a&&&b)
theorem q08(a b i:Nat):(ndiff a b).testBit i=(a.testBit i&&!b.testBit i):=by simp only[ndiff,Nat.testBit_xor,Nat.testBit_and];cases a.testBit i<;>cases b.testBit i<;>rfl
theorem q8f(a:Nat):BitVec.ofInt 64 (a:Int)=BitVec.ofNat 64 a:=by simp
theorem mod64{a:Nat}(h:a<2^62):a%2^64=a:=Nat.mod_eq_of_lt (by omega)
theorem qu8{a:Nat}(h:a<2^62):IntKind.wrap .i64 (a:Int)=a:=wrap64 (by omega) (by omega)
theorem q2y{a b:Nat}(ha:a<2^62)(hb:b<2^62):orI .i64 (a:Int) (b:Int)=((a|||b:Nat):Int):=by show IntKind.wrap .i64 (((BitVec.ofInt 64 (a:Int))|||(BitVec.ofInt 64 (b:Int))).toNat:Int)=_;rw[q8f,q8f,BitVec.toNat_or,BitVec.toNat_ofNat,BitVec.toNat_ofNat,mod64 ha,mod64 hb];exact qu8 (Nat.or_lt_two_pow ha hb)
theorem q3r{a b:Nat}(ha:a<2^62)(hb:b<2^62):andI .i64 (a:Int) (b:Int)=((a&&&b:Nat):Int):=by show IntKind.wrap .i64 (((BitVec.ofInt 64 (a:Int))&&&(BitVec.ofInt 64 (b:Int))).toNat:Int)=_;rw[q8f,q8f,BitVec.toNat_and,BitVec.toNat_ofNat,BitVec.toNat_ofNat,mod64 ha,mod64 hb];exact qu8 (Nat.and_lt_two_pow _ hb)
theorem qxj{a b n:Nat}(h:a<2^n):ndiff a b<2^n:=by apply Nat.lt_pow_two_of_testBit;intro i hi;rw[q08];have:a.testBit i=false:=Nat.testBit_lt_two_pow (Nat.lt_of_lt_of_le h (Nat.pow_le_pow_right (by decide) hi));simp_all
theorem qk2{a b:Nat}(ha:a<2^62)(_hb:b<2^62):ql2 .i64 (a:Int) (b:Int)=((ndiff a b:Nat):Int):=by
 have key:(BitVec.ofNat 64 a&&&~~~BitVec.ofNat 64 b).toNat=ndiff a b:=by
  apply Nat.eq_of_testBit_eq;intro i;rw[q08];by_cases hi:i<64;·grind
  .have h1:a.testBit i=false:=Nat.testBit_lt_two_pow (Nat.lt_of_lt_of_le ha (Nat.pow_le_pow_right (by decide) (by omega)));grind
 show IntKind.wrap .i64 (((BitVec.ofInt 64 (a:Int))&&&~~~(BitVec.ofInt 64 (b:Int))).toNat:Int)=_;rw[q8f,q8f,key];exact qu8 (qxj ha)
theorem qwn(a k:Nat)(hk:k<=64):shrI .i64 (a:Int) (k:Int)=((a>>>k:Nat):Int):=by simp only[shrI,IntKind.bits,tN,Nat.min_eq_left hk,Nat.shiftRight_eq_div_pow];grind
section
variable {α β : Type} {xs r : List α} {i : Nat} {y : α}
theorem q04(h:xs.drop i=y::r)(k:α->Option β):nth xs (i:Int) k=k y:=by
 have h1:xs[i]?=some y:=by have:=congrArg (·[0]?) h;grind
 simp[nth,h1]
theorem q01(h:xs.drop i=y::r):xs.drop (i+1)=r:=by rw[show i+1=i+1 from rfl,<-List.drop_drop,h];rfl
theorem q09(h:xs.drop i=y::r):i<xs.length:=by
 by_cases hl:i<xs.length;·omega
 .rw[List.drop_eq_nil_of_le (by omega)]at h;cases h
theorem q07(h:xs.drop i=y::r):ltB (i:Int) ((xs.length:Nat):Int)=true:=q03 (by have:=q09 h;omega)
theorem q0d(h:xs.drop i=[]):ltB (i:Int) ((xs.length:Nat):Int)=false:=q00 (by simp_all)
theorem q02(h:i<4611686018427387904):addI .i64 (i:Int) 1=((i+1:Nat):Int):=by rw[q2m (by omega) (by omega)];omega
end
theorem q0j{α β:Type}{xs:List α}{n:Int}{y:α}(h0:0<=n)(h:xs[n.toNat]?=some y)(k:α->Option β):nth xs n k=k y:=by simp[nth,h0,h]
theorem q3p{α β:Type}{xs:List α}{n:Nat}{y:α}(h:xs[n]?=some y)(k:α->Option β):nthN xs n k=k y:=by simp[nthN,h]
end Go.Ab
