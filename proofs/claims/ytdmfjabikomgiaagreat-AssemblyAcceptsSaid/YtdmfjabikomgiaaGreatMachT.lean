/- The typed machine: the abstract machine's steps over typed data, in the style of continuations, so that the kernel can compute what a function does with unknown arguments. Definitions alone. What the typed machine comes to, the abstract machine comes to: one operation. What the typed machine comes to, the abstract machine comes to: operations. What the typed machine comes to, the abstract machine comes to: every operation but calls. What the typed machine comes to, the abstract machine comes to: any operation that calls no function of the program's. What the typed machine comes to, the abstract machine comes to: calls, regions, code. The typed machine is sound: what it computes of a function, a call of it comes to on the abstract machine. Plain lemmas for reading what the typed machine computes: numbers, sets as bits, rounds over a list. -/
import Derived.Test.YtdmfjabikomgiaaGreatMachC
namespace Go.Ab
inductive Leaf(TC:Type)(Ty:TC->Type)where|i(k:IntKind)(n:Int)|b(x:Bool)|s(l:List UInt8)|l(c:TC)(xs:List (Ty c))|o(v:Value)
structure Sig where
 TC:Type
 [dec:DecidableEq TC]Ty:TC->Type
 enc:(c:TC)->Ty c->D
 cells:(c:TC)->Ty c->List (Leaf TC Ty)ofCells:(c:TC)->List (Leaf TC Ty)->Option (Ty c)agg:TC->Bool
 size:TC->Nat
 elem:TypeId->Option TC
 lists:TypeId->List (Option TC)
attribute [instance] Sig.dec
variable (S : Sig)
inductive PD where|lf(x:Leaf S.TC S.Ty)|ag(cs:List (Leaf S.TC S.Ty))
inductive TL where|undef|skipped|d(x:PD S)|own(c:S.TC)(xs:List (S.Ty c))(lent:Bool)|loc(p:Place)|elt(p:Place)(i off:Nat)|seg(p:Place)(lo hi:Nat)|ptr(o off:Nat)|view(cs:List (Leaf S.TC S.Ty))|fn(f:Nat)(caps:List (Nat×Nat))|ref(o:Nat)
inductive TV where|fl(x:TL S)|agg(cs:List (TL S))|tup(vs:List (TL S))
abbrev TEnv:=List (Nat×TV S)
abbrev THeap:=List (List (TL S))
structure TSt where
 env:TEnv S
 heap:THeap S
variable {S}
def leafD:Leaf S.TC S.Ty->D|.i k n=>.v (.int k n)|.b x=>.v (.bool x)|.s l=>.v (.string ⟨⟨l⟩⟩)|.l c xs=>.list (xs.map (S.enc c))|.o v=>.v v
def PD.toD:PD S->D|.lf x=>leafD x|.ag cs=>.agg (cs.map leafD)
def TL.toA:TL S->AV|.undef=>.undef|.skipped=>.skipped|.d x=>.d x.toD|.own c xs l=>.own (xs.map (S.enc c)) l|.loc p=>.loc p|.elt p i off=>.elt p i off|.seg p i off=>.seg p i off|.ptr o off=>.ptr o off|.view cs=>.view (cs.map leafD)|.fn f caps=>.fn f caps|.ref o=>.ref o
def TV.toA:TV S->AV|.fl x=>x.toA|.agg cs=>.agg (cs.map TL.toA)|.tup vs=>.tup (vs.map TL.toA)
def envA(e:TEnv S):Env:=e.map fun(k,v)=>(k,v.toA)
def heapA(h:THeap S):Heap:=h.map fun cs=>cs.map TL.toA
def TSt.toS(s:TSt S):St:={env:=envA s.env,heap:=heapA s.heap}
def packT(g:Bool)(cs:List (Leaf S.TC S.Ty)):PD S:=if g then .ag cs else match cs with|x::_=>.lf x|[]=>.ag []
structure Sig.Ok(S:Sig)(P:Program):Prop where
 enc_eq:∀c x,S.enc c x=(packT (S:=S) (S.agg c) (S.cells c x)).toD
 of_eq:∀c cs x,S.ofCells c cs=some x->(S.cells c x).map (leafD (S:=S))=cs.map leafD
 inj:∀c x y,S.enc c x=S.enc c y->x=y
 len:∀c x,(S.cells c x).length=S.size c
 pos:∀c,0<S.size c
 one:∀c,S.agg c=false->S.size c=1
 elem:∀t c,S.elem t=some c->∃e,q2m P t=some e/\tyAgg P e=some (S.agg c)/\q0p P e=some (S.size c)
def getT:TEnv S->Nat->TV S|[],_=>.fl .undef|(k,v)::r,t=>if k=t then v else getT r t
def setT:TEnv S->Nat->TV S->TEnv S|[],t,v=>[(t,v)]|(k,u)::r,t,v=>if t<k then(t,v)::(k,u)::r else if t=k then(t,v)::r else(k,u)::setT r t v
def qbq:TEnv S->Nat->TEnv S|[],_=>[]|(k,u)::r,t=>if k=t then qbq r t else(k,u)::qbq r t
def qr2(e:TEnv S):List Nat->TEnv S|[]=>e|t::r=>qr2 (qbq e t) r
def replT:TEnv S->Nat->TV S->TEnv S|[],_,_=>[]|(k,u)::r,t,v=>if k=t then(k,v)::r else(k,u)::replT r t v
def TV.placed:TV S->Bool|.fl (.loc _)|.fl (.elt ..)|.fl (.seg ..)=>true|_=>false
def TV.isOwn:TV S->Bool|.fl (.own ..)=>true|_=>false
def TL.isOwn:TL S->Bool|.own .. =>true|_=>false
def killT:TEnv S->TEnv S|[]=>[]|(k,v)::r=>if v.placed then qbq (killT r) k else(k,v)::killT r
def TV.sitsAt(t:Nat):TV S->Bool|.fl (.loc (.slot u))=>u==t|.fl (.elt (.slot u) _ _)=>u==t|.fl (.seg (.slot u) _ _)=>u==t|_=>false
def q9p(t:Nat):TEnv S->TEnv S|[]=>[]|(k,v)::r=>if v.sitsAt t then qbq (q9p t r) k else(k,v)::q9p t r
def putT(e:TEnv S)(t:Nat)(v:TV S):TEnv S:=match v with|.fl .undef=>qbq (if(getT e t).isOwn then q9p t e else e) t|.fl (.own c xs l)=>setT (q9p t e) t (.fl (.own c xs l))|v=>setT (if(getT e t).isOwn then q9p t e else e) t v
def TSt.put(s:TSt S)(dst:Option Nat)(v:TV S):TSt S:=match dst with|some t=>{s with env:=putT s.env t v}|none=>s
def TSt.del(s:TSt S):List Nat->TSt S|[]=>s|t::r=>TSt.del {s with env:=putT s.env t (.fl .undef)} r
def qe4(c:Option S.TC):Value->Option (TL S)
 |.slice none 0 0=>match c with|some c=>some (.own c [] false)|none=>none
 |.slice .. |.agg _|.tuple _|.func .. |.map (some _)|.chan (some _)|.iface .. |.pointer (some _)=>none|.int k n=>some (.d (.lf (.i k n)))|.bool x=>some (.d (.lf (.b x)))|.string ⟨⟨l⟩⟩=>some (.d (.lf (.s l)))|v=>some (.d (.lf (.o v)))
def qdp:List (Option S.TC)->List Value->Option (List (TL S))|_,[]=>some []|cs,v::r=>match qe4 (cs.headD none) v,qdp cs.tail r with|some x,some xs=>some (x::xs)|_,_=>none
def qg0(cs:List (Option S.TC)):Value->TV S
 |.agg vs=>match qdp cs vs.toList with|some xs=>.agg xs|none=>.fl .undef
 |v=>match qe4 (cs.headD none) v with|some x=>.fl x|none=>.fl .undef
def qcj(cs:List (Option S.TC)):Value->Option (List (TL S))|.agg vs=>qdp cs vs.toList|v=>match qe4 (cs.headD none) v with|some x=>some [x]|none=>none
def TV.cells:TV S->List (TL S)|.agg cs=>cs|.fl (.d (.ag cs))=>cs.map fun x=>.d (.lf x)|.fl x=>[x]|.tup _=>[]
def qnw:TL S->Option (Leaf S.TC S.Ty)|.d (.lf x)=>some x|.own c xs _=>some (.l c xs)|_=>none
def q4k:List (TL S)->Option (List (Leaf S.TC S.Ty))|[]=>some []|c::r=>match qnw c,q4k r with|some x,some xs=>some (x::xs)|_,_=>none
def qkk:TV S->Option (PD S)
 |.agg cs=>match q4k cs with|some ds=>some (.ag ds)|none=>none
 |.fl (.d x)=>some x|.fl (.own c xs _)=>some (.lf (.l c xs))|_=>none
def TL.noAg:TL S->Bool|.d (.ag _)=>false|_=>true
def keepT(fl:Flag)(v:TV S):Option (TV S):=match fl,v with
 |.view,.fl (.own c xs _)=>some (.fl (.d (.lf (.l c xs))))|.view,.agg cs=>match q4k cs with|some ds=>some (.fl (.d (.ag ds)))|none=>if cs.all TL.noAg then some (.agg cs)else none
 |_,v=>some v
def qfr:List (TL S)->Bool|[]=>true|.own _ _ l::r=>l&&qfr r|_::r=>qfr r
def cellT(h:THeap S)(o off:Nat):TL S:=match h[o]? with|some cs=>(cs[off]?).getD .undef|none=>.undef
def qcc(h:THeap S)(o off:Nat)(v:TL S):THeap S:=match h[o]? with|some cs=>h.set o (cs.set off v)|none=>h
def q2j(s:TSt S):Place->TV S|.slot t=>getT s.env t|.cell o off=>.fl (cellT s.heap o off)
def qat(s:TSt S)(p:Place)(v:TL S):TSt S:=match p with|.slot t=>{s with env:=putT s.env t (.fl v)}|.cell o off=>{env:=killT s.env,heap:=qcc s.heap o off v}
def q5f(s:TSt S)(p:Place)(v:TL S):TSt S:=match p with|.slot t=>{s with env:=setT s.env t (.fl v)}|.cell o off=>{s with heap:=qcc s.heap o off v}
inductive LK(TC:Type)where|i(k:IntKind)|b|s|l(c:TC)
inductive OT(S:Sig)where|lf(k:LK S.TC)|own(c:S.TC)(lent:Bool)|ag(c:S.TC)|ptr(o off:Nat)|fn(f:Nat)(caps:List (Nat×Nat))|ref(o:Nat)|undef
structure OSpec(S:Sig)where res:List (OT S)heap:List (List (OT S))
structure TEn where
 E:Env0
 S:Sig
 res:FuncId->List (OT S)news:FuncId->List (List (OT S))cut:FuncId->Nat->Bool
 outs:FuncId->Option (List (List (OT S))):=fun _=>none
variable {T : TEn}
def evT(T:TEn)(s:TSt T.S)(t:TypeId):Operand->TV T.S|.tmp t=>getT s.env t|.const v=>qg0 (T.S.lists t) v|.global _=>.fl .undef|.func f=>.fl (.fn f [])
def y41:TV S->Option (PD S)|.fl (.d x)=>some x|_=>none
def q2b (T : TEn) (s : TSt T.S) (t : TypeId) (x : Operand) : Option (PD T.S) :=
 match x with
 | .const v => qkk (qg0 (T.S.lists t) v)
 | _ => y41 (evT T s t x)
def qfh (T : TEn) (s : TSt T.S) (t : TypeId) : List Operand -> Option (List (PD T.S))
 | [] => some []
 | x :: r => match q2b T s t x, qfh T s t r with
  | some a, some as => some (a :: as)
  | _, _ => none
def q69:TV S->Option (TV S)|.fl .undef|.fl .skipped|.fl (.loc _)|.fl (.elt ..)|.fl (.seg ..)|.tup _=>none|v=>some v
def y3q:TV S->Option (TV S)|.fl (.elt p i off)=>some (.fl (.elt p i off))|.fl (.seg p i off)=>some (.fl (.seg p i off))|v=>q69 v
def qcd(fl:Flag)(q:Bool)(s:TSt S)(p:Place):Option (TV S×TSt S):=match q2j s p with
 |.fl (.own c xs l)=>match fl with|.keep=>some (.fl (.loc p),s)|.view=>if l then some (.fl (.d (.lf (.l c xs))),s)else if q then none else some (.fl (.d (.lf (.l c xs))),q5f s p (.own c xs true))
 |.fl .undef|.fl .skipped|.fl (.loc _)|.agg _=>none|v=>some (v,s)
def qfg(s:TSt S)(o off:Nat):Nat->TSt S|0=>s|n+1=>qfg (match cellT s.heap o off with|.own c xs false=>q5f s (.cell o off) (.own c xs true)|_=>s) o (off+1) n
def nth{α β:Type}(xs:List α)(n:Int)(k:α->Option β):Option β:=if 0<=n then match xs[n.toNat]? with|some x=>k x|none=>none else none
def nthN{α β:Type}(xs:List α)(n:Nat)(k:α->Option β):Option β:=match xs[n]? with|some x=>k x|none=>none
def capOk{β:Type}(n:Nat)(k:Option β):Option β:=if n<=q06 then k else none
def hiK{β:Type}(len:Nat)(n:Int)(k:Nat->Option β):Option β:=if 0<=n/\n<=(len:Int)then k n.toNat else none
def chk{β:Type}(p:Prop) [Decidable p](k:Option β):Option β:=if p then k else none
variable {β : Type}
def loadT(T:TEn)(fl:Flag)(q:Bool)(t:TypeId)(a:TV T.S)(s:TSt T.S)(k:TV T.S->TSt T.S->Option β):Option β:=match tyAgg T.E.P t,q0p T.E.P t with
 |some false,_=>match a with
  |.fl (.ptr o off)=>match qcd fl q s (.cell o off)with|some (v,s1)=>k v s1|none=>none
  |.fl (.view (c::_))=>k (.fl (.d (.lf c))) s|.fl (.elt p i off)=>match q2j s p with
   |.fl (.own c xs _)=>nthN xs i fun x=>match(T.S.cells c x).drop off with|y::_=>k (.fl (.d (.lf y))) s|[]=>none
   |_=>none
  |_=>none
 |some true,some n=>match a with
  |.fl (.ptr o off)=>match s.heap[o]? with|some cs=>if off+n<=cs.length then match q4k ((cs.drop off).take n)with|some ds=>if qfr ((cs.drop off).take n)then k (.fl (.d (.ag ds))) s else if q then none else k (.fl (.d (.ag ds))) (qfg s o off n)|none=>none else none|none=>none
  |.fl (.view cs)=>if n<=cs.length then k (.fl (.d (.ag (cs.take n)))) s else none|.fl (.elt p i off)=>match q2j s p with|.fl (.own c xs _)=>nthN xs i fun x=>if n<=((T.S.cells c x).drop off).length then k (.fl (.d (.ag (((T.S.cells c x).drop off).take n)))) s else none|_=>none
  |_=>none
 |_,_=>none
def y2l:TV S->Option Nat|.fl (.ptr o _)=>some o|.fl (.loc (.cell o _))=>some o|.fl (.elt (.cell o _) _ _)=>some o|.fl (.seg (.cell o _) _ _)=>some o|_=>none
def hitsT(objs:List Nat)(v:TV S):Bool:=v.placed&&(match y2l v with|some o=>objs.contains o|none=>false)
def q8r(objs:List Nat):TEnv S->TEnv S|[]=>[]|(k,v)::r=>if hitsT objs v then qbq (q8r objs r) k else(k,v)::q8r objs r
def qd7(a:TV T.S)(vs:List (TL T.S))(s:TSt T.S)(k:TSt T.S->Option β):Option β:=match a with
 |.fl (.ptr o off)=>match s.heap[o]? with|some cs=>if off+vs.length<=cs.length then k {env:=if((cs.drop off).take vs.length++vs).any TL.isOwn then q8r [o] s.env else s.env,heap:=s.heap.set o (cs.take off++vs++cs.drop (off+vs.length))}else none|none=>none
 |.fl (.elt p i off)=>match q2j s p,q4k vs with|.fl (.own c xs false),some ds=>nthN xs i fun x=>if off+ds.length<=(T.S.cells c x).length/\0<ds.length then match T.S.ofCells c ((T.S.cells c x).take off++ds++(T.S.cells c x).drop (off+ds.length))with|some y=>k (q5f s p (.own c (xs.set i y) false))|none=>none else none|_,_=>none
 |_=>none
def y3j:TL S->Bool|.d (.ag _)|.undef|.skipped|.loc _|.elt .. |.seg .. |.ref _=>false|_=>true
def y61(T:TEn)(t:TypeId)(a x:Operand)(s:TSt T.S)(k:TSt T.S->Option β):Option β:=match q69 (evT T s t x),tyAgg T.E.P t,q0p T.E.P t with|some v,some _,some n=>if v.cells.length=n/\v.cells.all y3j then qd7 (evT T s t a) v.cells (s.del (tmpOf x)) k else none|_,_,_=>none
def andI(k:IntKind)(a b:Int):Int:=k.wrap ((BitVec.ofInt k.bits a)&&&(BitVec.ofInt k.bits b)).toNat
def orI(k:IntKind)(a b:Int):Int:=k.wrap ((BitVec.ofInt k.bits a)|||(BitVec.ofInt k.bits b)).toNat
def xorI(k:IntKind)(a b:Int):Int:=k.wrap ((BitVec.ofInt k.bits a)^^^(BitVec.ofInt k.bits b)).toNat
def qkn(k:IntKind)(a b:Int):Int:=k.wrap ((BitVec.ofInt k.bits a)&&&~~~(BitVec.ofInt k.bits b)).toNat
def shlI(k:IntKind)(a b:Int):Int:=k.wrap (a*2^(min b.toNat k.bits))
def shrI(k:IntKind)(a b:Int):Int:=a.fdiv (2^(min b.toNat k.bits))
def addI(k:IntKind)(a b:Int):Int:=k.wrap (a+b)
def subI(k:IntKind)(a b:Int):Int:=k.wrap (a-b)
def mulI(k:IntKind)(a b:Int):Int:=k.wrap (a*b)
def quoI(k:IntKind)(a b:Int):Int:=k.wrap (a.tdiv b)
def remI(_:IntKind)(a b:Int):Int:=a.tmod b
def negI(k:IntKind)(a:Int):Int:=k.wrap (0-a)
def eqB(a b:Int):Bool:=decide (a=b)
def neB(a b:Int):Bool:=!decide (a=b)
def ltB(a b:Int):Bool:=decide (a<b)
def leB(a b:Int):Bool:=decide (a<=b)
def eqS(a b:List UInt8):Bool:=decide (a=b)
def ltS(a b:List UInt8):Bool:=Op.bytesLess a b
def leS(a b:List UInt8):Bool:=Op.bytesLess a b||decide (a=b)
abbrev LfK(S:Sig)(β:Type):=Leaf S.TC S.Ty->Option β
def binT'(P:Program)(op:BinOp)(t:TypeId)(x y:Leaf S.TC S.Ty)(k:LfK S β):Option β:=match x,y with
 |.i κ a,.i κ' b=>match op with|.shl=>chk (0<=b) (k (.i κ (shlI κ a b)))|.shr=>chk (0<=b) (k (.i κ (shrI κ a b)))|.add=>if κ=κ' then k (.i κ (addI κ a b))else none|.sub=>if κ=κ' then k (.i κ (subI κ a b))else none|.mul=>if κ=κ' then k (.i κ (mulI κ a b))else none|.quo=>if κ=κ' then chk (b≠0) (k (.i κ (quoI κ a b)))else none|.rem=>if κ=κ' then chk (b≠0) (k (.i κ (remI κ a b)))else none|.and=>if κ=κ' then k (.i κ (andI κ a b))else none|.or=>if κ=κ' then k (.i κ (orI κ a b))else none|.xor=>if κ=κ' then k (.i κ (xorI κ a b))else none|.andNot=>if κ=κ' then k (.i κ (qkn κ a b))else none|.eql=>if κ=κ' then k (.b (eqB a b))else none|.neq=>if κ=κ' then k (.b (neB a b))else none|.lss=>if κ=κ' then k (.b (ltB a b))else none|.leq=>if κ=κ' then k (.b (leB a b))else none|.gtr=>if κ=κ' then k (.b (ltB b a))else none|.geq=>if κ=κ' then k (.b (leB b a))else none
 |.s a,.s b=>match op with|.add=>chk (a.length+b.length<=9223372036854775807) (k (.s (a++b)))|.eql=>k (.b (eqS a b))|.neq=>k (.b (!eqS a b))|.lss=>k (.b (ltS a b))|.leq=>k (.b (leS a b))|.gtr=>k (.b (!leS a b))|.geq=>k (.b (!ltS a b))|_=>none
 |.b a,.b b=>match op,P.underlying t with|.eql,some .bool=>k (.b (a==b))|.neq,some .bool=>k (.b (!(a==b)))|_,_=>none
 |_,_=>none
def unT(op:UnOp)(x:Leaf S.TC S.Ty):Option (Leaf S.TC S.Ty):=match op,x with|.not,.b x=>some (.b (!x))|.neg,.i κ n=>some (.i κ (negI κ n))|_,_=>none
def idxT:TV S->Option Int|.fl (.d (.lf (.i _ n)))=>some n|_=>none
def fillT(place:Nat->Option (Nat×Nat))(cells:List (TL S)):List (Nat×TV S)->Option (List (TL S))|[]=>some cells|(i,v)::r=>match place i with|some (off,size)=>if v.cells.length=size/\off+size<=cells.length then fillT place (cells.take off++v.cells++cells.drop (off+size)) r else none|none=>none
def ydr(P:Program)(t:TypeId)(i:Nat):TypeId:=match P.underlying t with
 |some (.struct fs)=>match fs[i]? with|some f=>f.type|none=>0
 |some (.array _ e)=>e|_=>0
def qsm(T:TEn)(t:TypeId)(s:TSt T.S):List (Nat×Operand)->Option (List (Nat×TV T.S))|[]=>some []|(i,x)::r=>match q69 (evT T s (ydr T.E.P t i) x),qsm T t (s.del (tmpOf x)) r with|some v,some vs=>some ((i,v)::vs)|_,_=>none
def allLf:List (TL S)->Option (List (Leaf S.TC S.Ty))
 |[]=>some []|.d (.lf x)::r=>match allLf r with|some xs=>some (x::xs)|none=>none
 |_::_=>none
def qo3(cs:List (TL S)):Option (TV S):=match allLf cs with|some ds=>some (.fl (.d (.ag ds)))|none=>if cs.all TL.noAg then some (.agg cs)else none
def ofPD(c:S.TC):PD S->Option (S.Ty c)|.lf x=>if S.agg c then none else S.ofCells c [x]|.ag cs=>if S.agg c then S.ofCells c cs else none
def ofPDs(c:S.TC):List (PD S)->Option (List (S.Ty c))|[]=>some []|x::r=>match ofPD c x,ofPDs c r with|some y,some ys=>some (y::ys)|_,_=>none
def qay(c:S.TC):Leaf S.TC S.Ty->Option (List (S.Ty c))|.l c' xs=>if h:c'=c then some (h▸xs)else none|_=>none
def lenT(T:TEn)(t:TypeId)(a:TV T.S)(s:TSt T.S):Option Nat:=match T.E.P.underlying t,a with
 |some .string,.fl (.d (.lf (.s l)))=>some l.length|some (.slice _),.fl (.d (.lf (.l _ xs)))=>some xs.length|some (.slice _),.fl (.loc p)=>match q2j s p with|.fl (.own _ xs _)=>some xs.length|_=>none
 |some (.slice _),.fl (.ref o)=>match cellT s.heap o 0 with|.own _ xs _=>some xs.length|_=>none
 |some (.slice _),.fl (.seg p lo hi)=>match q2j s p with|.fl (.own ..)=>some (hi-lo)|_=>none
 |_,_=>none
def qdv(len:Nat)(lo hi:Option (TV S))(k:Nat->Nat->Option β):Option β:=match hi with
 |none=>match lo with|none=>k 0 len|some a=>match idxT a with|some n=>hiK len n fun l=>k l len|none=>none
 |some b=>match idxT b with|none=>none|some m=>hiK len m fun h=>match lo with|none=>k 0 h|some a=>match idxT a with|some n=>hiK h n fun l=>k l h|none=>none
def segT(T:TEn)(t:TypeId)(a:TV T.S)(lo hi mx:Option Operand)(s:TSt T.S)(k:TV T.S->Option β):Option β:=match mx,a with
 |none,.fl (.loc p)=>match q2j s p with|.fl (.own c xs _)=>if T.S.elem t=some c then qdv xs.length (lo.map (evT T s 0)) (hi.map (evT T s 0)) fun l h=>k (.fl (.seg p l h))else none|_=>none
 |none,.fl (.ref o)=>match cellT s.heap o 0 with|.own c xs _=>if T.S.elem t=some c then qdv xs.length (lo.map (evT T s 0)) (hi.map (evT T s 0)) fun l h=>k (.fl (.seg (.cell o 0) l h))else none|_=>none
 |none,.fl (.seg p a0 b0)=>match q2j s p with|.fl (.own c xs _)=>if T.S.elem t=some c then chk (b0<=xs.length) (qdv (b0-a0) (lo.map (evT T s 0)) (hi.map (evT T s 0)) fun l h=>k (.fl (.seg p (a0+l) (a0+h))))else none|_=>none
 |_,_=>none
def y6a(T:TEn)(t:TypeId)(x:Operand)(lo hi mx:Option Operand)(s:TSt T.S)(k:TV T.S->Option β):Option β:=match mx,q2b T s t x with
 |none,some (.lf (.s l))=>match T.E.P.underlying t with|some .string=>qdv l.length (lo.map (evT T s 0)) (hi.map (evT T s 0)) fun a b=>k (.fl (.d (.lf (.s ((l.take b).drop a)))))|_=>none
 |none,some (.lf (.l c xs))=>if T.S.elem t=some c then qdv xs.length (lo.map (evT T s 0)) (hi.map (evT T s 0)) fun a b=>k (.fl (.d (.lf (.l c ((xs.take b).drop a)))))else none|_,_=>segT T t (evT T s t x) lo hi mx s k
def y9q(P:Program)(t:TypeId):Bool:=match q2m P t with
 |some e=>match q81 P e with|some b=>decide (0<b/\b<=65536)&&qhm P e|none=>false
 |none=>false
def qvj(T:TEn)(q:Bool)(t:TypeId)(x y:Operand)(s:TSt T.S)(k:TV T.S->TSt T.S->Option β):Option β:=match T.S.elem t,q2b T s t y with
 |some c,some (.lf yl)=>match qay c yl with
  |some ys=>if y9q T.E.P t then match evT T s t x with
    |.fl (.own c' xs l)=>match qay c (.l c' xs)with|some xs=>capOk (xs.length+ys.length) (k (.fl (.own c (xs++ys) l)) s)|none=>none
    |.fl (.loc p)=>match q2j s p with
     |.fl (.own c' xs l)=>if q then none else match qay c (.l c' xs)with|some xs=>capOk (xs.length+ys.length) (k (.fl (.own c (xs++ys) l)) (qat s p .undef))|none=>none
     |_=>none
    |_=>none else none|none=>none
 |_,_=>none
def qgo(T:TEn)(t:TypeId)(a:TV T.S)(n:Int)(s:TSt T.S)(k:TV T.S->Option β):Option β:=match T.S.elem t,T.E.P.underlying t,a with
 |some c,some (.slice _),.fl (.loc p)=>match q2j s p with|.fl (.own c' xs _)=>if c'=c then nth xs n fun _=>k (.fl (.elt p n.toNat 0))else none|_=>none
 |some c,some (.slice _),.fl (.ref o)=>match cellT s.heap o 0 with|.own c' xs _=>if c'=c then nth xs n fun _=>k (.fl (.elt (.cell o 0) n.toNat 0))else none|_=>none
 |some c,some (.slice _),.fl (.seg p lo hi)=>match q2j s p with|.fl (.own c' xs _)=>if c'=c then chk (0<=n/\n<((hi-lo:Nat):Int)) (nthN xs (lo+n.toNat) fun _=>k (.fl (.elt p (lo+n.toNat) 0)))else none|_=>none
 |some c,some (.slice _),.fl (.d (.lf (.l c' xs)))=>if c'=c then nth xs n fun x=>k (.fl (.view (T.S.cells c' x)))else none|_,some (.array m e),.fl (.ptr o b)=>match q0p T.E.P e with|some sz=>if 0<=n/\n<m/\1<m/\0<sz then k (.fl (.ptr o (b+n.toNat*sz)))else none|none=>none
 |_,some (.array m e),.fl (.view cs)=>match q0p T.E.P e with|some sz=>if 0<=n/\n<m/\1<m/\0<sz then k (.fl (.view (cs.drop (n.toNat*sz))))else none|none=>none
 |_,_,_=>none
def partT(P:Program)(t:TypeId)(cs:List (Leaf S.TC S.Ty))(off:Nat):Option (PD S):=match tyAgg P t,q0p P t with
 |some true,some n=>if off+n<=cs.length then some (.ag ((cs.drop off).take n))else none|some false,_=>match cs[off]? with|some x=>some (.lf x)|none=>none
 |_,_=>none
def qp3(T:TEn)(c:T.S.TC)(u:TypeId)(y:Operand)(s:TSt T.S)(k:List (T.S.Ty c)->Option β):Option β:=match evT T s u y with
 |.fl (.seg p lo hi)=>match q2j s p with
  |.fl (.own c' xs _)=>match qay c (.l c' xs)with|some ys=>chk (hi<=ys.length) (k ((ys.take hi).drop lo))|none=>none
  |_=>none
 |_=>match q2b T s u y with
  |some (.lf yl)=>match qay c yl with|some ys=>k ys|none=>none
  |_=>none
def copyT(T:TEn)(t u:TypeId)(x y:Operand)(s:TSt T.S)(k:TV T.S->TSt T.S->Option β):Option β:=match evT T s t x with
 |.fl (.seg p lo hi)=>match q2j s p with|.fl (.own c xs false)=>if T.S.elem t=some c/\T.S.elem u=some c then qp3 T c u y s fun ys=>chk (hi<=xs.length) (k (.fl (.d (.lf (.i .i64 ((min (hi-lo) ys.length:Nat):Int))))) (q5f s p (.own c (xs.take lo++ys.take (hi-lo)++xs.drop (lo+min (hi-lo) ys.length)) false)))else none|_=>none
 |_=>none
def capsT(T:TEn)(s:TSt T.S):List Operand->Option (List (Nat×Nat))|[]=>some []|x::r=>match evT T s 0 x,capsT T s r with|.fl (.ptr o a),some ps=>some ((o,a)::ps)|_,_=>none
def eqVT(P:Program)(t:TypeId)(a b:Leaf S.TC S.Ty):Option Bool:=match P.underlying t,a,b with|some .bool,.b a,.b b=>some (a==b)|some (.int _),.i κ a,.i κ' b=>if κ=κ' then some (eqB a b)else none|some .string,.s a,.s b=>some (eqS a b)|_,_,_=>none
def eqFsT(P:Program)(xs ys:List (Leaf S.TC S.Ty)):List Field->Option Bool|[]=>some true|f::r=>if f.name= "_"then none else match partT P f.type xs f.offset,partT P f.type ys f.offset with
  |some (.lf a),some (.lf b)=>match eqVT P f.type a b,eqFsT P xs ys r with|some x,some y=>some (x&&y)|_,_=>none
  |_,_=>none
def y1r(P:Program)(op:BinOp)(t:TypeId)(xs ys:List (Leaf S.TC S.Ty)):Option Bool:=match P.underlying t with
 |some (.struct fs)=>if P.stoodInHeld t=false/\P.eqGuardType P.depth t=false then match op with
   |.eql=>eqFsT P xs ys fs.toList|.neq=>match eqFsT P xs ys fs.toList with|some b=>some (!b)|none=>none
   |_=>none else none|_=>none
def qte(T:TEn)(fl:Flag)(q:Bool)(ty:TypeId)(op:Op)(s:TSt T.S):Option (TV T.S×TSt T.S):=match op with
 |.move (.tmp t)=>qcd fl q s (.slot t)|.move x|.assign x=>match y3q (evT T s ty x)with|some v=>some (v,s)|none=>none
 |.alloc e=>match q4a T.E.P e with
  |some z=>match qcj (T.S.lists e) z with|some cs=>some (.fl (.ptr s.heap.length 0),{s with heap:=s.heap++[cs]})|none=>none
  |none=>none
 |.box e x=>match q69 (evT T s e x),q0p T.E.P e with|some v,some n=>if v.cells.length=n then some (.fl (.ptr s.heap.length 0),{s with heap:=s.heap++[v.cells]})else none|_,_=>none
 |.build t parts=>match q4a T.E.P t,qsm T t s parts.toList with
  |some (.agg z),some ps=>if qew T.E.P t then match qdp (T.S.lists t) z.toList with
   |some cs0=>match fillT (fieldPlace T.E.P t) cs0 ps with
    |some cs=>match qo3 cs with|some v=>some (v,s)|none=>none
    |none=>none
   |none=>none else none|_,_=>none
 |.buildSlice t n parts=>match T.S.elem t,q2m T.E.P t with
  |some c,some e=>match qfh T s e (parts.toList.map (·.2))with
   |some ps=>match ofPDs c ps with|some xs=>if q5b 0 parts.toList/\xs.length=n/\n<=65536/\qhm T.E.P e/\qu8 T.E.P e then some (.fl (.own c xs false),s)else none|none=>none
   |none=>none
  |_,_=>none
 |.nilCheck x=>match evT T s ty x with|.fl (.ptr o off)=>some (.fl (.ptr o off),s)|.fl (.view cs)=>some (.fl (.view cs),s)|.fl (.elt p i off)=>if(q2j s p).isOwn then some (.fl (.elt p i off),s)else none|.fl (.fn f cs)=>some (.fl (.fn f cs),s)|_=>none
 |.unOp op t x=>match q2b T s t x with
  |some (.lf a)=>match unT op a with|some r=>some (.fl (.d (.lf r)),s)|none=>none
  |_=>none
 |.convert src dst x=>match T.E.P.underlying src,T.E.P.underlying dst,q2b T s src x with|some (.int _),some (.int κ),some (.lf (.i _ n))=>some (.fl (.d (.lf (.i κ (κ.wrap n)))),s)|some .string,some .string,some (.lf (.s b))=>some (.fl (.d (.lf (.s b))),s)|_,_,_=>none
 |.fieldAddr t x i=>match q3a T.E.P t i with
  |some (off,u)=>match q0p T.E.P u with
   |some (_+1)=>match evT T s 0 x with|.fl (.ptr o a)=>some (.fl (.ptr o (a+off)),s)|.fl (.view cs)=>some (.fl (.view (cs.drop off)),s)|.fl (.elt p j a)=>if(q2j s p).isOwn then some (.fl (.elt p j (a+off)),s)else none|_=>none
   |_=>none
  |none=>none
 |.field t x i=>match q2b T s t x,q3a T.E.P t i with
  |some (.ag cs),some (off,u)=>match partT T.E.P u cs off with|some y=>some (.fl (.d y),s)|none=>none
  |_,_=>none
 |.extract (.tmp t) i=>match getT s.env t with
  |.tup vs=>match vs[i]? with|some (.d x)=>some (.fl (.d x),s)|some (.ptr o a)=>some (.fl (.ptr o a),s)|_=>none
  |_=>none
 |.makeFunc (.func f) first caps=>if first.size=0 then match capsT T s caps.toList with|some ps=>some (.fl (.fn f ps),s)|none=>none else none|.call {callee:=.builtin .len,args,argTypes}=>match args.toList,argTypes.toList with
  |[x],[t]=>match lenT T t (evT T s t x) s with|some n=>some (.fl (.d (.lf (.i .i64 (n:Int)))),s)|none=>none
  |_,_=>none
 |.call {callee:=.builtin .max,args,.. }=>match args.toList with
  |[x,y]=>match q2b T s 0 x,q2b T s 0 y with|some (.lf (.i κ a)),some (.lf (.i _ b))=>some (.fl (.d (.lf (.i κ (if b>a then b else a)))),s)|_,_=>none
  |_=>none
 |.call {callee:=.builtin .min,args,.. }=>match args.toList with
  |[x,y]=>match q2b T s 0 x,q2b T s 0 y with|some (.lf (.i κ a)),some (.lf (.i _ b))=>some (.fl (.d (.lf (.i κ (if b<a then b else a)))),s)|_,_=>none
  |_=>none
 |_=>none
def stepT(T:TEn)(fl:Flag)(q:Bool)(ty:TypeId)(op:Op)(s:TSt T.S)(k:TV T.S->TSt T.S->Option β):Option β:=match op with
 |.load t a=>loadT T fl q t (evT T s 0 a) s k|.pick c a b=>match evT T s 0 c with
  |.fl (.d (.lf (.b t)))=>match t with
   |true=>match q2b T s ty a with|some x=>k (.fl (.d x)) s|none=>none
   |false=>match q2b T s ty b with|some x=>k (.fl (.d x)) s|none=>none
  |_=>none
 |.binOp op t x y t'=>match q2b T s t x,q2b T s t' y with
  |some (.lf a),some (.lf b)=>binT' T.E.P op t a b fun r=>k (.fl (.d (.lf r))) s|some (.ag xs),some (.ag ys)=>match y1r T.E.P op t xs ys with|some r=>k (.fl (.d (.lf (.b r)))) s|none=>none
  |_,_=>none
 |.slice t x lo hi mx=>y6a T t x lo hi mx s fun v=>k v s|.indexAddr t x i=>match idxT (evT T s 0 i)with|some n=>qgo T t (evT T s t x) n s fun v=>k v s|none=>none
 |.index t x i=>match T.E.P.underlying t,idxT (evT T s 0 i),q2b T s t x with|some .string,some n,some (.lf (.s l))=>nth l n fun b=>k (.fl (.d (.lf (.i .u8 b.toNat)))) s|_,_,_=>none
 |.makeSlice t l c=>match T.S.elem t,q2m T.E.P t,q2b T s 0 l,q2b T s 0 c with
  |some cd,some e,some (.lf (.i .i64 n)),some (.lf (.i .i64 m))=>match(q4a T.E.P e).bind fun z=>qkk (qg0 (T.S.lists e) z),q81 T.E.P e with
   |some z,some b=>match ofPD cd z with|some x=>if b<=65536 then chk (n=m/\0<=n/\n<=65536) (k (.fl (.own cd (List.replicate n.toNat x) false)) s)else none|none=>none
   |_,_=>none
  |_,_,_,_=>none
 |.call {callee:=.builtin .append,args,argTypes}=>match args.toList,argTypes.toList with|[x,y],[t,u]=>if t=u then qvj T q t x y s k else none|_,_=>none
 |.call {callee:=.builtin .copy,args,argTypes}=>match args.toList,argTypes.toList with|[x,y],[t,u]=>if q then none else copyT T t u x y s k|_,_=>none
 |op=>match qte T fl q ty op s with|some (v,s1)=>k v s1|none=>none
def LK.Ty(S:Sig):LK S.TC->Type|.i _=>Int|.b=>Bool|.s=>List UInt8|.l c=>List (S.Ty c)
def OT.Ty:OT S->Type|.lf k=>k.Ty S|.own c _=>List (S.Ty c)|.ag c=>S.Ty c|.ptr .. |.fn .. |.ref _|.undef=>Unit
def Prods:List (OT S)->Type|[]=>Unit|[a]=>a.Ty|a::b::r=>a.Ty×Prods (b::r)
def LK.mk:(k:LK S.TC)->k.Ty S->Leaf S.TC S.Ty|LK.i κ,n=>.i κ n|LK.b,x=>.b x|LK.s,z=>.s z|LK.l c,xs=>.l c xs
def OT.mk:(a:OT S)->a.Ty->TL S|.lf k,x=>.d (.lf (k.mk x))|.own c l,xs=>.own c xs l|.ag c,x=>.d (packT (S.agg c) (S.cells c x))|.ptr o off,_=>.ptr o off|.fn f caps,_=>.fn f caps|.ref o,_=>.ref o|.undef,_=>.undef
def vals:(l:List (OT S))->Prods l->List (TL S)|[],_=>[]|[a],x=>[a.mk x]|a::b::r,x=>a.mk x.1::vals (b::r) x.2
def LK.of:(k:LK S.TC)->Leaf S.TC S.Ty->Option (k.Ty S)|.i κ,.i κ' n=>if κ'=κ then some n else none|.b,.b x=>some x|.s,.s z=>some z|.l c,x=>qay c x|_,_=>none
def OT.of:(a:OT S)->TL S->Option a.Ty|.lf k,.d (.lf x)=>k.of x|.own c l,.own c' xs l'=>if l'=l then qay c (.l c' xs)else none|.ag c,.d x=>ofPD c x|.ptr o off,.ptr o' off'=>if o'=o/\off'=off then some ()else none|.fn f cs,.fn f' cs'=>if f'=f/\cs'=cs then some ()else none|.ref o,.ref o'=>if o'=o then some ()else none|.undef,.undef=>some ()|_,_=>none
def qfo:(l:List (OT S))->List (TL S)->Option (Prods l)
 |[],[]=>some ()|[a],[v]=>a.of v|a::b::r,v::vs=>match a.of v,qfo (b::r) vs with|some x,some xs=>some (x,xs)|_,_=>none
 |_,_=>none
def OSpec.all(o:OSpec S):List (OT S):=o.res++o.heap.flatten
abbrev OSpec.Out(o:OSpec S):Type:=Prods o.all
def q4i:List Nat->List (TL S)->THeap S|[],_=>[]|n::r,vs=>vs.take n::q4i r (vs.drop n)
def resOf(o:OSpec S)(x:o.Out):List (TL S):=(vals o.all x).take o.res.length
def q2u(o:OSpec S)(x:o.Out):THeap S:=q4i (o.heap.map List.length) ((vals o.all x).drop o.res.length)
def yj2:TL S->OT S|.d (.lf (.i κ _))=>.lf (.i κ)|.d (.lf (.b _))=>.lf .b|.d (.lf (.s _))=>.lf .s|.d (.lf (.l c _))=>.lf (.l c)|.own c _ l=>.own c l|.ptr o off=>.ptr o off|.fn f cs=>.fn f cs|.ref o=>.ref o|_=>.ptr 0 0
def qio:List (TL S)->TV S|[v]=>.fl v|vs=>.tup vs
def CSem(T:TEn)(f:FuncId)(vs:List (TL T.S))(hs:THeap T.S)(o:OSpec T.S)(x:o.Out):Prop:=∃m,call T.E m f (vs.map TL.toA) (heapA hs)=some (q11 ((resOf o x).map TL.toA),heapA (q2u o x))
open Classical in
noncomputable def callC (T : TEn) (f : FuncId) (vs : List (TL T.S)) (hs : THeap T.S) (o : OSpec T.S) : Option o.Out :=
 if h : ∃ x, CSem T f vs hs o x then some h.choose else none
def ptrsT:TL S->List Nat|.ptr o _=>[o]|.ref o=>[o]|.fn _ cs=>cs.map (·.1)|_=>[]
def qjo:TV S->List Nat|.agg cs=>cs.flatMap ptrsT|.tup cs=>cs.flatMap ptrsT|.fl (.loc (.cell o _))=>[o]|.fl (.elt (.cell o _) _ _)=>[o]|.fl (.seg (.cell o _) _ _)=>[o]|.fl v=>ptrsT v
def dropT(m:Nat):TEnv S->TEnv S|[]=>[]|(k,v)::r=>if(qjo v).all (fun o=>decide (o<m))then(k,v)::dropT m r else qbq (dropT m r) k
def q6y(m:Nat)(h:THeap S):Bool:=(h.take m).all fun cs=>cs.all fun c=>(ptrsT c).all fun o=>decide (o<m)
def trimT(m:Nat)(s:TSt S):TSt S:=if q6y m s.heap then{env:=dropT m s.env,heap:=s.heap.take m}else s
def renT(ρ:Nat->Nat):TL S->TL S|.ptr o a=>.ptr (ρ o) a|.ref o=>.ref (ρ o)|.fn f cs=>.fn f (cs.map fun(o,a)=>(ρ o,a))|v=>v
def qy7(ρ:Nat->Nat):TV S->TV S|.agg cs=>.agg (cs.map (renT ρ))|.tup cs=>.tup (cs.map (renT ρ))|.fl v=>.fl (renT ρ v)
def qud(ρ:Nat->Nat)(e:TEnv S):TEnv S:=e.map fun p=>(p.1,qy7 ρ p.2)
def qpj(s:TSt S)(o:Nat):Bool:=(s.env.all fun p=>!(qjo p.2).contains o)&&s.heap.all fun cs=>cs.all fun c=>!(ptrsT c).contains o
def qgi(o' o0:Nat)(s:TSt S):TSt S:={env:=qud (ρm o' o0) (killT s.env),heap:=((s.heap.set o0 (s.heap.getD o' [])).take o').map fun cs=>cs.map (renT (ρm o' o0))}
def y3s(o:Nat):TV S->Bool|.fl (.ptr o' _)=>o'==o|_=>false
def qbe(k:Nat)(s:TSt S):Nat->Option Nat|0=>none|m+1=>if k<=m/\qpj s m=true/\(s.heap.getD m []).length=(s.heap.getD (s.heap.length-1) []).length then some m else qbe k s m
def qo4(k m:Nat):Nat->TSt S->TSt S|0,s=>s|n+1,s=>if m<s.heap.length/\(s.env.any fun p=>y3s (s.heap.length-1) p.2)=true then match qbe k s m with|some o0=>qo4 k m n (qgi (s.heap.length-1) o0 s)|none=>s else s
def qjw(k m:Nat)(s:TSt S):TSt S:=trimT m (qo4 k m 3 s)
inductive Fr where|seq(b:Code)|block(id m:Nat)|loop(b:Code)(m:Nat)
noncomputable def unw(E:Env0)(f:FuncId)(k n:Nat):List Fr->Ex->St->Option (Ex×St)
 |[],ex,s=>some (ex,s)|.seq b::K,.normal,s=>match exec E f k n b s with|some (ex,s1)=>unw E f k n K ex s1|none=>none
 |.seq _::K,ex,s=>unw E f k n K ex s|.block id m::K,.exit id',s=>if id'=id then unw E f k n K .normal (trim m s)else unw E f k n K (.exit id') s|.block _ m::K,.normal,s=>unw E f k n K .normal (trim m s)|.block _ _::K,.ret,s=>unw E f k n K .ret s|.loop b m::K,.normal,s=>match exec E f k n (.loop b) (endRound k m s)with|some (ex,s1)=>unw E f k n K ex s1|none=>none
 |.loop _ _::K,ex,s=>unw E f k n K ex s
def fin(own:Bool)(P:Program)(fn:Func)(k:Nat):Ex->St->Option (AV×Heap)|.normal,s|.ret,s=>qbl own P fn k s|_,_=>none
structure Fx where
 f:FuncId
 fn:Func
 k:Nat
def Goes(E:Env0)(F:Fx)(c:Code)(K:List Fr)(s:St)(q:AV×Heap):Prop:=∃n ex s1 ex' s2,exec E F.f F.k n c s=some (ex,s1)/\unw E F.f F.k n K ex s1=some (ex',s2)/\fin (E.an.own F.f) E.P F.fn F.k ex' s2=some q
def BSem(T:TEn)(F:Fx)(o:OSpec T.S)(c:Code)(K:List Fr)(s:TSt T.S)(x:o.Out):Prop:=Goes T.E F c K s.toS (q11 ((resOf o x).map TL.toA),heapA (q2u o x))
open Classical in
noncomputable def goC (T : TEn) (F : Fx) (o : OSpec T.S) (c : Code) (K : List Fr) (s : TSt T.S) : Option o.Out :=
 if h : ∃ x, BSem T F o c K s x then some h.choose else none
def qeb(h:THeap S):List Nat->Option (THeap S)|[]=>some []|o::r=>match h[o]?,qeb h r with|some cs,some hs=>some (cs::hs)|_,_=>none
def argT(T:TEn)(s:TSt T.S)(t:TypeId)(x:Operand):Option (TL T.S):=match evT T s t x with|.fl (.ptr o a)=>some (.ptr o a)|.fl (.fn f cs)=>some (.fn f cs)|.fl (.view cs)=>some (.view cs)|.fl (.ref o)=>some (.ref o)|_=>match q2b T s t x with|some x=>some (.d x)|none=>none
def argsT(T:TEn)(s:TSt T.S):List TypeId->List Operand->Option (List (TL T.S))|_,[]=>some []|ts,x::r=>match argT T s (ts.headD 0) x,argsT T s ts.tail r with|some v,some vs=>some (v::vs)|_,_=>none
def outT:TV S->Option (TL S)|.fl (.ptr o a)=>some (.ptr o a)|.fl (.ref o)=>some (.ref o)|.fl (.fn f cs)=>some (.fn f cs)|v=>match qkk v with|some x=>some (.d x)|none=>none
def qun(P:Program)(s:TSt S):ResultVar->Option (TL S)|.tmp t=>outT (getT s.env t)|.cell a t=>match getT s.env a with
  |.fl (.ptr o off)=>match tyAgg P t,q0p P t,s.heap[o]? with
   |some true,some n,some cs=>if off+n<=cs.length then match q4k ((cs.drop off).take n)with|some ds=>some (.d (.ag ds))|none=>none else none|some false,_,some cs=>match cs[off]? with|some v=>outT (.fl v)|none=>none
   |_,_,_=>none
  |_=>none
def qer(P:Program)(s:TSt S):List ResultVar->Option (List (TL S))|[]=>some []|x::r=>match qun P s x,qer P s r with|some v,some vs=>some (v::vs)|_,_=>none
def y3g(s:TSt S)(k:Nat):ResultVar->Bool|.tmp _=>true|.cell a _=>match getT s.env a with|.fl (.ptr o _)=>decide (k<=o)|_=>false
def y34:List (TL S)->Bool|[.ref _,.ref _]=>true|_=>false
def y4l(P:Program)(F:Fx)(o:OSpec S)(s:TSt S):Option o.Out:=match qer P s F.fn.results.toList with|none=>none|some vs=>if y34 vs then none else if((vs.flatMap ptrsT)++((s.heap.take F.k).flatMap fun cs=>cs.flatMap ptrsT)).all (fun o=>decide (o<F.k))then if(F.fn.results.toList.all (y3g s F.k)&&decide (F.k<=s.heap.length))=true/\vs.length=o.res.length/\(s.heap.take F.k).map List.length=o.heap.map List.length then qfo o.all (vs++(s.heap.take F.k).flatten)else none else if(F.fn.results.toList.all qfd&&((vs.flatMap ptrsT)++(s.heap.flatMap fun cs=>cs.flatMap ptrsT)).all (fun o=>decide (o<s.heap.length)))=true/\vs.length=o.res.length/\s.heap.map List.length=o.heap.map List.length then qfo o.all (vs++s.heap.flatten)else none
def qtv(P:Program)(F:Fx)(o:OSpec S)(s:TSt S):Option o.Out:=match F.fn.results.toList with
 |[.tmp t]=>match getT s.env t with|.fl (.own c xs false)=>if(q6y F.k s.heap&&decide (F.k<=s.heap.length))=true/\[TL.ref (S:=S) F.k].length=o.res.length/\(s.heap.take F.k++[[TL.own c xs false]]).map List.length=o.heap.map List.length then qfo o.all ([TL.ref F.k]++(s.heap.take F.k++[[TL.own c xs false]]).flatten)else none|_=>none
 |[.cell a t]=>match getT s.env a,tyAgg P t,q0p P t with
  |.fl (.ptr p 0),some true,some 1=>match cellT s.heap p 0 with|.own c xs false=>if(q6y F.k s.heap&&decide (F.k<=p)&&decide (F.k<=s.heap.length))=true/\[TL.ref (S:=S) F.k,TL.ref F.k].length=o.res.length/\(s.heap.take F.k++[[TL.own c xs false]]).map List.length=o.heap.map List.length then qfo o.all ([TL.ref F.k,TL.ref F.k]++(s.heap.take F.k++[[TL.own c xs false]]).flatten)else none|_=>none
  |_,_,_=>none
 |_=>none
def qgy(own:Bool)(P:Program)(F:Fx)(o:OSpec S)(s:TSt S):Option o.Out:=if own then qtv P F o s else y4l P F o s
def qmm(keep:Bool)(k:Nat)(v:TV S)(h:THeap S):TV S×THeap S:=match v with|.fl (.ref o)=>if decide (o=k)&&q6y k h then match h.drop k with|[[.own c xs false]]=>(.fl (if keep then .own c xs false else .d (.lf (.l c xs))),h.take k)|_=>(v,h)else(v,h)|.tup [.ref o,.ref _]=>if decide (o=k)&&q6y k h then match h.drop k with|[[.own c xs false]]=>(if keep then .agg [.own c xs false]else .fl (.d (.ag [.l c xs])),h.take k)|_=>(.fl .undef,h)else(.fl .undef,h)|v=>(v,h)
def qcb(h:THeap S):List Nat->THeap S->THeap S|o::os,cs::r=>qcb (h.set o cs) os r|_,_=>h
def qu2(s:TSt S)(objs:List Nat)(h':THeap S):TSt S:={env:=q8r objs s.env,heap:=qcb s.heap objs (h'.map fun cs=>cs.map (renT (q16 objs s.heap.length)))++(h'.drop objs.length).map fun cs=>cs.map (renT (q16 objs s.heap.length))}
def y5c(ρ:Nat->Nat):TV S->TV S|.tup us=>.tup (us.map (renT ρ))|.fl v=>.fl (renT ρ v)|v=>v
def yf0(T:TEn)(h:FuncId)(hs:THeap T.S):OSpec T.S:={res:=if T.E.an.own h then(match T.res h with|[_,_]=>[.ref hs.length,.ref hs.length]|_=>[.ref hs.length])else T.res h,heap:=match T.outs h with|some os=>os++T.news h|none=>hs.map (fun cs=>cs.map yj2)++T.news h}
noncomputable def callT(T:TEn)(r:Rule)(h:FuncId)(vs:List (TL T.S))(dst:Option Nat)(s:TSt T.S)(k:TSt T.S->Option β):Option β:=match reach (heapA s.heap) (s.heap.length+1) (q4t [] (vs.flatMap ptrsT))with|none=>none|some objs=>if !r.draws||objs.all (fun o=>!above r.mode o)then match qeb s.heap objs with
   |some hs=>match callC T h (vs.map (renT (objs.idxOf ·))) (hs.map fun cs=>cs.map (renT (objs.idxOf ·))) (yf0 T h (hs.map fun cs=>cs.map (renT (objs.idxOf ·))))with|some x=>if r.draws&&decide (objs.length<(qmm r.keep objs.length (qio (resOf _ x)) (q2u _ x)).2.length)then none else k (TSt.put (qu2 s objs (qmm r.keep objs.length (qio (resOf _ x)) (q2u _ x)).2) dst (y5c (q16 objs s.heap.length) (qmm r.keep objs.length (qio (resOf _ x)) (q2u _ x)).1))|none=>none
   |none=>none else none
def q7d(s:TSt S):Operand->Option (Nat×TL S)
 |.tmp u=>match getT s.env u with
  |.fl (.own c xs false)=>some (u,.own c xs false)|.fl (.loc (.slot t))=>match getT s.env t with|.fl (.own c xs false)=>some (t,.own c xs false)|_=>none
  |_=>none
 |_=>none
def q6j(s:TSt S):Operand->Option (Nat×Nat×Nat×TL S)
 |.tmp u=>match getT s.env u with
  |.fl (.loc (.cell o off))=>match cellT s.heap o off with|.own c xs false=>some (u,o,off,.own c xs false)|_=>none
  |_=>none
 |_=>none
def qe2(s:TSt S):Operand->Bool
 |.tmp u=>match getT s.env u with|.fl (.loc (.cell _ _))=>true|_=>false
 |_=>false
def qke(T:TEn)(s:TSt T.S)(t:TypeId)(x:Operand):Option (TL T.S×TSt T.S×List (Nat×Nat)):=match q7d s x with|some (u,v)=>some (.ref s.heap.length,{env:=putT s.env u (.fl .undef),heap:=s.heap++[[v]]},[(s.heap.length,u)])|none=>match q6j s x with|some (u,o,off,v)=>some (.ref s.heap.length,{env:=killT s.env,heap:=qcc s.heap o off .undef++[[v]]},[(s.heap.length,u)])|none=>match argT T s t x with|some v=>some (v,s,[])|none=>none
def q6o(T:TEn)(s:TSt T.S):List TypeId->List Operand->Option (List (TL T.S)×TSt T.S×List (Nat×Nat))|_,[]=>some ([],s,[])|ts,x::r=>match qke T s (ts.headD 0) x with
  |some (v,s1,l)=>match q6o T s1 ts.tail r with|some (vs,s2,l')=>some (v::vs,s2,l++l')|none=>none
  |none=>none
def qc4(s:TSt S)(l:List Operand):Bool:=l.any fun x=>(q7d s x).isSome||qe2 s x
def qwd(o:Nat):TV S->Bool|.fl (.ref o')=>o'==o|_=>false
def qtd(dst:Option Nat)(o t:Nat)(s:TSt S):Option Nat:=match dst with|some d=>if qwd o (getT s.env d)then some d else if d=t then none else some t|none=>some t
def qdz(dst:Option Nat)(o t:Nat)(s:TSt S):Option (TSt S):=match s.heap[o]?,qtd dst o t s with|some [.own c xs false],some d=>if s.heap.length=o+1/\q6y o s.heap=true then some {env:=putT (dropT o (killT s.env)) d (.fl (.own c xs false)),heap:=s.heap.take o}else none|some [.undef],_=>if s.heap.length=o+1/\q6y o s.heap=true then some {env:=dropT o s.env,heap:=s.heap.take o}else none|_,_=>none
def qcq(dst:Option Nat):List (Nat×Nat)->TSt S->Option (TSt S)|[],s=>some s|(o,t)::r,s=>match qcq dst r s with|some s1=>qdz dst o t s1|none=>none
noncomputable def doOpT(T:TEn)(F:Fx)(r:Rule)(ops:Array Oper)(o:Oper)(s:TSt T.S)(k:TSt T.S->Option β):Option β:=match o.op with
 |.store t a x=>if o.dst.isNone&&qc9 T.E (qbx r ops o) s.toS a then y61 T t a x s k else none|.call {callee:=.value g,args,argTypes}=>if qc4 s args.toList then if r.draws then none else match evT T s 0 g,q6o T s argTypes.toList args.toList with
   |.fl (.fn h caps),some (vs,s1,l)=>callT T (q5q T.E.an F.f r o) h (vs++caps.map fun(o,a)=>.ptr o a) o.dst s1 fun s2=>match qcq o.dst l s2 with|some s3=>k s3|none=>none
   |_,_=>none else match evT T s 0 g,argsT T s argTypes.toList args.toList with|.fl (.fn h caps),some vs=>callT T (q5q T.E.an F.f r o) h (vs++caps.map fun(o,a)=>.ptr o a) o.dst s k|_,_=>none
 |op=>if q5e T.E (q9d r ops o) s.toS op then stepT T (T.E.an.flag F.f (o.dst.getD 0)) (r.draws&&!q4m ops op) o.type op s fun v s1=>match keepT (T.E.an.flag F.f (o.dst.getD 0)) v with|some w=>k ((s1.del (q84 op)).put o.dst w)|none=>none else none
noncomputable def opT(T:TEn)(F:Fx)(r:Rule)(ops:Array Oper)(o:Oper)(s:TSt T.S)(k:TSt T.S->Option β):Option β:=match o.guard with|none=>doOpT T F r ops o s k|some (j,want)=>match(ops[j]?).bind (·.dst)with|none=>none|some t=>match getT s.env t with
   |.fl (.d (.lf (.b b)))=>match b with|true=>if want then doOpT T F r ops o {s with env:=replT s.env t (.fl (.d (.lf (.b true))))} k else k (TSt.put {s with env:=replT s.env t (.fl (.d (.lf (.b true))))} o.dst (.fl .skipped))|false=>if want then k (TSt.put {s with env:=replT s.env t (.fl (.d (.lf (.b false))))} o.dst (.fl .skipped))else doOpT T F r ops o {s with env:=replT s.env t (.fl (.d (.lf (.b false))))} k
   |.fl .skipped=>k (s.put o.dst (.fl .skipped))|_=>none
noncomputable def opsT(T:TEn)(F:Fx)(r:Rule)(ops:Array Oper):List Oper->TSt T.S->(TSt T.S->Option β)->Option β|[],s,k=>k s|o::rest,s,k=>opT T F r ops o s fun s1=>opsT T F r ops rest s1 k
def takeT(T:TEn)(F:Fx)(o:Oper)(s:TSt T.S):Option (TSt T.S):=match o.op,o.guard,o.dst with
 |.load t (.tmp r),none,some d=>if T.E.an.flag F.f d=.keep then match tyAgg T.E.P t,q0p T.E.P t,getT s.env r with
   |some true,some 1,.fl (.ptr p off)=>match cellT s.heap p off with|.own c xs false=>some ((qat s (.cell p off) .undef).put (some d) (.agg [.own c xs false]))|_=>none
   |_,_,_=>none else none|_,_,_=>none
def headT(T:TEn)(F:Fx)(ops:Array Oper)(s:TSt T.S):List Oper×TSt T.S:=match ops.toList with|[]=>([],s)|o::l=>match takeT T F o s with|some s1=>(l,s1)|none=>(o::l,s)
def ycj:Code->Option Nat|.region id _ _=>some id|.seq a _=>ycj a|_=>none
def cutAt(T:TEn)(f:FuncId)(c:Code):Bool:=match ycj c with|some id=>T.cut f id|none=>false
def replO(s:TSt S)(x:Operand)(v:TV S):TSt S:=match x with|.tmp t=>{s with env:=replT s.env t v}|_=>s
open Classical in
mutual
noncomputable def te (T : TEn) (F : Fx) (o : OSpec T.S) : Nat -> Code -> List Fr -> TSt T.S -> Option o.Out
 | 0, c, K, s => goC T F o c K s
 | n + 1, c, K, s => match c with
  | .skip => teK T F o n .normal K s
  | .label _ => teK T F o n .normal K s
  | .region id ops draw => match draw with
   | true => match T.E.an.order F.f id with
    | [l] => if qhk T.E.an F.f ops s.toS = false then none else opsT T F { draws := true, mode := T.E.an.mode F.f id } ops (q1x ops l) s fun s1 => teK T F o n .normal K { s1 with env := qr2 s1.env (T.E.an.clear F.f id) }
    | _ => none
   | false => opsT T F { draws := false, mode := T.E.an.mode F.f id } ops (headT T F ops s).1 (headT T F ops s).2 fun s1 => teK T F o n .normal K { s1 with env := qr2 s1.env (T.E.an.clear F.f id) }
  | .seq a b => te T F o n a (.seq b :: K) s
  | .cond x a b => match evT T s 0 x with
   | .fl (.d (.lf (.b t))) => match t with
    | true => te T F o n a K (replO s x (.fl (.d (.lf (.b true)))))
    | false => te T F o n b K (replO s x (.fl (.d (.lf (.b false)))))
   | _ => none
  | .block id b => te T F o n b (.block id s.heap.length :: K) s
  | .loop b => goC T F o (.loop b) K s
  | .exit id => teK T F o n (.exit id) K s
  | .ret => qgy (T.E.an.own F.f) T.E.P F o s
  | _ => none
termination_by structural n => n
noncomputable def teK (T : TEn) (F : Fx) (o : OSpec T.S) : Nat -> Ex -> List Fr -> TSt T.S -> Option o.Out
 | 0, _, _, _ => none
 | n + 1, ex, K, s => match ex, K with
  | .ret, _ => qgy (T.E.an.own F.f) T.E.P F o s
  | .normal, [] => qgy (T.E.an.own F.f) T.E.P F o s
  | .normal, .seq b :: K => if cutAt T F.f b then goC T F o b K s else te T F o n b K s
  | .normal, .block _ m :: K => teK T F o n .normal K (trimT m s)
  | .normal, .loop b m :: K => goC T F o (.loop b) K (qjw F.k m s)
  | .exit id, .seq _ :: K => teK T F o n (.exit id) K s
  | .exit id, .block id' m :: K => if id = id' then teK T F o n .normal K (trimT m s) else teK T F o n (.exit id) K s
  | .exit id, .loop _ _ :: K => teK T F o n (.exit id) K s
  | .exit _, [] => none
termination_by structural n => n
end
end Go.Ab

namespace Go.Ab
variable {S : Sig} {β : Type}
theorem qhl(x:Leaf S.TC S.Ty):(leafD x).isAgg=false:=by cases x<;>rfl
theorem qua(x:Leaf S.TC S.Ty):(leafD x).cells=[leafD x]:=by cases x<;>rfl
theorem q2y(e:TEnv S)(t:Nat):get (envA e) t=(getT e t).toA:=by induction e with|nil=>rfl|cons p r ih=>obtain⟨k,v⟩:=p;simp only[envA,List.map_cons,get,getT]at ih⊢;grind
theorem qj6(e:TEnv S)(t:Nat)(v:TV S):setE (envA e) t v.toA=envA (setT e t v):=by induction e with|nil=>rfl|cons p r ih=>obtain⟨k,u⟩:=p;simp only[envA,List.map_cons,setE,setT]at ih⊢;grind
theorem q5l(e:TEnv S)(t:Nat):q71 (envA e) t=envA (qbq e t):=by induction e with|nil=>rfl|cons p r ih=>obtain⟨k,u⟩:=p;simp only[envA,List.map_cons,q71,qbq]at ih⊢;grind
theorem qja(l:List Nat):∀(e:TEnv S),q8v (envA e) l=envA (qr2 e l):=by induction l with|nil=>intro e;rfl|cons t r ih=>intro e;simp only[q8v,qr2,q5l,ih]
theorem qmc(v:TV S):v.toA.placed=v.placed:=by cases v with|fl x=>cases x<;>rfl|_=>rfl
theorem qf9(v:TV S):v.toA.isOwn=v.isOwn:=by cases v with|fl x=>cases x<;>rfl|_=>rfl
theorem y4h(v:TL S):v.toA.isOwn=v.isOwn:=by cases v<;>rfl
theorem qff(e:TEnv S):q0y (envA e)=envA (killT e):=by induction e with|nil=>rfl|cons p r ih=>
  obtain⟨k,u⟩:=p;simp only[envA,List.map_cons,q0y,killT,qmc]at ih⊢;split;·rw[ih];exact q5l _ _
  simp_all
theorem y7g(objs:List Nat)(v:TV S):hits objs v.toA=hitsT objs v:=by simp only[hits,hitsT,qmc];congr 1;cases v with
 |fl x=>cases x with|loc p=>cases p<;>rfl|elt p i off=>cases p<;>rfl|seg p i off=>cases p<;>rfl|_=>rfl
 |_=>rfl
theorem qhc(objs:List Nat)(e:TEnv S):q1f objs (envA e)=envA (q8r objs e):=by induction e with|nil=>rfl|cons p r ih=>
  obtain⟨k,u⟩:=p;simp only[envA,List.map_cons,q1f,q8r,y7g]at ih⊢;split;·rw[ih];exact q5l _ _
  simp_all
theorem qzn(t:Nat)(v:TV S):v.toA.sitsAt t=v.sitsAt t:=by cases v with
 |fl x=>cases x with|loc p=>cases p<;>rfl|elt p i off=>cases p<;>rfl|seg p i off=>cases p<;>rfl|_=>rfl
 |_=>rfl
theorem qda(t:Nat)(e:TEnv S):qa5 t (envA e)=envA (q9p t e):=by induction e with|nil=>rfl|cons p r ih=>
  obtain⟨k,u⟩:=p;simp only[envA,List.map_cons,qa5,q9p,qzn]at ih⊢;split;·rw[ih];exact q5l _ _
  simp_all
theorem qse:∀{e:TEnv S}{t:Nat}{v:TV S},getT e t=v->replT e t v=e
 |[],_,_,_=>rfl|(k,u)::r,t,v,h=>by
  simp only[getT]at h;simp only[replT];split;·simp_all
  .rename_i hk;rw[if_neg hk]at h;rw[qse h]
theorem qbr(e:TEnv S)(t:Nat)(v:TV S):putE (envA e) t v.toA=envA (putT e t v):=by
 have key:setE (if(get (envA e) t).isOwn then qa5 t (envA e)else envA e) t v.toA=envA (setT (if(getT e t).isOwn then q9p t e else e) t v):=by rw[q2y,qf9,qda];split<;>exact qj6 _ _ _
 have key2:q71 (if(get (envA e) t).isOwn then qa5 t (envA e)else envA e) t=envA (qbq (if(getT e t).isOwn then q9p t e else e) t):=by rw[q2y,qf9,qda];split<;>exact q5l _ _
 cases v with
 |fl x=>cases x with|undef=>exact key2|own c xs l=>simp only[TV.toA,TL.toA,putE,putT,qda];exact qj6 _ _ (.fl (.own c xs l))|_=>exact key
 |agg cs=>exact key|tup vs=>exact key
theorem qgf(s:TSt S)(dst:Option Nat)(v:TV S):s.toS.put dst v.toA=(s.put dst v).toS:=by cases dst with|none=>rfl|some t=>simp only[St.put,TSt.put,TSt.toS,qbr]
theorem qtm(l:List Nat):∀(s:TSt S),s.toS.del l=(s.del l).toS:=by induction l with|nil=>intro s;rfl|cons t r ih=>
  intro s;simp only[St.del,TSt.del];have:({s.toS with env:=putE s.toS.env t .undef}:St)=({s with env:=putT s.env t (.fl .undef)}:TSt S).toS:=by simp only[TSt.toS];rw[show AV.undef=(TV.fl (.undef:TL S)).toA from rfl,qbr]
  simp_all
theorem qe6{c:Option S.TC}{v:Value}{x:TL S}(h:qe4 c v=some x):q0l v=x.toA:=by
 unfold qe4 at h;split at h;·cases c with|none=>cases h|some c=>cases h;rfl
 all_goals first|cases h|skip
 all_goals first|rfl|skip
 rename_i h1 h2 h3 h4 h5 h6 h7 h8 h9 h10 h11 h12;unfold q0l;split;·simp_all
 all_goals first|rfl|skip
 all_goals grind
theorem qde{vs:List Value}:∀{cs:List (Option S.TC)}{xs:List (TL S)},qdp cs vs=some xs->vs.map q0l=xs.map TL.toA:=by induction vs with|nil=>intro cs xs h;simp only[qdp,sI]at h;simp_all|cons v r ih=>
  intro cs xs h;simp only[qdp]at h;split at h;·rename_i x ys h1 h2;cases h;simp only[List.map_cons,qe6 h1,ih h2]
  grind
theorem qdn{cs:List (Option S.TC)}{v:Value}(h:qg0 cs v≠.fl .undef):q15 v=(qg0 cs v).toA:=by
 unfold qg0 at h⊢;split at h
 .split at h;·rename_i xs hx;simp only[q15,TV.toA,qde hx]
  simp_all
 .rename_i hna;split at h
  .rename_i x hx;have:q15 v=q0l v:=by cases v<;>first|rfl|exact absurd rfl (hna _)
   simp only[this,TV.toA,qe6 hx]
  simp_all
theorem qm4{cs:List (Option S.TC)}{v:Value}{xs:List (TL S)}(h:qcj cs v=some xs):(q15 v).cells=xs.map TL.toA:=by
 unfold qcj at h;split at h;·simp only[q15,AV.cells,qde h]
 .rename_i hna;split at h
  .rename_i x hx;cases h;have:q15 v=q0l v:=by cases v<;>first|rfl|exact absurd rfl (hna _)
   rw[this,qe6 hx];have:∀y:TL S,qe4 (cs.headD none) v=some y->y.toA.cells=[y.toA]:=by
    intro y hy;unfold qe4 at hy;split at hy
    .split at hy;·cases hy;rfl
     .cases hy
    all_goals first|cases hy;rfl|cases hy
   rw[this x hx];rfl
  grind
theorem qs5(v:TV S)(h:q69 v=some v):v.toA.cells=v.cells.map TL.toA:=by cases v with
 |fl x=>cases x with
  |d y=>cases y with|lf z=>cases z<;>rfl|ag cs=>simp[TV.toA,TL.toA,PD.toD,AV.cells,TV.cells,List.map_map,Function.comp_def]
  |_=>rfl
 |agg cs=>rfl|tup vs=>cases h
theorem qvg{x:TL S}{y:Leaf S.TC S.Ty}(h:qnw x=some y):q0e x.toA=some (leafD y):=by unfold qnw at h;split at h<;>first|cases h;rfl|cases h
theorem q3z:∀{l:List (TL S)}{ds:List (Leaf S.TC S.Ty)},q4k l=some ds->q14 (l.map TL.toA)=some (ds.map leafD)
 |[],ds,h=>by simp only[q4k,sI]at h;subst h;rfl|c::r,ds,h=>by
  simp only[q4k]at h;split at h;·rename_i x xs h1 h2;cases h;simp only[List.map_cons,q14,qvg h1,q3z h2]
  grind
theorem qdl{v:TV S}{p:PD S}(h:qkk v=some p):q4h v.toA=some p.toD:=by
 unfold qkk at h;split at h
 .split at h;·rename_i ds hd;cases h;simp only[TV.toA,q4h,q3z hd,mS,PD.toD]
  .cases h
 .cases h;rename_i x;cases p with|lf z=>cases z<;>rfl|ag cs=>rfl
 .cases h;rfl
 grind
theorem qdq:∀(l:List (TL S)),q5n (l.map TL.toA)=qfr l|[]=>rfl|c::r=>by cases c<;>simp[q5n,qfr,TL.toA,qdq r]
theorem qfb:∀{l:List (TL S)},q4k l=none->l.all TL.noAg=true->q14 (l.map TL.toA)=none|[],h,_=>by cases h|c::r,h,ha=>by simp only[List.all_cons,aT]at ha;simp only[List.map_cons,q14];cases hc:qnw c with
  |none=>
   have:q0e c.toA=none:=by cases c with
    |d x=>cases x with|lf y=>cases hc|ag cs=>cases ha.1
    |own _ _ _=>cases hc|_=>rfl
   grind|some x=>cases hr:q4k r with|none=>rw[qfb hr ha.2];cases q0e c.toA<;>rfl|some xs=>simp[q4k,hc,hr]at h
theorem y6q{fl:Flag}{v w:TV S}(h:keepT fl v=some w):q57 fl v.toA=w.toA:=by
 unfold keepT at h;split at h;·cases h;rfl
 .rename_i cs;simp only[TV.toA,q57];split at h;·rename_i ds hd;cases h;rw[q3z hd];rfl
  .rename_i hd;split at h;·rename_i ha;cases h;rw[qfb hd ha]
   grind
 .rename_i h1 h2;cases h;cases fl with|keep=>rfl|view=>cases v with
   |fl x=>cases x<;>first|rfl|grind|(exfalso;simp_all;done)
   |agg cs=>simp_all|tup vs=>rfl
theorem q4v(h:THeap S)(o off:Nat):q0v (heapA h) o off=(cellT h o off).toA:=by simp only[q0v,cellT,heapA,List.getElem?_map];cases h[o]? with|none=>rfl|some cs=>simp only[mS,List.getElem?_map];cases cs[off]?<;>rfl
theorem qdm(h:THeap S)(o off:Nat)(v:TL S):q18 (heapA h) o off v.toA=heapA (qcc h o off v):=by simp only[q18,qcc,heapA,List.getElem?_map];cases h[o]? with|none=>rfl|some cs=>simp
theorem q1q(s:TSt S)(p:Place):content s.toS p=(q2j s p).toA:=by cases p with|slot t=>exact q2y _ _|cell o off=>exact q4v _ _ _
theorem qha(s:TSt S)(p:Place)(v:TL S):setPlace s.toS p v.toA=(qat s p v).toS:=by cases p with|slot t=>simp only[setPlace,qat,TSt.toS];rw[<-qbr];rfl|cell o off=>simp only[setPlace,qat,TSt.toS,qff,qdm]
theorem q6h(s:TSt S)(p:Place)(v:TL S):lendPlace s.toS p v.toA=(q5f s p v).toS:=by cases p with|slot t=>simp only[lendPlace,q5f,TSt.toS];rw[<-qj6];rfl|cell o off=>simp only[lendPlace,q5f,TSt.toS,qdm]
theorem qi6:∀(n:Nat)(s:TSt S)(o off:Nat),lendFrom s.toS o off n=(qfg s o off n).toS|0,_,_,_=>rfl|n+1,s,o,off=>by simp only[lendFrom,qfg];rw[show q0v s.toS.heap o off=(cellT s.heap o off).toA from q4v _ _ _];rw[<-qi6 n];cases cellT s.heap o off with
  |own c xs l=>cases l with|false=>exact congrArg (fun z=>lendFrom z o (off+1) n) (q6h s (.cell o off) (.own c xs true))|true=>rfl
  |_=>rfl
variable {T : TEn}
theorem q62{s:TSt T.S}{t:TypeId}{x:Operand}(h:evT T s t x≠.fl .undef):ev T.E s.toS x=(evT T s t x).toA:=by cases x with|tmp u=>exact q2y _ _|const v=>exact qdn h|global g=>exact absurd rfl h|func f=>rfl
theorem y03{v:TV S}{p:PD S}(h:y41 v=some p):v=.fl (.d p):=by unfold y41 at h;grind
theorem q3d{s:TSt T.S}{t:TypeId}{x:Operand}{v:TV T.S}(h:evT T s t x=v)(hv:v≠.fl .undef):ev T.E s.toS x=v.toA:=by subst h;exact q62 hv
theorem q0s{s:TSt T.S}{t:TypeId}{x:Operand}{p:PD T.S}(h:q2b T s t x=some p):plainC T.E s.toS x=some p.toD:=by cases x with|const v=>simp only[q2b]at h;simp only[plainC];rw[qdn (by intro hh;rw[hh]at h;cases h)];exact qdl h|_=>simp only[q2b]at h;have:=y03 h;simp only[plainC];rw[q3d this (by simp)];rfl
theorem qhx {s : TSt T.S} {t : TypeId} : ∀ {l : List Operand} {ps : List (PD T.S)}, qfh T s t l = some ps -> plainsC T.E s.toS l = some (ps.map PD.toD)
 | [], ps, h => by simp only [qfh, sI] at h; subst h; rfl
 | x :: r, ps, h => by
  simp only [qfh] at h;split at h
  .rename_i a as h1 h2;cases h;simp only [plainsC, q0s h1, qhx h2, List.map_cons]
  grind
theorem qbc {v w : TV S} (h : q69 v = some w) : w = v /\ q39 v.toA = some v.toA /\ v ≠ .fl .undef := by
 cases v with
 | fl x => cases x with
  | d y => cases h; exact ⟨rfl, rfl, by simp⟩
  | _ => first | (cases h; done) | (cases h; exact ⟨rfl, rfl, by simp⟩)
 | agg cs => cases h; exact ⟨rfl, rfl, by simp⟩
 | tup vs => cases h
theorem ql9{v w:TV S}(h:y3q v=some w):w=v/\y68 v.toA=some v.toA/\v≠.fl .undef:=by cases v with
 |fl x=>cases x with|d y=>cases h;exact⟨rfl,rfl,by simp⟩|_=>first|(cases h;done)|(cases h;exact⟨rfl,rfl,by simp⟩)
 |agg cs=>cases h;exact⟨rfl,rfl,by simp⟩|tup vs=>cases h
theorem qd1{fl:Flag}{q:Bool}{s s1:TSt S}{p:Place}{v:TV S}(h:qcd fl q s p=some (v,s1)):readPlace fl q s.toS p=some (v.toA,s1.toS):=by
 unfold qcd at h;unfold readPlace;rw[q1q];split at h;·rename_i c xs l hc;rw[hc];cases fl with|keep=>simp only[sI,pI]at h;obtain⟨rfl,rfl⟩:=h;rfl|view=>
   simp only[TV.toA,TL.toA];simp only at h;split at h;·rename_i hl;cases h;rw[if_pos hl];rfl
   .rename_i hl;rw[if_neg hl];split at h;·cases h
    .rename_i hq;cases h;rw[if_neg hq];simp only[sI,pI];exact⟨rfl,q6h s p (.own c xs true)⟩
 all_goals first|(cases h;done)|skip
 rename_i h1 h2 h3 h4 h6;cases h;generalize q2j s p=w at*;cases w with
 |fl x=>cases x<;>first|rfl|grind|simp_all
 |agg cs=>simp_all|tup vs=>rfl
end Go.Ab

namespace Go.Ab
variable {S : Sig} {β : Type} {T : TEn} {P : Program}
theorem q7a(hS:S.Ok P)(c:S.TC)(x:S.Ty c):(S.enc c x).cells=(S.cells c x).map leafD:=by rw[hS.enc_eq];have hl:=hS.len c x;have hp:=hS.pos c;unfold packT;cases hg:S.agg c with|true=>rfl|false=>have h1:=hS.one c hg;match hcs:S.cells c x,hl with|[],hl=>rfl|[y],_=>simp only[fT,if_false,PD.toD,qua,List.map_cons,List.map_nil]|y::z::r,hl=>simp_all
theorem y3p(hS:S.Ok P)(c:S.TC)(x:S.Ty c):(S.enc c x).isAgg=S.agg c:=by rw[hS.enc_eq];have hl:=hS.len c x;have hp:=hS.pos c;unfold packT;cases hg:S.agg c with|true=>rfl|false=>match hcs:S.cells c x,hl with|[],hl=>simp_all|y::r,_=>simp only[fT,if_false,PD.toD,qhl]
theorem y0v(hS:S.Ok P)(c:S.TC)(x:S.Ty c):qx8 (S.agg c) (S.size c) (S.enc c x)=true:=by simp only[qx8,q7a hS,y3p hS,List.length_map,hS.len,beq_self_eq_true,decide_eq_true (hS.pos c),tA',List.all_map,Function.comp_def,qhl,Bool.not_false,List.all_eq_true,implies_true]
theorem q38(hS:S.Ok P){t e:TypeId}{c:S.TC}(h1:S.elem t=some c)(h2:q2m P t=some e)(xs:List (S.Ty c)):q3x P e (xs.map (S.enc c))=true:=by obtain⟨e',h3,h4,h5⟩:=hS.elem t c h1;rw[h2]at h3;cases h3;simp only[q3x,h4,h5,List.all_map,List.all_eq_true,Function.comp_def];intro x _;exact y0v hS c x
theorem qo1(hS:S.Ok P){c:S.TC}{p:PD S}{x:S.Ty c}(h:ofPD c p=some x):p.toD=S.enc c x:=by rw[hS.enc_eq];cases p with
 |lf y=>
  simp only[ofPD]at h;split at h;·cases h
  .rename_i hg;have h1:=hS.of_eq c _ _ h;simp only[packT,hg];match hcs:S.cells c x,h1 with|[z],h1=>simp only[List.map_cons,List.map_nil,List.cons.injEq,and_true]at h1;exact h1.symm|[],h1=>grind|_::_::_,h1=>simp_all
 |ag cs=>
  simp only[ofPD]at h;split at h;·rename_i hg;have h1:=hS.of_eq c _ _ h;simp only[packT,hg,if_true,PD.toD,h1]
  grind
theorem qt1(hS:S.Ok P){c:S.TC}:∀{ps:List (PD S)}{xs:List (S.Ty c)},ofPDs c ps=some xs->ps.map PD.toD=xs.map (S.enc c)
 |[],xs,h=>by simp only[ofPDs,sI]at h;simp_all|p::r,xs,h=>by
  simp only[ofPDs]at h;split at h;·rename_i y ys h1 h2;cases h;simp only[List.map_cons,qo1 hS h1,qt1 hS h2]
  grind
theorem q70{c:S.TC}{x:Leaf S.TC S.Ty}{xs:List (S.Ty c)}(h:qay c x=some xs):x=.l c xs:=by cases x with|l c' ys=>simp only[qay]at h;grind|_=>cases h
theorem qiv{α:Type}{xs:List α}{n:Int}{k:α->Option β}{r:β}(h:nth xs n k=some r):0<=n/\∃x,xs[n.toNat]?=some x/\k x=some r:=by unfold nth at h;grind
theorem qft{α:Type}{xs:List α}{n:Nat}{k:α->Option β}{r:β}(h:nthN xs n k=some r):∃x,xs[n]?=some x/\k x=some r:=by unfold nthN at h;grind
theorem qmf{n:Nat}{k:Option β}{r:β}(h:capOk n k=some r):n<=q06/\k=some r:=by unfold capOk at h;simp_all
theorem qol{len:Nat}{n:Int}{k:Nat->Option β}{r:β}(h:hiK len n k=some r):(0<=n/\n<=(len:Int))/\k n.toNat=some r:=by unfold hiK at h;simp_all
theorem q6d{p:Prop} [Decidable p]{k:Option β}{r:β}(h:chk p k=some r):p/\k=some r:=by unfold chk at h;simp_all
theorem qi4(hS:S.Ok P){s:TSt S}{p:Place}{c:S.TC}{xs:List (S.Ty c)}{l:Bool}(hc:q2j s p=.fl (.own c xs l)){i off:Nat}{x:S.Ty c}(hx:xs[i]?=some x):q4l s.toS p i off=some (((S.cells c x).drop off).map leafD):=by simp only[q4l,q1q,hc,TV.toA,TL.toA,List.getElem?_map,hx,mS,q7a hS,List.map_drop]
theorem qik(h:THeap S)(o:Nat):(heapA h)[o]?=(h[o]?).map (·.map TL.toA):=by simp[heapA]
def Does(A:Option (AV×St))(k:TV S->TSt S->Option β)(x:β):Prop:=∃v s1,A=some (v.toA,TSt.toS s1)/\k v s1=some x
theorem y0b(hS:T.S.Ok T.E.P){fl:Flag}{q:Bool}{t:TypeId}{a:TV T.S}{s:TSt T.S}{k:TV T.S->TSt T.S->Option β}{x:β}(h:loadT T fl q t a s k=some x):Does (q4b T.E fl q t a.toA s.toS) k x:=by
 unfold loadT at h;unfold q4b;split at h
 .rename_i hg;rw[hg];split at h
  .rename_i o off;split at h;·rename_i v s1 hr;exact⟨v,s1,qd1 hr,h⟩
   .cases h
  .exact⟨_,_,rfl,h⟩
  .rename_i p i off;split at h
   .rename_i c xs l hc;obtain⟨y,hy,hk⟩:=qft h;split at hk;·rename_i z zs hz;refine⟨_,_,?_,hk⟩;simp only[TV.toA,TL.toA,qi4 hS hc hy,hz,List.map_cons,PD.toD]
    .cases hk
   .cases h
  .cases h
 .rename_i n hg hn;rw[hg,hn];split at h
  .rename_i o off;split at h
   .rename_i cs hcs;split at h
    .rename_i hle;split at h
     .rename_i ds hds;have h1:s.toS.heap[o]?=some (cs.map TL.toA):=by rw[show s.toS.heap=heapA s.heap from rfl,qik,hcs];rfl
      have h2:((cs.map TL.toA).drop off).take n=((cs.drop off).take n).map TL.toA:=by simp[List.map_take,List.map_drop]
      split at h;·rename_i hl;refine⟨_,_,?_,h⟩;simp only[TV.toA,TL.toA,h1,List.length_map,hle,if_true,h2,q3z hds,qdq,hl];rfl
      .rename_i hl;split at h;·cases h
       .rename_i hq;refine⟨_,_,?_,h⟩;simp only[TV.toA,TL.toA,h1,List.length_map,hle,if_true,h2,q3z hds,qdq,hl,hq,qi6];rfl
     .cases h
    .cases h
   .cases h
  .rename_i cs;split at h;·rename_i hle;refine⟨_,_,?_,h⟩;simp only[TV.toA,TL.toA,List.length_map,hle,if_true,PD.toD,List.map_take]
   .cases h
  .rename_i p i off;split at h
   .rename_i c xs l hc;obtain⟨y,hy,hk⟩:=qft h;split at hk;·rename_i hle;refine⟨_,_,?_,hk⟩;simp only[TV.toA,TL.toA,qi4 hS hc hy,List.length_map,hle,if_true,PD.toD,List.map_take]
    .cases hk
   .cases h
  .cases h
 grind
def Puts(A:Option St)(k:TSt S->Option β)(x:β):Prop:=∃s1,A=some (TSt.toS s1)/\k s1=some x
theorem yds(l:List (TL S)):(l.map TL.toA).any AV.isOwn=l.any TL.isOwn:=by induction l with|nil=>rfl|cons a r ih=>simp only[List.map_cons,List.any_cons,ih,y4h]
theorem qic(hS:T.S.Ok T.E.P){a:TV T.S}{vs:List (TL T.S)}{s:TSt T.S}{k:TSt T.S->Option β}{x:β}(h:qd7 a vs s k=some x):Puts (q2i a.toA (vs.map TL.toA) s.toS) k x:=by
 unfold qd7 at h;unfold q2i;split at h
 .rename_i o off;split at h
  .rename_i cs hcs;have h1:s.toS.heap[o]?=some (cs.map TL.toA):=by rw[show s.toS.heap=heapA s.heap from rfl,qik,hcs];rfl
   split at h
   .rename_i hle;refine⟨_,?_,h⟩;simp only[TV.toA,TL.toA,h1,List.length_map,hle,if_true,sI];have h2:((cs.map TL.toA).drop off).take vs.length++vs.map TL.toA=(((cs.drop off).take vs.length)++vs).map TL.toA:=by simp[List.map_take,List.map_drop]
    rw[h2,yds];simp only[TSt.toS,St.mk.injEq];constructor
    .split;·exact qhc _ _
     .rfl
    .simp[heapA,List.map_set,List.map_take,List.map_drop]
   .cases h
  .cases h
 .rename_i p i off;split at h
  .rename_i c xs ds hc hds;obtain⟨y,hy,hk⟩:=qft h;split at hk
   .rename_i hle;split at hk
    .rename_i z hz;refine⟨_,?_,hk⟩;simp only[TV.toA,TL.toA,q1q,hc,q3z hds,List.getElem?_map,hy,mS,q7a hS,List.length_map,hle,and_self,if_true,sI];have h3:=hS.of_eq c _ _ hz;have h4:q7b (T.S.enc c y) off (ds.map leafD)=T.S.enc c z:=by rw[hS.enc_eq c y,hS.enc_eq c z];unfold packT;have hly:=hS.len c y;have hlz:=hS.len c z;cases hg:T.S.agg c with|true=>simp only[if_true,PD.toD,q7b,h3,List.map_append,List.map_take,List.map_drop,List.length_map]|false=>have h1:=hS.one c hg;simp only[fT,if_false];match hcs:T.S.cells c y,hcz:T.S.cells c z,ds,hle with
       |[u],[w],[d],hle=>
        rw[hcs]at h3;simp only[List.length_cons,List.length_nil]at hle;obtain rfl:off=0:=by omega
        rw[hcz]at h3;simp only[List.take_zero,List.nil_append,List.drop_succ_cons,List.drop_zero,List.length_cons,List.length_nil,Nat.zero_add,List.cons_append,List.map_cons,List.map_nil,List.cons.injEq,and_true]at h3;simp only[PD.toD,List.map_cons,List.map_nil];have:q7b (leafD u) 0 [leafD d]=leafD d:=by cases u<;>rfl
        rw[this,h3]|[],_,_,_=>simp only[hcs,List.length_nil]at hly;omega|_::_::_,_,_,_=>simp only[hcs,List.length_cons]at hly;omega|[_],[],_,_=>simp only[hcz,List.length_nil]at hlz;omega|[_],_::_::_,_,_=>simp only[hcz,List.length_cons]at hlz;omega|[_],[_],[],hle=>simp at hle|[_],[_],_::_::_,hle=>simp only[List.length_cons,List.length_nil]at hle;omega
     rw[h4,<-q6h];simp only[TL.toA,List.map_set]
    .cases hk
   .cases hk
  .cases h
 grind
theorem qzl(v:TL S):qrn v.toA=y3j v:=by cases v with
 |d x=>cases x with|lf y=>cases y<;>rfl|ag cs=>rfl
 |_=>rfl
theorem qvm(hS:T.S.Ok T.E.P){t:TypeId}{a y:Operand}{s:TSt T.S}{k:TSt T.S->Option β}{x:β}(h:y61 T t a y s k=some x):Puts (q78 T.E t a y s.toS) k x:=by
 unfold y61 at h;unfold q78;split at h
 .rename_i v g n hv hg hn;obtain⟨rfl,hm,hne⟩:=qbc hv;rw[q62 hne,hm,hg,hn];split at h
  .rename_i hc;have h1:ev T.E s.toS a=(evT T s t a).toA:=by refine q62 fun e=>?_;rw[e]at h;cases h
   rw[h1];have hcells:=qs5 (evT T s t y) hv;have h2:((evT T s t y).toA.cells.length=n/\(evT T s t y).toA.cells.all qrn=true):=by rw[hcells];refine⟨by simpa using hc.1,?_⟩;simpa[List.all_map,Function.comp_def,qzl]using hc.2
   simp only[h2,and_self,if_true];rw[qtm,hcells];exact qic hS h
  .cases h
 grind
end Go.Ab

namespace Go.Ab
variable {S : Sig} {β : Type} {T : TEn} {P : Program}
theorem qzt{P:Program}{op:BinOp}{t:TypeId}{x y:Leaf S.TC S.Ty}{k:LfK S β}{r:β}(h:binT' P op t x y k=some r):∃u v z,leafD x=.v u/\leafD y=.v v/\∃w,binT P op t u v=some w/\leafD z=.v w/\k z=some r:=by
 unfold binT' at h;split at h
 .rename_i κ a κ' b;refine⟨.int κ a,.int κ' b,?_⟩;split at h;·obtain⟨hp,hk⟩:=q6d h;exact⟨_,rfl,rfl,_,by simp only[binT,binV,Int.not_lt.2 hp,if_false];rfl,rfl,hk⟩
  .obtain⟨hp,hk⟩:=q6d h;exact⟨_,rfl,rfl,_,by simp only[binT,binV,Int.not_lt.2 hp,if_false];rfl,rfl,hk⟩
  all_goals(
   split at h;·rename_i hκ;subst hκ;first|exact⟨_,rfl,rfl,_,by simp only[binT,binV,if_true];rfl,rfl,h⟩|(obtain⟨hp,hk⟩:=q6d h;exact⟨_,rfl,rfl,_,by simp only[binT,binV,true_and,hp,not_false_eq_true,ne_eq,if_true];rfl,rfl,hk⟩)
   .cases h)
 .rename_i a b;refine⟨.string ⟨⟨a⟩⟩,.string ⟨⟨b⟩⟩,?_⟩;split at h;·obtain⟨hp,hk⟩:=q6d h;exact⟨_,rfl,rfl,_,by simp only[binT,binV,hp,if_true],rfl,hk⟩
  all_goals first|(cases h;done)|exact⟨_,rfl,rfl,_,by simp only[binT,binV];rfl,rfl,h⟩
 .rename_i a b;refine⟨.bool a,.bool b,?_⟩;split at h;·rename_i hu;exact⟨_,rfl,rfl,_,by simp only[binT,hu],rfl,h⟩
  .rename_i hu;exact⟨_,rfl,rfl,_,by simp only[binT,hu],rfl,h⟩
  .cases h
 grind
theorem y99{op:UnOp}{x z:Leaf S.TC S.Ty}(h:unT op x=some z):∃u w,leafD x=.v u/\unV op u=some w/\leafD z=.v w:=by
 unfold unT at h;split at h;·cases h;exact⟨_,_,rfl,rfl,rfl⟩
 .cases h;exact⟨_,_,rfl,rfl,rfl⟩
 grind
theorem qiq{v:TV S}{n:Int}(h:idxT v=some n):idxOf v.toA=some n/\v≠.fl .undef:=by
 unfold idxT at h;split at h;·cases h;exact⟨rfl,by simp⟩
 grind
theorem yaf{s:TSt T.S}{t:TypeId}{x:Operand}{n:Int}(h:idxT (evT T s t x)=some n):idxOf (ev T.E s.toS x)=some n:=by obtain⟨h1,h2⟩:=qiq h;rw[q62 h2];omega
theorem qt3:∀{l:List (TL S)}{ds:List (Leaf S.TC S.Ty)},allLf l=some ds->allD (l.map TL.toA)=some (ds.map leafD)
 |[],ds,h=>by simp only[allLf,sI]at h;subst h;rfl|c::r,ds,h=>by
  unfold allLf at h;split at h;·rename_i h0;cases h0
  .rename_i x r' h0;cases h0;split at h;·rename_i xs hx;cases h;simp only[List.map_cons,TL.toA,PD.toD,allD,qt3 hx,mS]
   .cases h
  grind
theorem qmp:∀{l:List (TL S)},allLf l=none->l.all TL.noAg=true->allD (l.map TL.toA)=none|[],h,_=>by cases h|c::r,h,ha=>by simp only[List.all_cons,aT]at ha;cases c with
  |d x=>cases x with|lf y=>
    simp only[allLf]at h;split at h;·cases h
    .rename_i hr;simp only[List.map_cons,TL.toA,PD.toD,allD,qmp hr ha.2,Option.map_none]|ag cs=>cases ha.1
  |_=>rfl
theorem qrh{cs:List (TL S)}{v:TV S}(h:qo3 cs=some v):qdr (cs.map TL.toA)=v.toA:=by
 unfold qo3 at h;unfold qdr;split at h;·rename_i ds hd;cases h;rw[qt3 hd];rfl
 .rename_i hd;split at h;·rename_i ha;cases h;rw[qmp hd ha];rfl
  grind
theorem qss(v:TV S)(hv:q69 v=some v):v.toA.cells=v.cells.map TL.toA/\v.toA.cells.length=v.cells.length:=by have:=qs5 v hv;simp_all
theorem qqg{place:Nat->Option (Nat×Nat)}:∀{ps:List (Nat×TV S)}{cells cs:List (TL S)},(∀p∈ps,q69 p.2=some p.2)->fillT place cells ps=some cs->fillA place (cells.map TL.toA) (ps.map fun p=>(p.1,p.2.toA))=some (cs.map TL.toA)
 |[],cells,cs,_,h=>by simp only[fillT,sI]at h;subst h;rfl|(i,v)::r,cells,cs,hm,h=>by
  simp only[fillT]at h;split at h
  .rename_i off size hp;split at h;·rename_i hc;obtain⟨h1,h2⟩:=qss v (hm (i,v) (by simp));simp only[List.map_cons,fillA,hp,h2,List.length_map,hc,and_self,if_true];have:=qqg (fun p hp=>hm p (by simp[hp])) h;rw[<-this,h1];simp only[List.map_append,List.map_take,List.map_drop]
   .cases h
  grind
theorem qnf{t:TypeId}:∀{l:List (Nat×Operand)}{s:TSt T.S}{ps:List (Nat×TV T.S)},qsm T t s l=some ps->(∀p∈ps,q69 p.2=some p.2)/\q59 T.E s.toS l=some (ps.map fun p=>(p.1,p.2.toA))
 |[],s,ps,h=>by simp only[qsm,sI]at h;subst h;exact⟨by simp,rfl⟩|(i,x)::r,s,ps,h=>by
  simp only[qsm]at h;split at h
  .rename_i v vs h1 h2;cases h;obtain⟨rfl,hm,hne⟩:=qbc h1;obtain⟨h3,h4⟩:=qnf h2;refine⟨fun p hp=>?_,?_⟩
   .rcases List.mem_cons.1 hp with rfl|hp;·exact h1
    .exact h3 p hp
   .simp only[q59,q62 hne,hm,qtm,h4,List.map_cons]
  grind
theorem y7z{t:TypeId}{v:TV T.S}{s:TSt T.S}{n:Nat}(h:lenT T t v s=some n):lenA T.E t v.toA s.toS=some n/\v≠.fl .undef:=by
 unfold lenT at h;unfold lenA;split at h;·rename_i hu;cases h;refine⟨?_,by simp⟩;rw[hu];rfl
 .rename_i hu;cases h;refine⟨?_,by simp⟩;rw[hu];simp[TV.toA,TL.toA,PD.toD,leafD]
 .rename_i hu;rw[hu];split at h;·rename_i hc;cases h;simp only[TV.toA,TL.toA,q1q,hc,List.length_map];simp
  .cases h
 .rename_i hu;rw[hu];split at h;·rename_i hc;cases h;have hc':q0v (heapA s.heap) _ 0=_:=(q4v s.heap _ 0).trans (congrArg TL.toA hc);simp only[TV.toA,TL.toA,TSt.toS,hc',List.length_map];simp
  .cases h
 .rename_i hu;rw[hu];split at h;·rename_i hc;cases h;simp only[TV.toA,TL.toA,q1q,hc];simp
  .cases h
 grind
theorem q8l{len:Nat}{lo hi:Option (TV S)}{k:Nat->Nat->Option β}{r:β}(h:qdv len lo hi k=some r):∃a b,q3s len (lo.map TV.toA) (hi.map TV.toA)=some (a,b)/\k a b=some r/\(∀v∈lo,v≠.fl .undef)/\(∀v∈hi,v≠.fl .undef):=by unfold qdv at h;unfold q3s;cases hi with
 |none=>simp only at h;cases lo with|none=>grind|some a=>
   simp only at h;split at h;·rename_i n hn;obtain⟨h1,h2⟩:=qiq hn;obtain⟨h3,h4⟩:=qol h;refine⟨_,_,?_,h4,by simpa using h2,by simp⟩;simp only[Option.map_none,mS,h1,h3,and_self,if_true]
   grind
 |some b=>
  simp only at h;split at h;·cases h
  .rename_i m hm;obtain⟨h1,h2⟩:=qiq hm;obtain⟨h3,h4⟩:=qol h;cases lo with|none=>grind|some a=>
    simp only at h4;split at h4;·rename_i n hn;obtain⟨h5,h6⟩:=qiq hn;obtain⟨h7,h8⟩:=qol h4;refine⟨_,_,?_,h8,by simpa using h6,by simpa using h2⟩;simp only[mS,h1,h3,h5,h7,and_self,if_true]
    simp_all
theorem qcu{s:TSt T.S}{t:TypeId}{x:Option Operand}(h:∀v∈x.map (evT T s t),v≠.fl .undef):x.map (ev T.E s.toS)=(x.map (evT T s t)).map TV.toA:=by cases x with|none=>rfl|some y=>simp only[mS];rw[q62 (t:=t) (h (evT T s t y) (by simp))]
theorem q6b{E:Env0}{s:St}{y:Operand}(h:(ev E s y).placed=true\/∃o,ev E s y=.ref o):plainC E s y=none:=by
 cases y with|const c=>
  exfalso;simp only[ev,q15]at h;split at h;·rcases h with h|⟨o,h⟩<;>cases h
  .unfold q0l at h;split at h<;>(rcases h with h|⟨o,h⟩<;>cases h)|_=>
  simp only[plainC];generalize ev E s _=c at h;rcases h with h|⟨o,h⟩;·cases c<;>first|rfl|cases h
  .rw[h];rfl
theorem y4b(hS:T.S.Ok T.E.P){t:TypeId}{y:Operand}{lo hi mx:Option Operand}{s:TSt T.S}{k:TV T.S->Option β}{r:β}(h:segT T t (evT T s t y) lo hi mx s k=some r):∃v,q5h T.E t y lo hi mx s.toS=some v.toA/\k v=some r:=by
 unfold segT at h;split at h
 .rename_i p hv;have hev:=q3d hv (by simp);split at h
  .rename_i c xs l hc;split at h;·rename_i he;obtain⟨a,b,h1,h2,h3,h4⟩:=q8l h;obtain⟨e,h5,h6,h7⟩:=hS.elem t c he;refine⟨_,?_,h2⟩;have hpl:plainC T.E s.toS y=none:=q6b (.inl (by rw[hev];rfl));simp only[q5h,hpl,segOp,hev,TV.toA,TL.toA,segBase,q1q,hc,h5,List.length_map];rw[qcu h3,qcu h4,h1];simp only[q38 hS he h5,if_true,Nat.zero_add]
   .cases h
  .cases h
 .rename_i o hv;have hev:=q3d hv (by simp);split at h
  .rename_i c xs l hc;split at h;·rename_i he;obtain⟨a,b,h1,h2,h3,h4⟩:=q8l h;obtain⟨e,h5,h6,h7⟩:=hS.elem t c he;refine⟨_,?_,h2⟩;have hpl:plainC T.E s.toS y=none:=q6b (.inr ⟨o,by rw[hev];rfl⟩);have hc':q0v s.toS.heap o 0=_:=(q4v s.heap o 0).trans (congrArg TL.toA hc);simp only[q5h,hpl,segOp,hev,TV.toA,TL.toA,segBase,hc',h5,List.length_map];rw[qcu h3,qcu h4,h1];simp only[q38 hS he h5,if_true,Nat.zero_add]
   .cases h
  .cases h
 .rename_i p a0 b0 hv;have hev:=q3d hv (by simp);split at h
  .rename_i c xs l hc;split at h;·rename_i he;obtain⟨hle,h⟩:=q6d h;obtain⟨a,b,h1,h2,h3,h4⟩:=q8l h;obtain⟨e,h5,h6,h7⟩:=hS.elem t c he;refine⟨_,?_,h2⟩;have hpl:plainC T.E s.toS y=none:=q6b (.inl (by rw[hev];rfl));simp only[q5h,hpl,segOp,hev,TV.toA,TL.toA,segBase,q1q,hc,h5,List.length_map,hle,if_true];rw[qcu h3,qcu h4,h1];simp only[q38 hS he h5,if_true]
   .cases h
  .cases h
 grind
theorem qpn(_hS:T.S.Ok T.E.P){c:T.S.TC}{u:TypeId}{y:Operand}{s:TSt T.S}{k:List (T.S.Ty c)->Option β}{r:β}(h:qp3 T c u y s k=some r):∃ys,copySrc T.E s.toS y=some (ys.map (T.S.enc c))/\k ys=some r:=by
 unfold qp3 at h;split at h
 .rename_i p lo hi hv;have hev:=q3d hv (by simp);split at h
  .rename_i c' xs l hc;split at h;·rename_i ys hy;cases q70 hy;obtain⟨hle,h⟩:=q6d h;refine⟨_,?_,h⟩;have hpl:plainC T.E s.toS y=none:=q6b (.inl (by rw[hev];rfl));simp only[copySrc,hpl,hev,TV.toA,TL.toA,q1q,hc,List.length_map,hle,if_true,List.map_drop,List.map_take]
   .cases h
  grind
 .split at h
  .rename_i yl hp;split at h;·rename_i ys hy;cases q70 hy;exact⟨ys,by simp only[copySrc,q0s hp,PD.toD,leafD],h⟩
   .cases h
  grind
theorem y0p(hS:T.S.Ok T.E.P){t u:TypeId}{y z:Operand}{s:TSt T.S}{k:TV T.S->TSt T.S->Option β}{r:β}(h:copyT T t u y z s k=some r):Does (qd5 T.E t u y z s.toS) k r:=by
 unfold copyT at h;split at h
 .rename_i p lo hi hv;have hev:=q3d hv (by simp);split at h
  .rename_i c xs hc;split at h;·rename_i he;obtain⟨ys,h1,h2⟩:=qpn hS h;obtain⟨hle,h3⟩:=q6d h2;obtain⟨e,h5,h6,h7⟩:=hS.elem t c he.1;obtain⟨e',g5,g6,g7⟩:=hS.elem u c he.2;refine⟨_,_,?_,h3⟩;simp only[qd5,hev,TV.toA,TL.toA,h1,h5,g5,q1q,hc,List.length_map,hle,q38 hS he.1 h5,and_self,if_true];rw[<-q6h];simp only[TL.toA,PD.toD,leafD,List.map_append,List.map_take,List.map_drop]
   .cases h
  .cases h
 grind
theorem qvi(hS:T.S.Ok T.E.P){t:TypeId}{y:Operand}{lo hi mx:Option Operand}{s:TSt T.S}{k:TV T.S->Option β}{r:β}(h:y6a T t y lo hi mx s k=some r):∃v,q5h T.E t y lo hi mx s.toS=some v.toA/\k v=some r:=by
 unfold y6a at h;split at h
 .rename_i l hp;split at h;·rename_i hu;obtain⟨a,b,h1,h2,h3,h4⟩:=q8l h;refine⟨_,?_,h2⟩;simp only[q5h,q0s hp,PD.toD,leafD];rw[qcu h3,qcu h4,h1,hu];rfl
  grind
 .rename_i c xs hp;split at h;·rename_i he;obtain⟨a,b,h1,h2,h3,h4⟩:=q8l h;refine⟨_,?_,h2⟩;obtain⟨e,h5,h6,h7⟩:=hS.elem t c he;simp only[q5h,q0s hp,PD.toD,leafD,h5,List.length_map];rw[qcu h3,qcu h4,h1];simp only[q38 hS he h5,if_true,TV.toA,TL.toA,PD.toD,leafD,List.map_drop,List.map_take]
  grind
 .exact y4b hS h
theorem qrc(hS:T.S.Ok T.E.P){q:Bool}{t:TypeId}{y z:Operand}{s:TSt T.S}{k:TV T.S->TSt T.S->Option β}{r:β}(h:qvj T q t y z s k=some r):Does (q2k T.E q t y z s.toS) k r:=by
 unfold qvj at h;split at h
 .rename_i c yl he hp;split at h
  .rename_i ys hy;cases q70 hy;split at h
   .rename_i hg;obtain⟨e,h5,h6,h7⟩:=hS.elem t c he;simp only[y9q,h5]at hg;split at hg
    .rename_i b hb;simp only[aT,dT']at hg;split at h
     .rename_i c' xs l hv;split at h;·rename_i xs' hx;cases q70 hx;obtain⟨h1,h2⟩:=qmf h;refine⟨_,_,?_,h2⟩;simp only[q2k,q0s hp,PD.toD,leafD,h5,hb,hg,q38 hS he h5,and_self,if_true,q3d hv (by simp),TV.toA,TL.toA,List.length_map,h1,List.map_append]
      .cases h
     .rename_i p hv;split at h
      .rename_i c' xs l hc;split at h;·cases h
       .rename_i hq;split at h
        .rename_i xs' hx;cases q70 hx;obtain⟨h1,h2⟩:=qmf h;refine⟨_,_,?_,h2⟩;have hq':q=false:=by simpa using hq
         simp only[q2k,q0s hp,PD.toD,leafD,h5,hb,hg,q38 hS he h5,and_self,if_true,q3d hv (by simp),TV.toA,TL.toA,q1q,hc,hq',List.length_map,h1,List.map_append];rw[<-qha];rfl
        .cases h
      .cases h
     .cases h
    .cases hg
   .cases h
  .cases h
 grind
theorem qkf(hS:T.S.Ok T.E.P){t:TypeId}{v:TV T.S}{n:Int}{s:TSt T.S}{k:TV T.S->Option β}{r:β}(h:qgo T t v n s k=some r):(∃w,q1p T.E t v.toA n s.toS=some w.toA/\k w=some r)/\v≠.fl .undef:=by
 unfold qgo at h;split at h
 .rename_i c e p he hu;obtain⟨e',h5,h6,h7⟩:=hS.elem t c he;simp only[q2m,hu,sI]at h5;subst h5;split at h
  .rename_i c' xs l hc;split at h;·rename_i hcc;subst hcc;obtain⟨h0,x,hx,hk⟩:=qiv h;refine⟨⟨_,?_,hk⟩,by simp⟩;simp only[q1p,hu,TV.toA,TL.toA,q1q,hc,h7,h0,if_true,List.getElem?_map,hx,mS,q7a hS,List.length_map,hS.len]
   .cases h
  .cases h
 .rename_i c e o he hu;obtain⟨e',h5,h6,h7⟩:=hS.elem t c he;simp only[q2m,hu,sI]at h5;subst h5;split at h
  .rename_i c' xs l hc;split at h;·rename_i hcc;subst hcc;obtain⟨h0,x,hx,hk⟩:=qiv h;refine⟨⟨_,?_,hk⟩,by simp⟩;have hc':q0v s.toS.heap o 0=_:=(q4v s.heap o 0).trans (congrArg TL.toA hc);simp only[q1p,hu,TV.toA,TL.toA,hc',h7,h0,if_true,List.getElem?_map,hx,mS,q7a hS,List.length_map,hS.len]
   .cases h
  .cases h
 .rename_i c e p lo hi he hu;obtain⟨e',h5,h6,h7⟩:=hS.elem t c he;simp only[q2m,hu,sI]at h5;subst h5;split at h
  .rename_i c' xs l hc;split at h;·rename_i hcc;subst hcc;obtain⟨hb,h⟩:=q6d h;obtain⟨x,hx,hk⟩:=qft h;refine⟨⟨_,?_,hk⟩,by simp⟩;simp only[q1p,hu,TV.toA,TL.toA,q1q,hc,h7,hb,and_self,if_true,List.getElem?_map,hx,mS,q7a hS,List.length_map,hS.len]
   .cases h
  .cases h
 .rename_i c e c' xs he hu;obtain⟨e',h5,h6,h7⟩:=hS.elem t c he;simp only[q2m,hu,sI]at h5;subst h5;split at h;·rename_i hcc;subst hcc;obtain⟨h0,x,hx,hk⟩:=qiv h;refine⟨⟨_,?_,hk⟩,by simp⟩;simp only[q1p,hu,TV.toA,TL.toA,PD.toD,leafD,h7,h0,if_true,List.getElem?_map,hx,mS,q7a hS,List.length_map,hS.len]
  .cases h
 .rename_i m e o b hu;split at h
  .rename_i sz hsz;split at h;·rename_i hb;refine⟨⟨_,?_,h⟩,by simp⟩;simp only[q1p,hu,TV.toA,TL.toA,hsz,if_pos hb]
   .cases h
  .cases h
 .rename_i m e cs hu;split at h
  .rename_i sz hsz;split at h;·rename_i hb;refine⟨⟨_,?_,h⟩,by simp⟩;simp only[q1p,hu,TV.toA,TL.toA,hsz,if_pos hb,List.map_drop]
   .cases h
  .cases h
 grind
theorem qjt{P:Program}{t:TypeId}{cs:List (Leaf S.TC S.Ty)}{off:Nat}{p:PD S}(h:partT P t cs off=some p):qax P t (cs.map leafD) off=some p.toD:=by
 unfold partT at h;unfold qax;split at h
 .rename_i n h1 h2;rw[h1,h2];split at h;·rename_i hle;cases h;simp only[List.length_map,hle,if_true,PD.toD,List.map_take,List.map_drop]
  .cases h
 .rename_i h1;rw[h1];split at h;·rename_i x hx;cases h;simp only[List.getElem?_map,hx,mS,PD.toD]
  .cases h
 grind
theorem y80{P:Program}{t:TypeId}{a b:Leaf S.TC S.Ty}{r:Bool}(h:eqVT P t a b=some r):∃u v,leafD a=.v u/\leafD b=.v v/\eqV P t u v=some r:=by
 unfold eqVT at h;split at h;·rename_i a b hu;exact⟨_,_,rfl,rfl,by simp only[eqV,hu,h]⟩
 .rename_i k κ a κ' b hu;refine⟨_,_,rfl,rfl,?_⟩;simp only[eqV,hu];exact h
 .rename_i a b hu;refine⟨_,_,rfl,rfl,?_⟩;simp only[eqV,hu];exact h
 grind
theorem ql7{P:Program}{xs ys:List (Leaf S.TC S.Ty)}:∀{fs:List Field}{r:Bool},eqFsT P xs ys fs=some r->eqFs P (xs.map leafD) (ys.map leafD) fs=some r
 |[],r,h=>h|f::fs,r,h=>by
  unfold eqFsT at h;split at h;·cases h
  .rename_i hn;split at h
   .rename_i a b ha hb;split at h;·rename_i p q hp hq;cases h;obtain⟨u,v,e1,e2,e3⟩:=y80 hp;have ih:=ql7 hq;unfold eqFs;rw[if_neg hn,qjt ha,qjt hb];simp only[PD.toD,e1,e2,e3,ih]
    .cases h
   grind
theorem y0j{P:Program}{op:BinOp}{t:TypeId}{xs ys:List (Leaf S.TC S.Ty)}{r:Bool}(h:y1r P op t xs ys=some r):eqAgg P op t (xs.map leafD) (ys.map leafD)=some r:=by
 unfold y1r at h;unfold eqAgg;split at h
 .rename_i fs hu;rw[hu];simp only;split at h
  .rename_i hc;rw[if_pos hc];split at h;·rw[ql7 h]
   .split at h;·rename_i b hb;cases h;rw[ql7 hb]
    .cases h
   .cases h
  .cases h
 grind
theorem qq8{s:TSt T.S}:∀{l:List Operand}{ps:List (Nat×Nat)},capsT T s l=some ps->qa4 T.E s.toS l=some ps
 |[],ps,h=>by simp only[capsT,sI]at h;subst h;rfl|x::r,ps,h=>by
  simp only[capsT]at h;split at h;·rename_i o a ps' h1 h2;cases h;simp only[qa4,q3d h1 (by simp),TV.toA,TL.toA,qq8 h2]
  grind
end Go.Ab

namespace Go.Ab
variable {S : Sig} {β : Type} {T : TEn} {P : Program}
theorem qif{s:TSt S}{cs:List (Option S.TC)}{z:Value}{xs:List (TL S)}(h:qcj cs z=some xs):(some (.ptr s.toS.heap.length 0,{s.toS with heap:=s.toS.heap++[(q15 z).cells]}):Option (AV×St))=some ((TV.fl (.ptr s.heap.length 0):TV S).toA,TSt.toS {s with heap:=s.heap++[xs]}):=by rw[qm4 h];simp[TSt.toS,heapA,TV.toA,TL.toA]
theorem qtc(hS:T.S.Ok T.E.P){fl:Flag}{q:Bool}{ty:TypeId}{op:Op}{s s1:TSt T.S}{v:TV T.S}(h:qte T fl q ty op s=some (v,s1)):q08 T.E fl q op s.toS=some (v.toA,s1.toS):=by
 unfold qte at h;split at h;·exact qd1 h
 .rename_i x hx;split at h;·rename_i w hw;cases h;obtain⟨rfl,hm,hne⟩:=ql9 hw;cases x with|tmp t=>exact absurd rfl (hx t)|_=>simp only[q08];rw[q62 hne,hm];rfl
  .cases h
 .split at h;·rename_i w hw;cases h;obtain⟨rfl,hm,hne⟩:=ql9 hw;simp only[q08];rw[q62 hne,hm];rfl
  .cases h
 .rename_i e;split at h
  .rename_i z hz;split at h;·rename_i cs hcs;cases h;simp only[q08,hz,mS];exact qif hcs
   .cases h
  .cases h
 .rename_i e x;split at h
  .rename_i w n hw hn;obtain⟨rfl,hm,hne⟩:=qbc hw;obtain⟨h1,h2⟩:=qss _ hw;split at h
   .rename_i hc;cases h;have h3:(evT T s e x).toA.cells.length=n:=by rw[h2];exact hc
    simp only[q08,q62 hne,hm,hn];rw[if_pos h3,h1];simp[TSt.toS,heapA,TV.toA,TL.toA]
   .cases h
  .cases h
 .rename_i t parts;split at h
  .rename_i z ps hz hps;obtain⟨h1,h2⟩:=qnf hps;split at h
   .rename_i hpl;split at h
    .rename_i cs0 hcs0;split at h
     .rename_i cs hcs;split at h;·rename_i w hw;cases h;have h3:=qqg h1 hcs;rw[<-qde hcs0]at h3;simp only[q08,hz,h2,hpl,if_true,h3,mS,qrh hw]
      .cases h
     .cases h
    .cases h
   .cases h
  .cases h
 .rename_i t n parts;split at h
  .rename_i c e hc he;split at h
   .rename_i ps hps;split at h
    .rename_i xs hxs;split at h;·rename_i hcond;cases h;simp only[q08,he,qhx hps,qt1 hS hxs,List.length_map,q38 hS hc he,hcond,and_self,if_true,TV.toA,TL.toA]
     .cases h
    .cases h
   .cases h
  .cases h
 .rename_i x;split at h;·rename_i hv;cases h;simp only[q08,q3d hv (by simp)];rfl
  .rename_i hv;cases h;simp only[q08,q3d hv (by simp)];rfl
  .rename_i hv;split at h;·rename_i ho;cases h;have ho':=ho;rw[<-qf9,<-q1q]at ho';simp only[q08,q3d hv (by simp),TV.toA,TL.toA,ho',if_true]
   .cases h
  .rename_i hv;cases h;simp only[q08,q3d hv (by simp)];rfl
  .cases h
 .rename_i o t x;split at h
  .rename_i a ha;split at h;·rename_i r hr;cases h;obtain⟨u,w,h1,h2,h3⟩:=y99 hr;simp only[q08,q0s ha,PD.toD,h1,h2,mS,TV.toA,TL.toA,h3]
   .cases h
  .cases h
 .rename_i src dst x;split at h;·rename_i h1 h2 h3;cases h;simp only[q08,h1,h2,q0s h3,PD.toD,leafD,TV.toA,TL.toA]
  .rename_i h1 h2 h3;cases h;simp only[q08,h1,h2,q0s h3,PD.toD,leafD,TV.toA,TL.toA]
  .cases h
 .rename_i t x i;split at h
  .rename_i off u hf;split at h
   .rename_i m hm;split at h;·rename_i hv;cases h;simp only[q08,hf,hm,q3d hv (by simp),TV.toA,TL.toA]
    .rename_i hv;cases h;simp only[q08,hf,hm,q3d hv (by simp),TV.toA,TL.toA,List.map_drop]
    .rename_i hv;split at h;·rename_i ho;cases h;have ho':=ho;rw[<-qf9,<-q1q]at ho';simp only[q08,hf,hm,q3d hv (by simp),TV.toA,TL.toA,ho',if_true]
     .cases h
    .cases h
   .cases h
  .cases h
 .rename_i t x i;split at h
  .rename_i cs off u hp hf;split at h;·rename_i y hy;cases h;simp only[q08,q0s hp,hf,PD.toD,qjt hy,mS,TV.toA,TL.toA]
   .cases h
  .cases h
 .rename_i t i;split at h
  .rename_i vs hv;have h1:get s.toS.env t=.tup (vs.map TL.toA):=by rw[show s.toS.env=envA s.env from rfl,q2y,hv];rfl
   split at h;·rename_i x hx;cases h;simp only[q08,h1,List.getElem?_map,hx,mS,TL.toA,TV.toA]
   .rename_i o a hx;cases h;simp only[q08,h1,List.getElem?_map,hx,mS,TL.toA,TV.toA]
   .cases h
  .cases h
 .rename_i f first caps;split at h
  .rename_i h0;split at h;·rename_i ps hps;cases h;simp only[q08,h0,if_true,qq8 hps,mS,TV.toA,TL.toA]
   .cases h
  .cases h
 .rename_i args argTypes;split at h
  .rename_i x t h1 h2;split at h;·rename_i n hn;cases h;obtain⟨h3,h4⟩:=y7z hn;simp only[q08,q35,h1,h2,q62 h4,h3,mS];rfl
   .cases h
  .cases h
 .rename_i args argTypes;split at h
  .rename_i x y h1;split at h;·rename_i κ a κ' b h2 h3;cases h;simp only[q08,q35,h1,q0s h2,q0s h3,PD.toD,leafD,TV.toA,TL.toA]
   .cases h
  .cases h
 .rename_i args argTypes;split at h
  .rename_i x y h1;split at h;·rename_i κ a κ' b h2 h3;cases h;simp only[q08,q35,h1,q0s h2,q0s h3,PD.toD,leafD,TV.toA,TL.toA]
   .cases h
  .cases h
 grind
theorem qpk(c:S.TC)(n:Nat)(x:S.Ty c):(List.replicate n x).map (S.enc c)=List.replicate n (S.enc c x):=by simp
theorem y04(hS:T.S.Ok T.E.P){fl:Flag}{q:Bool}{ty:TypeId}{op:Op}{s:TSt T.S}{k:TV T.S->TSt T.S->Option β}{r:β}(h:stepT T fl q ty op s k=some r):Does (q08 T.E fl q op s.toS) k r:=by
 unfold stepT at h;split at h
 .rename_i t a;have hne:evT T s 0 a≠.fl .undef:=by intro e;rw[e]at h;unfold loadT at h;split at h<;>cases h
  simp only[q08];rw[q62 hne];exact y0b hS h
 .rename_i c a b;split at h
  .rename_i t hc;split at h
   .split at h;·rename_i x hx;refine⟨_,_,?_,h⟩;simp only[q08,q3d hc (by simp),TV.toA,TL.toA,PD.toD,leafD,if_true,q0s hx,mS]
    .cases h
   .split at h;·rename_i x hx;refine⟨_,_,?_,h⟩;simp only[q08,q3d hc (by simp),TV.toA,TL.toA,PD.toD,leafD,fT,if_false,q0s hx,mS]
    .cases h
  grind
 .rename_i op t x y t';split at h;·rename_i a b ha hb;obtain⟨u,v,z,h1,h2,w,h3,h4,h5⟩:=qzt h;refine⟨_,_,?_,h5⟩;simp only[q08,q0s ha,q0s hb,PD.toD,h1,h2,h3,mS,TV.toA,TL.toA,h4]
  .rename_i xs ys ha hb;split at h;·rename_i r hr;refine⟨_,_,?_,h⟩;simp only[q08,q0s ha,q0s hb,PD.toD,y0j hr,mS,TV.toA,TL.toA,leafD]
   .cases h
  grind
 .rename_i t x lo hi mx;obtain⟨v,h1,h2⟩:=qvi hS h;refine⟨_,_,?_,h2⟩;simp only[q08,h1,mS]
 .rename_i t x i;split at h;·rename_i n hn;obtain⟨⟨w,h1,h2⟩,h3⟩:=qkf hS h;refine⟨_,_,?_,h2⟩;simp only[q08,yaf hn,q62 h3,h1,mS]
  grind
 .rename_i t x i;split at h;·rename_i n l hu hn hp;obtain⟨h0,b,hb,hk⟩:=qiv h;refine⟨_,_,?_,hk⟩;simp only[q08,yaf hn,q0s hp,PD.toD,leafD,qo8,hu,h0,if_true,hb,mS,TV.toA,TL.toA]
  grind
 .rename_i t l c;split at h
  .rename_i cd e n m he hte hl hc;split at h
   .rename_i z b hz hb;split at h
    .rename_i x hx;split at h
     .rename_i hb2;obtain⟨hp,hk⟩:=q6d h;refine⟨_,_,?_,hk⟩;have h1:((q4a T.E.P e).bind fun z=>q4h (q15 z))=some (T.S.enc cd x):=by cases hz0:q4a T.E.P e with|none=>rw[hz0]at hz;cases hz|some z0=>rw[hz0]at hz;simp only[bS]at hz⊢;rw[qdn (by intro hh;rw[hh]at hz;cases hz),qdl hz,qo1 hS hx]
      have h2:=q38 hS he hte [x];simp only[List.map_cons,List.map_nil]at h2;simp only[q08,hte,q0s hl,q0s hc,PD.toD,leafD,h1,hb];rw[if_pos ⟨hp.1,hp.2.1,hp.2.2,hb2,h2⟩];simp only[TV.toA,TL.toA,qpk]
     .cases h
    .cases h
   .cases h
  grind
 .rename_i args argTypes;split at h
  .rename_i x y t u h1 h2;split at h;·rename_i htu;subst htu;obtain⟨v,s1,h3,h4⟩:=qrc hS h;refine⟨v,s1,?_,h4⟩;simp only[q08,q35,h1,h2,if_true,h3]
   .cases h
  grind
 .rename_i args argTypes;split at h
  .rename_i x y t u h1 h2;split at h;·cases h
   .rename_i hq;obtain⟨v,s1,h3,h4⟩:=y0p hS h;refine⟨v,s1,?_,h4⟩;simp only[q08,q35,h1,h2,if_neg hq,h3]
  grind
 .split at h;·rename_i v s1 hp;exact⟨v,s1,qtc hS hp,h⟩
  grind
end Go.Ab

namespace Go.Ab
variable {S : Sig} {β : Type} {T : TEn} {P : Program}
def Le{α:Type}(a b:Option α):Prop:=∀r,a=some r->b=some r
theorem Le.to{α:Type}{a b:Option α}{r:α}(h:Le a b)(ha:a=some r):b=some r:=h r ha
theorem qix(v:TL S):q0m v.toA=ptrsT v:=by cases v<;>rfl
theorem qi9(v:TV S):q41 v.toA=qjo v:=by
 have key:∀vs:List (TL S),(vs.map TL.toA).flatMap q0m=vs.flatMap ptrsT:=by intro vs;induction vs with|nil=>rfl|cons v r ih=>simp only[List.map_cons,List.flatMap_cons,qix,ih]
 cases v with
 |fl x=>cases x with|loc p=>cases p<;>rfl|elt p i off=>cases p<;>rfl|seg p i off=>cases p<;>rfl|_=>rfl
 |agg cs=>exact key cs|tup cs=>exact key cs
theorem qk5(m:Nat)(e:TEnv S):dropE m (envA e)=envA (dropT m e):=by induction e with|nil=>rfl|cons p r ih=>
  obtain⟨k,u⟩:=p;simp only[envA,List.map_cons,dropE,dropT,qi9]at ih⊢;split;·simp_all
  .rw[ih];exact q5l _ _
theorem q5m(m:Nat)(h:THeap S):q31 m (heapA h)=q6y m h:=by simp only[q31,q6y,heapA,<-List.map_take,List.all_map,Function.comp_def,qix]
theorem qo0(m:Nat)(s:TSt S):trim m s.toS=(trimT m s).toS:=by
 simp only[trim,trimT,show s.toS.heap=heapA s.heap from rfl,q5m];split;·simp only[TSt.toS,qk5];simp only[heapA,List.map_take]
 rfl
theorem qlb(vs:List (TL S)):(vs.map TL.toA).flatMap q0m=vs.flatMap ptrsT:=by induction vs with|nil=>rfl|cons v r ih=>simp only[List.map_cons,List.flatMap_cons,qix,ih]
theorem ydt(ρ:Nat->Nat)(v:TL S):renAV ρ v.toA=(renT ρ v).toA:=by cases v<;>rfl
theorem qfv(ρ:Nat->Nat)(vs:List (TL S)):(vs.map TL.toA).map (renAV ρ)=(vs.map (renT ρ)).map TL.toA:=by simp only[List.map_map];congr 1;funext v;exact ydt ρ v
theorem qir(ρ:Nat->Nat)(h:THeap S):(heapA h).map (fun cs=>cs.map (renAV ρ))=heapA (h.map fun cs=>cs.map (renT ρ)):=by simp only[heapA,List.map_map];congr 1;funext cs;exact qfv ρ cs
theorem quy(ρ:Nat->Nat)(v:TV S):qva ρ v.toA=(qy7 ρ v).toA:=by cases v with|fl x=>cases x<;>rfl|agg cs=>exact congrArg AV.agg (qfv ρ cs)|tup cs=>exact congrArg AV.tup (qfv ρ cs)
theorem y0m(ρ:Nat->Nat)(e:TEnv S):qld ρ (envA e)=envA (qud ρ e):=by simp only[qld,qud,envA,List.map_map];congr 1;funext p;simp only[Function.comp_def,quy]
theorem qw0(s:TSt S)(o:Nat):q90 s.toS o=qpj s o:=by simp only[q90,qpj,TSt.toS,envA,heapA,List.all_map,Function.comp_def,qi9,qix]
theorem qna(h:THeap S)(o:Nat):(heapA h).getD o []=(h.getD o []).map TL.toA:=by simp only[List.getD_eq_getElem?_getD,heapA,List.getElem?_map];cases h[o]?<;>rfl
theorem qp1(o' o0:Nat)(s:TSt S):qfk o' o0 s.toS=(qgi o' o0 s).toS:=by simp only[qfk,qgi,TSt.toS,qff,y0m,qna];congr 1;rw[<-qir];congr 1;simp only[heapA,List.map_take,List.map_set]
theorem y2g(o:Nat)(v:TV S):ptrTo o v.toA=y3s o v:=by cases v with|fl x=>cases x<;>rfl|_=>rfl
theorem qi1(k:Nat)(s:TSt S):∀m,qc5 k s.toS m=qbe k s m|0=>rfl|m+1=>by simp only[qc5,qbe,qw0,qi1 k s m,show s.toS.heap=heapA s.heap from rfl,qna,List.length_map];simp only[heapA,List.length_map]
theorem qmr(k m:Nat):∀(n:Nat)(s:TSt S),regain k m n s.toS=(qo4 k m n s).toS
 |0,_=>rfl|n+1,s=>by
  have e1:s.toS.heap.length=s.heap.length:=by simp[TSt.toS,heapA]
  have e2:(s.toS.env.any fun p=>ptrTo (s.heap.length-1) p.2)=s.env.any fun p=>y3s (s.heap.length-1) p.2:=by simp only[TSt.toS,envA,List.any_map,Function.comp_def,y2g]
  simp only[regain,qo4,e1,e2,qi1,qp1];split;·cases qbe k s m with|none=>rfl|some o0=>exact qmr k m n _
  rfl
theorem qsf(k m:Nat)(s:TSt S):endRound k m s.toS=(qjw k m s).toS:=by simp only[endRound,qjw,qmr,qo0]
theorem qjp(h:THeap S):∀(l:List Nat),q4d (heapA h) l=(qeb h l).map heapA|[]=>rfl|o::r=>by simp only[q4d,qeb,qik,qjp h r];cases h[o]? with|none=>rfl|some cs=>cases qeb h r with|none=>rfl|some hs=>rfl
theorem qeq:∀(os:List Nat)(h hb:THeap S),q2g (heapA h) os (heapA hb)=heapA (qcb h os hb)|[],h,hb=>by cases hb<;>rfl|o::os,h,[]=>rfl|o::os,h,cs::r=>by have:=qeq os (h.set o cs) r;simp only[qcb,<-this];simp only[heapA,List.map_cons,q2g,List.map_set]
theorem qzp(s:TSt S)(objs:List Nat)(h':THeap S):q4c s.toS objs (heapA h')=(qu2 s objs h').toS:=by
 have hl:s.toS.heap.length=s.heap.length:=by simp[TSt.toS,heapA]
 simp only[q4c,qu2,TSt.toS,qhc,St.mk.injEq,true_and];rw[show(heapA s.heap).length=s.heap.length by simp[heapA],qir,qeq];rw[show(heapA h').drop objs.length=heapA (h'.drop objs.length)by simp[heapA,List.map_drop],qir];simp[heapA]
theorem qvu(vs:List (TL S)):q11 (vs.map TL.toA)=(qio vs).toA:=by match vs with|[]=>rfl|[v]=>rfl|v::w::r=>rfl
theorem y39(ρ:Nat->Nat)(v:TV S):qaa ρ v.toA=(y5c ρ v).toA:=by cases v with|fl x=>cases x<;>rfl|tup us=>exact congrArg AV.tup (qfv ρ us)|agg us=>rfl
theorem y2z(keep:Bool)(k:Nat)(v:TV S)(h:THeap S):q7h keep k (v.toA,heapA h)=((qmm keep k v h).1.toA,heapA (qmm keep k v h).2):=by
 have same:∀v:TV S,(∀o,v≠.fl (.ref o))->(∀o p,v≠.tup [.ref o,.ref p])->q7h keep k (v.toA,heapA h)=(v.toA,heapA h):=by intro v hv hv2;cases v with
  |fl x=>cases x<;>first|rfl|exact absurd rfl (hv _)
  |tup vs=>match vs with
   |[]=>rfl|[x]=>cases x<;>rfl|[x,y]=>cases x<;>cases y<;>first|rfl|exact absurd rfl (hv2 _ _)
   |x::y::z::r=>cases x<;>cases y<;>rfl
  |_=>rfl
 unfold qmm;split
 .rename_i o;have e:q7h keep k ((TV.fl (TL.ref o):TV S).toA,heapA h)=if decide (o=k)&&q6y k h then match(heapA h).drop k with|[[.own xs false]]=>(if keep then AV.own xs false else .d (.list xs),(heapA h).take k)|_=>((TV.fl (TL.ref o):TV S).toA,heapA h)else((TV.fl (TL.ref o):TV S).toA,heapA h):=by rw[<-q5m];rfl
  rw[e];split
  .have hd:(heapA h).drop k=heapA (h.drop k):=by simp[heapA,List.map_drop]
   have ht:(heapA h).take k=heapA (h.take k):=by simp[heapA,List.map_take]
   rw[hd,ht];generalize h.drop k=r;rcases r with _|⟨cs,r⟩;·rfl
   .rcases r with _|⟨cs2,r⟩
    .rcases cs with _|⟨x,cs⟩;·rfl
     .rcases cs with _|⟨y,cs⟩;·cases x with|own c ys l=>cases l<;>cases keep<;>rfl|_=>rfl
      .cases x with|own c ys l=>cases l<;>rfl|_=>rfl
    .rcases cs with _|⟨x,cs⟩;·rfl
     .rcases cs with _|⟨y,cs⟩;·cases x with|own c ys l=>cases l<;>rfl|_=>rfl
      .cases x with|own c ys l=>cases l<;>rfl|_=>rfl
  .rfl
 .rename_i o p;have e:q7h keep k ((TV.tup [TL.ref o,TL.ref p]:TV S).toA,heapA h)=if decide (o=k)&&q6y k h then match(heapA h).drop k with|[[.own xs false]]=>(if keep then AV.agg [.own xs false]else .d (.agg [.list xs]),(heapA h).take k)|_=>(AV.undef,heapA h)else(AV.undef,heapA h):=by rw[<-q5m];rfl
  rw[e];split
  .have hd:(heapA h).drop k=heapA (h.drop k):=by simp[heapA,List.map_drop]
   have ht:(heapA h).take k=heapA (h.take k):=by simp[heapA,List.map_take]
   rw[hd,ht];generalize h.drop k=r;rcases r with _|⟨cs,r⟩;·rfl
   .rcases r with _|⟨cs2,r⟩
    .rcases cs with _|⟨x,cs⟩;·rfl
     .rcases cs with _|⟨y,cs⟩;·cases x with|own c ys l=>cases l<;>cases keep<;>rfl|_=>rfl
      .cases x with|own c ys l=>cases l<;>rfl|_=>rfl
    .rcases cs with _|⟨x,cs⟩;·rfl
     .rcases cs with _|⟨y,cs⟩;·cases x with|own c ys l=>cases l<;>rfl|_=>rfl
      .cases x with|own c ys l=>cases l<;>rfl|_=>rfl
  .rfl
 simp_all
theorem qtj{α:Type}{p:Prop} [Decidable p]{x y:α}(h:(if p then some x else none)=some y):p/\x=y:=by simp_all
theorem qrj{α:Type}{p:Prop} [Decidable p]{x:Option α}{y:α}(h:(if p then x else none)=some y):p/\x=some y:=by simp_all
theorem y8p:∀{k:LK S.TC}{x:Leaf S.TC S.Ty}{y:k.Ty S},k.of x=some y->k.mk y=x|.i κ,.i κ' n,y,h=>by have h':(if κ'=κ then some n else(none:Option Int))=some (y:Int):=h;obtain⟨rfl,rfl⟩:=qtj h';rfl|.b,.b x,y,h=>by have h':some x=some (y:Bool):=h;cases h';rfl|.s,.s x,y,h=>by have h':some x=some (y:List UInt8):=h;cases h';rfl|.l c,x,y,h=>by have h':qay c x=some (y:List (S.Ty c)):=h;exact(q70 h').symm|.i _,.b _,_,h|.i _,.s _,_,h|.i _,.l ..,_,h|.i _,.o _,_,h|.b,.i ..,_,h|.b,.s _,_,h|.b,.l ..,_,h|.b,.o _,_,h|.s,.i ..,_,h|.s,.b _,_,h|.s,.l ..,_,h|.s,.o _,_,h=>by cases h
theorem yde(hS:S.Ok P){c:S.TC}{y:PD S}{z:S.Ty c}(h:ofPD c y=some z):(TL.d (packT (S.agg c) (S.cells c z)):TL S).toA=(TL.d y).toA:=by show AV.d (packT (S.agg c) (S.cells c z)).toD=AV.d y.toD;rw[<-hS.enc_eq,qo1 hS h]
theorem y7x(hS:S.Ok P){c:S.TC}{x y:S.Ty c}(h:(TL.d (packT (S.agg c) (S.cells c x)):TL S).toA=(TL.d (packT (S.agg c) (S.cells c y))).toA):x=y:=by have h':AV.d (packT (S.agg c) (S.cells c x)).toD=AV.d (packT (S.agg c) (S.cells c y)).toD:=h;injection h' with h';rw[<-hS.enc_eq,<-hS.enc_eq]at h';exact hS.inj c _ _ h'
theorem of_mk(hS:S.Ok P):∀{a:OT S}{v:TL S}{x:a.Ty},a.of v=some x->(a.mk x).toA=v.toA
 |.lf k,.d (.lf y),x,h=>by have h':k.of y=some (x:k.Ty S):=h;show(TL.d (.lf (k.mk x))).toA=_;rw[y8p h']|.own c l,.own c' xs l',x,h=>by have h':(if l'=l then qay c (.l c' xs)else none)=some (x:List (S.Ty c)):=h;obtain⟨rfl,h2⟩:=qrj h';cases q70 h2;rfl|.ag c,.d y,x,h=>yde hS (z:=x) h|.ptr o off,.ptr o' off',x,h=>by have h':(if o'=o/\off'=off then some ()else none)=some (x:Unit):=h;obtain⟨⟨rfl,rfl⟩,_⟩:=qtj h';rfl|.fn f cs,.fn f' cs',x,h=>by have h':(if f'=f/\cs'=cs then some ()else none)=some (x:Unit):=h;obtain⟨⟨rfl,rfl⟩,_⟩:=qtj h';rfl|.ref o,.ref o',x,h=>by
  have h':(if o'=o then some ()else none)=some (x:Unit):=h;split at h';·rename_i e;subst e;rfl
  simp_all|.undef,.undef,x,h=>rfl|.undef,.ref _,_,h|.undef,.skipped,_,h|.undef,.d _,_,h|.undef,.own ..,_,h|.undef,.loc _,_,h|.undef,.elt ..,_,h|.undef,.seg ..,_,h|.undef,.ptr ..,_,h|.undef,.view _,_,h|.undef,.fn ..,_,h=>by cases h|.ref _,.undef,_,h|.ref _,.skipped,_,h|.ref _,.d _,_,h|.ref _,.own ..,_,h|.ref _,.loc _,_,h|.ref _,.elt ..,_,h|.ref _,.seg ..,_,h|.ref _,.ptr ..,_,h|.ref _,.view _,_,h|.ref _,.fn ..,_,h=>by cases h|.lf _,.ref _,_,h|.own ..,.ref _,_,h|.ag _,.ref _,_,h|.ptr ..,.ref _,_,h|.fn ..,.ref _,_,h=>by cases h|.lf _,.undef,_,h|.lf _,.skipped,_,h|.lf _,.d (.ag _),_,h|.lf _,.own ..,_,h|.lf _,.loc _,_,h|.lf _,.elt ..,_,h|.lf _,.seg ..,_,h|.lf _,.ptr ..,_,h|.lf _,.view _,_,h|.lf _,.fn ..,_,h=>by cases h|.own ..,.undef,_,h|.own ..,.skipped,_,h|.own ..,.d _,_,h|.own ..,.loc _,_,h|.own ..,.elt ..,_,h|.own ..,.seg ..,_,h|.own ..,.ptr ..,_,h|.own ..,.view _,_,h|.own ..,.fn ..,_,h=>by cases h|.ag _,.undef,_,h|.ag _,.skipped,_,h|.ag _,.own ..,_,h|.ag _,.loc _,_,h|.ag _,.elt ..,_,h|.ag _,.seg ..,_,h|.ag _,.ptr ..,_,h|.ag _,.view _,_,h|.ag _,.fn ..,_,h=>by cases h|.ptr ..,.undef,_,h|.ptr ..,.skipped,_,h|.ptr ..,.d _,_,h|.ptr ..,.own ..,_,h|.ptr ..,.loc _,_,h|.ptr ..,.elt ..,_,h|.ptr ..,.seg ..,_,h|.ptr ..,.view _,_,h|.ptr ..,.fn ..,_,h=>by cases h|.fn ..,.undef,_,h|.fn ..,.skipped,_,h|.fn ..,.d _,_,h|.fn ..,.own ..,_,h|.fn ..,.loc _,_,h|.fn ..,.elt ..,_,h|.fn ..,.seg ..,_,h|.fn ..,.ptr ..,_,h|.fn ..,.view _,_,h=>by cases h
theorem qmx(hS:S.Ok P):∀{l:List (OT S)}{vs:List (TL S)}{x:Prods l},qfo l vs=some x->(vals l x).map TL.toA=vs.map TL.toA|[],[],_,_=>rfl|[],_::_,x,h=>by have h':(none:Option (Prods ([]:List (OT S))))=some x:=h;grind|[a],[v],x,h=>by have h':a.of v=some (x:a.Ty):=h;show [(a.mk x).toA]=[v.toA];rw[of_mk hS h']|[a],[],x,h=>by have h':(none:Option (Prods [a]))=some x:=h;grind|[a],_::_::_,x,h=>by have h':(none:Option (Prods [a]))=some x:=h;grind|a::b::r,[],x,h=>by have h':(none:Option (Prods (a::b::r)))=some x:=h;grind|a::b::r,v::w,x,h=>by have h':(match a.of v,qfo (b::r) w with|some x,some xs=>some (x,xs)|_,_=>(none:Option (a.Ty×Prods (b::r))))=some (x:a.Ty×Prods (b::r)):=h;cases h1:a.of v with|none=>simp_all|some y=>cases h2:qfo (b::r) w with|none=>simp_all|some ys=>rw[h1,h2]at h';cases h';show(a.mk y).toA::(vals (b::r) ys).map TL.toA=_;rw[of_mk hS h1,qmx hS h2];rfl
theorem qds:∀(l:List (OT S))(x:Prods l),(vals l x).length=l.length|[],_=>rfl|[_],_=>rfl|a::b::r,x=>by simp only[vals,List.length_cons,qds (b::r) x.2]
theorem qf1:∀(ns:List Nat)(l l':List (TL S)),l.map TL.toA=l'.map TL.toA->heapA (q4i ns l)=heapA (q4i ns l')
 |[],_,_,_=>rfl|n::r,l,l',h=>by
  simp only[q4i,heapA,List.map_cons]at*;have h1:(l.take n).map TL.toA=(l'.take n).map TL.toA:=by simp only[List.map_take,h]
  have h2:(l.drop n).map TL.toA=(l'.drop n).map TL.toA:=by simp only[List.map_drop,h]
  rw[h1];have:=qf1 r _ _ h2;simp only[heapA]at this;grind
theorem q8c:∀(h:THeap S),q4i (h.map List.length) h.flatten=h|[]=>rfl|cs::r=>by simp only[List.map_cons,q4i,List.flatten_cons,List.take_left,List.drop_left,q8c r]
theorem q8p:∀(ns:List Nat)(l:List (TL S)),(q4i ns l).flatten=l.take ns.sum|[],l=>by rfl|n::r,l=>by simp only[q4i,List.flatten_cons,q8p r,List.sum_cons,List.take_add]
theorem qpq(hS:S.Ok P){o:OSpec S}{vs:List (TL S)}{hp:THeap S}{x:o.Out}(hv:vs.length=o.res.length)(hl:hp.map List.length=o.heap.map List.length)(h:qfo o.all (vs++hp.flatten)=some x):q11 ((resOf o x).map TL.toA)=q11 (vs.map TL.toA)/\heapA (q2u o x)=heapA hp:=by
 have h1:=qmx hS h;constructor;·congr 1;simp only[resOf,List.map_take,h1,<-hv];simp
 .simp only[q2u];rw[<-hl];rw[qf1 (hp.map List.length) ((vals o.all x).drop o.res.length) hp.flatten (by simp_all),q8c]
theorem yha(hS:S.Ok P):∀{k:LK S.TC}{x y:k.Ty S},leafD (k.mk x)=leafD (k.mk y)->x=y|.i κ,x,y,h=>by have h':D.v (.int κ (x:Int))=D.v (.int κ (y:Int)):=h;grind|.b,x,y,h=>by have h':D.v (.bool (x:Bool))=D.v (.bool (y:Bool)):=h;grind|.s,x,y,h=>by have h':D.v (.string ⟨⟨(x:List UInt8)⟩⟩)=D.v (.string ⟨⟨(y:List UInt8)⟩⟩):=h;grind|.l c,x,y,h=>by have h':D.list ((x:List (S.Ty c)).map (S.enc c))=D.list ((y:List (S.Ty c)).map (S.enc c)):=h;injection h' with h';exact(List.map_inj_right (fun a b hab=>hS.inj c a b hab)).1 h'
theorem yc7(hS:S.Ok P):∀{a:OT S}{x y:a.Ty},(a.mk x).toA=(a.mk y).toA->x=y|.lf k,x,y,h=>by have h':AV.d (leafD (k.mk x))=AV.d (leafD (k.mk y)):=h;injection h' with h';exact yha hS h'|.own c l,x,y,h=>by have h':AV.own ((x:List (S.Ty c)).map (S.enc c)) l=AV.own ((y:List (S.Ty c)).map (S.enc c)) l:=h;injection h' with h';exact(List.map_inj_right (fun a b hab=>hS.inj c a b hab)).1 h'|.ag c,x,y,h=>y7x hS (x:=x) (y:=y) h|.ptr ..,_,_,_=>rfl|.fn ..,_,_,_=>rfl|.ref _,_,_,_=>rfl|.undef,_,_,_=>rfl
theorem qwh(hS:S.Ok P):∀{l:List (OT S)}{x y:Prods l},(vals l x).map TL.toA=(vals l y).map TL.toA->x=y|[],_,_,_=>rfl|[a],x,y,h=>by simp only[vals,List.map_cons,List.map_nil,List.cons.injEq,and_true]at h;exact yc7 hS h|a::b::r,x,y,h=>by simp only[vals,List.map_cons,List.cons.injEq]at h;exact Prod.ext (yc7 hS h.1) (qwh hS h.2)
theorem qu9{vs ws:List AV}(hl:vs.length=ws.length)(h:q11 vs=q11 ws):vs=ws:=by match vs,ws,hl with|[],[],_=>rfl|[v],[w],_=>simp only[q11]at h;rw[h]|v::v'::r,w::w'::r',_=>simpa[q11]using h
theorem y2p(hS:S.Ok P){o:OSpec S}{x y:o.Out}(h1:q11 ((resOf o x).map TL.toA)=q11 ((resOf o y).map TL.toA))(h2:heapA (q2u o x)=heapA (q2u o y)):x=y:=by
 apply qwh hS (l:=o.all);have hx:=qds o.all x;have hy:=qds o.all y;have h3:=qu9 (by simp[resOf,hx,hy]) h1;have h4:((vals o.all x).drop o.res.length).map TL.toA=((vals o.all y).drop o.res.length).map TL.toA:=by
  have:=congrArg List.flatten h2;simp only[heapA,q2u]at this;have key:∀l:List (TL S),l.length=o.heap.flatten.length->((q4i (o.heap.map List.length) l).map fun cs=>cs.map TL.toA).flatten=l.map TL.toA:=by intro l hl;rw[<-List.map_flatten,q8p,List.take_of_length_le (by rw[hl,List.length_flatten];exact Nat.le_refl _)]
  rw[key _ (by rw[List.length_drop,hx];simp[OSpec.all]),key _ (by rw[List.length_drop,hy];simp[OSpec.all])]at this;omega
 rw[<-List.take_append_drop o.res.length (vals o.all x),<-List.take_append_drop o.res.length (vals o.all y),List.map_append,List.map_append,h4];simp only[resOf]at h3;rw[h3]
theorem qj5{f:FuncId}{vs:List (TL T.S)}{hs:THeap T.S}{o:OSpec T.S}{x:o.Out}(h:callC T f vs hs o=some x):CSem T f vs hs o x:=by
 unfold callC at h;split at h;·rename_i hx;cases h;exact hx.choose_spec
 grind
theorem qim(hS:T.S.Ok T.E.P){f:FuncId}{vs:List (TL T.S)}{hs:THeap T.S}{o:OSpec T.S}{x:o.Out}(h:CSem T f vs hs o x):callC T f vs hs o=some x:=by unfold callC;have hx:∃x,CSem T f vs hs o x:=⟨x,h⟩;rw[dif_pos hx];congr 1;obtain⟨m,h1⟩:=hx.choose_spec;obtain⟨m',h2⟩:=h;have h3:=y1t h1 (Nat.le_max_left m m');have h4:=y1t h2 (Nat.le_max_right m m');rw[h3]at h4;simp only[sI,pI]at h4;exact y2p hS h4.1 h4.2
theorem y32{E:Env0}{f:FuncId}{n m k:Nat}{c:Code}{s:St}{q q':Ex×St}(h:exec E f k n c s=some q)(h':exec E f k m c s=some q'):q=q':=by have h1:=qks h (Nat.le_max_left n m);have h2:=qks h' (Nat.le_max_right n m);simp_all
theorem q4s{E:Env0}{f:FuncId}{n m k:Nat}(hle:n<=m):∀{K:List Fr}{ex:Ex}{s:St}{q:Ex×St},unw E f k n K ex s=some q->unw E f k m K ex s=some q
 |[],ex,s,q,h=>h|.seq b::K,ex,s,q,h=>by cases ex with
  |normal=>
   simp only[unw]at h⊢;split at h;·rename_i e1 s1 h1;rw[qks h1 hle];exact q4s hle h
   grind|_=>simp only[unw]at h⊢;exact q4s hle h
 |.block id m::K,ex,s,q,h=>by cases ex with|exit i=>
   simp only[unw]at h⊢;split at h;·rename_i hi;rw[if_pos hi];exact q4s hle h
   .rename_i hi;rw[if_neg hi];exact q4s hle h|_=>simp only[unw]at h⊢;exact q4s hle h
 |.loop b m::K,ex,s,q,h=>by cases ex with
  |normal=>
   simp only[unw]at h⊢;split at h;·rename_i e1 s1 h1;rw[qks h1 hle];exact q4s hle h
   grind|_=>simp only[unw]at h⊢;exact q4s hle h
theorem qpo{E:Env0}{f:FuncId}{k n:Nat}:∀(K:List Fr)(s:St),unw E f k n K .ret s=some (.ret,s)|[],_=>rfl|.seq _::K,s=>by simp only[unw];exact qpo K s|.block _ _::K,s=>by simp only[unw];exact qpo K s|.loop _ _::K,s=>by simp only[unw];exact qpo K s
theorem Goes.uniq{E:Env0}{F:Fx}{c:Code}{K:List Fr}{s:St}{q q':AV×Heap}(h:Goes E F c K s q)(h':Goes E F c K s q'):q=q':=by obtain⟨n,ex,s1,ex',s2,h1,h2,h3⟩:=h;obtain⟨m,fx,t1,fx',t2,g1,g2,g3⟩:=h';have:=y32 h1 g1;cases this;have u1:=q4s (Nat.le_max_left n m) h2;have u2:=q4s (Nat.le_max_right n m) g2;simp_all
theorem qp4{F:Fx}{o:OSpec T.S}{c:Code}{K:List Fr}{s:TSt T.S}{x:o.Out}(h:goC T F o c K s=some x):BSem T F o c K s x:=by
 unfold goC at h;split at h;·rename_i hx;cases h;exact hx.choose_spec
 grind
theorem ybh(hS:T.S.Ok T.E.P){F:Fx}{o:OSpec T.S}{c:Code}{K:List Fr}{s:TSt T.S}{x:o.Out}(h:BSem T F o c K s x):goC T F o c K s=some x:=by unfold goC;have hx:∃x,BSem T F o c K s x:=⟨x,h⟩;rw[dif_pos hx];congr 1;have:=Goes.uniq hx.choose_spec h;simp only[pI]at this;exact y2p hS this.1 this.2
end Go.Ab

namespace Go.Ab
variable {S : Sig} {β : Type} {T : TEn} {P : Program}
def Runs(A:Nat->Option St)(k:TSt S->Option β)(x:β):Prop:=∃n s1,A n=some (TSt.toS s1)/\k s1=some x
theorem qnh{r:Rule}{h:FuncId}{vs:List (TL T.S)}{dst:Option Nat}{s:TSt T.S}{k:TSt T.S->Option β}{x:β}(hh:callT T r h vs dst s k=some x):Runs (fun n=>callA T.E r n h (vs.map TL.toA) dst s.toS) k x:=by
 unfold callT at hh;split at hh;·grind
 .rename_i objs ho;split at hh
  .rename_i hm;split at hh
   .rename_i hs hhs;split at hh
    .rename_i y hy;split at hh;·cases hh
     .rename_i hd;obtain⟨m,hc⟩:=qj5 hy;refine⟨m+1,_,?_,hh⟩;have hl:s.toS.heap.length=s.heap.length:=by simp[TSt.toS,heapA]
      simp only[callA,qlb,show s.toS.heap=heapA s.heap from rfl,show(heapA s.heap).length=s.heap.length by simp[heapA],ho,hm,if_true,qjp,hhs,mS,qfv,qir,hc,qvu,y2z];have hlen:∀q:THeap T.S,(heapA q).length=q.length:=fun q=>by simp[heapA]
      rw[hlen,if_neg hd,y39,qzp,qgf]
    .cases hh
   .cases hh
  grind
theorem qyl{s:TSt T.S}{t:TypeId}{x:Operand}{v:TL T.S}(h:argT T s t x=some v):argOf T.E s.toS x=some v.toA:=by
 unfold argT at h;have key:∀{p:PD T.S},q2b T s t x=some p->argOf T.E s.toS x=some (AV.d p.toD):=by
  intro p hp;have h1:=q0s hp;simp only[argOf];split;·rename_i o a hv;cases x with|const c=>have h2:q15 c=AV.ptr o a:=hv;have h3:plainC T.E s.toS (.const c)=q4h (q15 c):=rfl;rw[h3,h2]at h1;cases h1|_=>simp only[plainC,hv,plain]at h1;cases h1
  .rename_i o a hv;cases x with|const c=>have h2:q15 c=AV.fn o a:=hv;have h3:plainC T.E s.toS (.const c)=q4h (q15 c):=rfl;rw[h3,h2]at h1;cases h1|_=>simp only[plainC,hv,plain]at h1;cases h1
  .rename_i a hv;cases x with|const c=>have h2:q15 c=AV.view a:=hv;have h3:plainC T.E s.toS (.const c)=q4h (q15 c):=rfl;rw[h3,h2]at h1;cases h1|_=>simp only[plainC,hv,plain]at h1;cases h1
  .rename_i a hv;cases x with|const c=>have h2:q15 c=AV.ref a:=hv;have h3:plainC T.E s.toS (.const c)=q4h (q15 c):=rfl;rw[h3,h2]at h1;cases h1|_=>simp only[plainC,hv,plain]at h1;cases h1
  grind
 split at h;·rename_i hv;cases h;simp only[argOf,q3d hv (by simp)];rfl
 .rename_i hv;cases h;simp only[argOf,q3d hv (by simp)];rfl
 .rename_i hv;cases h;simp only[argOf,q3d hv (by simp)];rfl
 .rename_i hv;cases h;simp only[argOf,q3d hv (by simp)];rfl
 .split at h;·rename_i p hp;cases h;exact key hp
  grind
theorem qqr{s:TSt T.S}:∀{l:List Operand}{ts:List TypeId}{vs:List (TL T.S)},argsT T s ts l=some vs->qa7 T.E s.toS l=some (vs.map TL.toA)
 |[],ts,vs,h=>by simp only[argsT,sI]at h;subst h;rfl|x::r,ts,vs,h=>by
  simp only[argsT]at h;split at h;·rename_i v vs' h1 h2;cases h;simp only[qa7,qyl h1,qqr h2,List.map_cons]
  grind
def ownL:TL S->List D|.own c xs _=>xs.map (S.enc c)|_=>[]
theorem qhn{s:TSt S}(x:Operand):Ab.shareOf s.toS x=(q7d s x).map fun p=>(p.1,ownL p.2):=by cases x with
 |tmp u=>simp only[Ab.shareOf,q7d,show s.toS.env=envA s.env from rfl,q2y];generalize getT s.env u=v;cases v with
  |fl y=>cases y with
   |own c xs l=>cases l<;>rfl|loc p=>cases p with
    |slot t=>simp only[TV.toA,TL.toA];generalize getT s.env t=w;cases w with
     |fl z=>cases z with|own c xs l=>cases l<;>rfl|_=>rfl
     |_=>rfl
    |cell o off=>rfl
   |_=>rfl
  |_=>rfl
 |_=>rfl
theorem qqq{s:TSt S}{x:Operand}{u:Nat}{v:TL S}(h:q7d s x=some (u,v)):∃c xs,v=.own c xs false:=by unfold q7d at h;grind
theorem qm5{s:TSt S}(x:Operand):Ab.shareCell s.toS x=(q6j s x).map fun p=>(p.1,p.2.1,p.2.2.1,ownL p.2.2.2):=by cases x with
 |tmp u=>simp only[Ab.shareCell,q6j,show s.toS.env=envA s.env from rfl,q2y,show s.toS.heap=heapA s.heap from rfl];generalize getT s.env u=v;cases v with
  |fl y=>cases y with
   |loc p=>cases p with|slot t=>rfl|cell o off=>simp only[TV.toA,TL.toA,q4v];generalize cellT s.heap o off=w;cases w with|own c xs l=>cases l<;>rfl|_=>rfl
   |_=>rfl
  |_=>rfl
 |_=>rfl
theorem qm3{s:TSt S}{x:Operand}{u o off:Nat}{v:TL S}(h:q6j s x=some (u,o,off,v)):∃c xs,v=.own c xs false:=by unfold q6j at h;grind
theorem qko(s:TSt S)(x:Operand):Ab.cellShared s.toS x=qe2 s x:=by cases x with
 |tmp u=>simp only[Ab.cellShared,qe2,show s.toS.env=envA s.env from rfl,q2y];generalize getT s.env u=v;cases v with
  |fl y=>cases y with|loc p=>cases p<;>rfl|_=>rfl
  |_=>rfl
 |_=>rfl
theorem qcw(s:TSt S)(l:List Operand):q50 s.toS l=qc4 s l:=by unfold q50 qc4;congr 1;funext x;rw[qhn,qko];cases q7d s x<;>rfl
theorem qcy:∀{l:List Operand}{s s1:TSt T.S}{ts:List TypeId}{vs:List (TL T.S)}{sh:List (Nat×Nat)},q6o T s ts l=some (vs,s1,sh)->q4x T.E s.toS l=some (vs.map TL.toA,s1.toS,sh)|[],s,s1,ts,vs,sh,h=>by simp only[q6o,sI,pI]at h;obtain⟨rfl,rfl,rfl⟩:=h;rfl|x::r,s,s1,ts,vs,sh,h=>by simp only[q6o]at h;cases h1:qke T s (ts.headD 0) x with|none=>grind|some q=>obtain⟨v,s2,l0⟩:=q;simp only[h1]at h;cases h2:q6o T s2 ts.tail r with|none=>grind|some q2=>
    obtain⟨vs',s3,l'⟩:=q2;simp only[h2,sI,pI]at h;obtain⟨rfl,rfl,rfl⟩:=h;have one:qet T.E s.toS x=some (v.toA,s2.toS,l0):=by unfold qke at h1;unfold qet;rw[qhn];cases hs:q7d s x with
     |none=>rw[hs]at h1;simp only at h1;rw[qm5];cases hsc:q6j s x with|some p=>obtain⟨u,o,off,w⟩:=p;obtain⟨c,xs,rfl⟩:=qm3 hsc;rw[hsc]at h1;simp only[sI,pI]at h1;obtain⟨rfl,rfl,rfl⟩:=h1;have e1:q0y (envA s.env)=envA (killT s.env):=qff s.env;have e2:q18 (heapA s.heap) o off .undef=heapA (qcc s.heap o off .undef):=qdm s.heap o off .undef;simp only[Option.map_none,mS,ownL,show s.toS.env=envA s.env from rfl,show s.toS.heap=heapA s.heap from rfl,e1,e2];simp only[TSt.toS,heapA,List.length_map,List.map_append,List.map_cons,List.map_nil,TL.toA]|none=>rw[hsc]at h1;simp only at h1;cases ha:argT T s (ts.headD 0) x with|none=>grind|some w=>rw[ha]at h1;simp only[sI,pI]at h1;obtain⟨rfl,rfl,rfl⟩:=h1;simp only[Option.map_none,qyl ha]
     |some p=>obtain⟨u,w⟩:=p;obtain⟨c,xs,rfl⟩:=qqq hs;rw[hs]at h1;simp only[sI,pI]at h1;obtain⟨rfl,rfl,rfl⟩:=h1;have e1:putE (envA s.env) u .undef=envA (putT s.env u (.fl .undef)):=qbr s.env u (.fl .undef);simp only[mS,ownL,e1,TSt.toS,heapA,List.length_map,List.map_append,List.map_cons,List.map_nil,TL.toA]
    simp only[q4x,one,qcy h2,List.map_cons]
theorem qsr(o:Nat)(v:TV S):qu5 o v.toA=qwd o v:=by cases v with|fl y=>cases y<;>rfl|_=>rfl
theorem qvd{dst:Option Nat}{o t:Nat}{s:TSt S}:qww dst o t s.toS=qtd dst o t s:=by cases dst with|none=>rfl|some d=>simp only[qww,qtd,show s.toS.env=envA s.env from rfl,q2y,qsr]
theorem qkj{dst:Option Nat}{o t:Nat}{s s1:TSt S}(h:qdz dst o t s=some s1):q5k dst o t s.toS=some s1.toS:=by
 unfold qdz at h;split at h
 .rename_i c xs d hcs hho;split at h
  .rename_i hc;cases h;have e0:s.toS.heap[o]?=some [.own (xs.map (S.enc c)) false]:=by show(heapA s.heap)[o]?=_;simp only[heapA,List.getElem?_map,hcs,mS,List.map_cons,List.map_nil,TL.toA]
   have e1:s.toS.heap.length=o+1:=by show(heapA s.heap).length=_;simp[heapA,hc.1]
   have e2:q31 o s.toS.heap=true:=by rw[show s.toS.heap=heapA s.heap from rfl,q5m];exact hc.2
   have e3:putE (dropE o (q0y (envA s.env))) d (.own (xs.map (S.enc c)) false)=envA (putT (dropT o (killT s.env)) d (.fl (.own c xs false))):=by rw[qff,qk5];exact qbr _ d (.fl (.own c xs false))
   simp only[q5k,e0,qvd,hho,e1,e2,and_self,if_true];rw[show s.toS.env=envA s.env from rfl,e3];simp only[TSt.toS,heapA,List.map_take]
  grind
 .rename_i hcs;split at h
  .rename_i hc;cases h;have e0:s.toS.heap[o]?=some [.undef]:=by show(heapA s.heap)[o]?=_;simp only[heapA,List.getElem?_map,hcs,mS,List.map_cons,List.map_nil,TL.toA]
   have e1:s.toS.heap.length=o+1:=by show(heapA s.heap).length=_;simp[heapA,hc.1]
   have e2:q31 o s.toS.heap=true:=by rw[show s.toS.heap=heapA s.heap from rfl,q5m];exact hc.2
   have e3:dropE o (envA s.env)=envA (dropT o s.env):=by rw[qk5]
   simp only[q5k,e0,e1,e2,and_self,if_true];rw[show s.toS.env=envA s.env from rfl,e3];simp only[TSt.toS,heapA,List.map_take]
  grind
 grind
theorem qh8{dst:Option Nat}:∀{l:List (Nat×Nat)}{s s1:TSt S},qcq dst l s=some s1->unshare dst l s.toS=some s1.toS|[],s,s1,h=>by simp only[qcq,sI]at h;subst h;rfl|(o,t)::r,s,s1,h=>by simp only[qcq]at h;cases h1:qcq dst r s with|none=>grind|some s2=>simp only[h1]at h;simp only[unshare,qh8 h1,qkj h]
theorem qzu{ops:Array Oper}{s:St}{o:Oper}{j t:Nat}{want:Bool}(hg:o.guard=some (j,want))(ht:(ops[j]?).bind (·.dst)=some t):q1o ops s o=match get s.env t with|.d (.v (.bool b))=>some (b==want)|.skipped=>some false|_=>none:=by simp only[q1o,hg];grind
theorem qgc(hS:T.S.Ok T.E.P){F:Fx}{r:Rule}{ops:Array Oper}{o:Oper}{s:TSt T.S}{k:TSt T.S->Option β}{x:β}(hg:q1o ops s.toS o=some true)(h:doOpT T F r ops o s k=some x):Runs (fun n=>runOp T.E F.f r ops n o s.toS) k x:=by
 unfold doOpT at h;split at h
 .rename_i t a y ho;split at h;·rename_i hd;obtain⟨s1,h1,h2⟩:=qvm hS h;exact⟨1,s1,by simp only[runOp,hg,ho,hd,if_true,h1],h2⟩
  grind
 .rename_i g args argTypes ho;by_cases hsh:qc4 s args.toList=true
  .rw[if_pos hsh]at h;by_cases hdr:r.draws=true;·grind
   .rw[if_neg hdr]at h;split at h
    .rename_i f caps vs s1' l hv hvs;obtain⟨n,s1,h1,h2⟩:=qnh h;simp only at h2;split at h2
     .rename_i s3 hu;refine⟨n+1,s3,?_,h2⟩;have hargs:=qcy hvs;simp only[runOp,hg,ho,qcw,hsh,if_true,if_neg hdr,q3d hv (by simp),TV.toA,TL.toA,hargs];have e:(List.map TL.toA (vs++List.map (fun x=>TL.ptr x.1 x.2) caps):List AV)=List.map TL.toA vs++List.map (fun x=>AV.ptr x.1 x.2) caps:=by rw[List.map_append];congr 1;simp[List.map_map,Function.comp_def,TL.toA]
      have h1':callA T.E (q5q T.E.an F.f r o) n f (List.map TL.toA (vs++List.map (fun x=>TL.ptr x.1 x.2) caps)) o.dst s1'.toS=some s1.toS:=h1;rw[<-e,h1'];exact qh8 hu
     simp_all
    grind
  .rw[if_neg hsh]at h;split at h;·rename_i f caps vs hv hvs;obtain⟨n,s1,h1,h2⟩:=qnh h;refine⟨n+1,s1,?_,h2⟩;simp only[runOp,hg,ho,qcw,if_neg hsh,q3d hv (by simp),TV.toA,TL.toA,qqr hvs];rw[<-h1,List.map_append];congr 2;simp[List.map_map,Function.comp_def,TL.toA]
   grind
 .rename_i hns hnc;split at h
  .rename_i hr;obtain⟨v,s1,h1,h2⟩:=y04 hS h;simp only at h2;split at h2;·rename_i w hw;refine⟨1,_,?_,h2⟩;have hk:=y6q hw;simp only[runOp,hg];simp only[hr,if_true,h1,hk,qtm,qgf]
   simp_all
  grind
theorem qpc{s:TSt S}{t:Nat}{v:TV S}(h:getT s.env t=v):({s with env:=replT s.env t v}:TSt S)=s:=by rw[qse h]
theorem y8q(hS:T.S.Ok T.E.P){F:Fx}{r:Rule}{ops:Array Oper}{o:Oper}{s:TSt T.S}{k:TSt T.S->Option β}{x:β}(h:opT T F r ops o s k=some x):Runs (fun n=>runOp T.E F.f r ops n o s.toS) k x:=by
 unfold opT at h;split at h;·rename_i hg;exact qgc hS (by simp only[q1o,hg]) h
 .rename_i j want hg;split at h;·cases h
  .rename_i t ht;have hgo:=qzu (s:=s.toS) hg ht;rw[show s.toS.env=envA s.env from rfl,q2y]at hgo;split at h
   .rename_i b hb;rw[hb]at hgo;simp only[TV.toA,TL.toA,PD.toD,leafD]at hgo;split at h;·rw[qpc hb]at h;cases want with|true=>exact qgc hS hgo h|false=>exact⟨1,_,by simp only[runOp,hgo];exact congrArg some (qgf s o.dst (.fl .skipped)),h⟩
    .rw[qpc hb]at h;cases want with|true=>exact⟨1,_,by simp only[runOp,hgo];exact congrArg some (qgf s o.dst (.fl .skipped)),h⟩|false=>exact qgc hS hgo h
   .rename_i hb;rw[hb]at hgo;simp only[TV.toA,TL.toA]at hgo;exact⟨1,_,by simp only[runOp,hgo];exact congrArg some (qgf s o.dst (.fl .skipped)),h⟩
   grind
theorem y1g{E:Env0}{f:FuncId}{r:Rule}{ops:Array Oper}{l:List Oper}{s s1:St}{n m:Nat}(h:runOps E f r ops n l s=some s1)(hle:n<=m):runOps E f r ops m l s=some s1:=by induction hle with|refl=>exact h|step _ ih=>exact(mono _).ops _ _ _ _ _ _ ih
theorem y98{E:Env0}{f:FuncId}{r:Rule}{ops:Array Oper}{o:Oper}{s s1:St}{n m:Nat}(h:runOp E f r ops n o s=some s1)(hle:n<=m):runOp E f r ops m o s=some s1:=by induction hle with|refl=>exact h|step _ ih=>exact(mono _).op _ _ _ _ _ _ ih
theorem qlw(hS:T.S.Ok T.E.P){F:Fx}{r:Rule}{ops:Array Oper}:∀{l:List Oper}{s:TSt T.S}{k:TSt T.S->Option β}{x:β},opsT T F r ops l s k=some x->Runs (fun n=>runOps T.E F.f r ops n l s.toS) k x|[],s,k,x,h=>⟨0,s,rfl,h⟩|o::l,s,k,x,h=>by obtain⟨n,s1,h1,h2⟩:=y8q hS h;obtain⟨m,s2,h3,h4⟩:=qlw hS h2;refine⟨max n m,s2,?_,h4⟩;simp only[q27,y98 h1 (Nat.le_max_left n m),y1g h3 (Nat.le_max_right n m)]
theorem y5o{F:Fx}{o:Oper}{s:TSt T.S}:qpz T.E F.f o s.toS=(takeT T F o s).map TSt.toS:=by
 unfold qpz takeT;split
 .rename_i t r d hop hg hd;simp only[hop,hg,hd];split;·rw[show s.toS.env=envA s.env from rfl,q2y];cases tyAgg T.E.P t with|none=>rfl|some g=>cases g with|false=>rfl|true=>match q0p T.E.P t with|none=>rfl|some 0=>rfl|some (n+2)=>rfl|some 1=>cases getT s.env r with
      |fl x=>cases x with
       |ptr p off=>simp only[TV.toA,TL.toA];rw[show content s.toS (.cell p off)=(cellT s.heap p off).toA from q4v _ _ _];cases cellT s.heap p off with
        |own c xs l=>cases l with|false=>simp only[TL.toA,mS,sI];rw[<-qgf,<-qha];rfl|true=>rfl
        |d y=>cases y<;>rfl|_=>rfl
       |d y=>cases y<;>rfl|_=>rfl
      |_=>rfl
  rfl
 simp
theorem y44{F:Fx}{ops:Array Oper}{s:TSt T.S}:q5a T.E F.f ops s.toS=((headT T F ops s).1,(headT T F ops s).2.toS):=by unfold q5a headT;cases ops.toList with|nil=>rfl|cons o l=>simp only[y5o];cases takeT T F o s<;>rfl
theorem qw7{v:TV S}{x:TL S}(h:outT v=some x):outOf v.toA=some x.toA:=by
 unfold outT at h;split at h;·cases h;rfl
 .cases h;rfl
 .cases h;rfl
 .split at h
  .rename_i p hp;cases h;have h1:=qdl hp;unfold outOf;split;·rename_i hv;rw[hv]at h1;cases h1
   .rename_i hv;rw[hv]at h1;cases h1
   .rename_i hv;rw[hv]at h1;cases h1
   .rw[h1];rfl
  grind
theorem qv0{P:Program}{s:TSt S}{r:ResultVar}{v:TL S}(h:qun P s r=some v):q56 P s.toS r=some v.toA:=by unfold qun at h;unfold q56;cases r with|tmp t=>simp only at h⊢;rw[show s.toS.env=envA s.env from rfl,q2y];exact qw7 h|cell a t=>
  simp only at h⊢;rw[show s.toS.env=envA s.env from rfl,q2y];split at h
  .rename_i o off hv;rw[hv];simp only[TV.toA,TL.toA];rw[show s.toS.heap=heapA s.heap from rfl,qik];split at h
   .rename_i n cs h1 h2 h3;rw[h1,h2,h3];simp only[mS];split at h
    .rename_i hle;rw[List.length_map,if_pos hle];split at h
     .rename_i ds hds;cases h;have h4:((cs.map TL.toA).drop off).take n=((cs.drop off).take n).map TL.toA:=by simp[List.map_take,List.map_drop]
      rw[h4,q3z hds];rfl
     .cases h
    .cases h
   .rename_i cs h1 h3;rw[h1,h3];simp only[mS];split at h;·rename_i w hw;simp only[List.getElem?_map,hw,mS];exact qw7 (v:=.fl w) h
    .cases h
   grind
  grind
theorem qi7{P:Program}{s:TSt S}:∀{l:List ResultVar}{vs:List (TL S)},qer P s l=some vs->q1y P s.toS l=some (vs.map TL.toA)
 |[],vs,h=>by simp only[qer,sI]at h;subst h;rfl|r::l,vs,h=>by
  simp only[qer]at h;split at h;·rename_i v vs' h1 h2;cases h;simp only[q1y,qv0 h1,qi7 h2,List.map_cons]
  grind
theorem qsy(h:THeap S)(k:Nat):((heapA h).take k).flatMap (fun cs=>cs.flatMap q0m)=(h.take k).flatMap fun cs=>cs.flatMap ptrsT:=by rw[heapA,<-List.map_take];generalize h.take k=l;induction l with|nil=>rfl|cons cs r ih=>simp only[List.map_cons,List.flatMap_cons,qlb,ih]
theorem y19(h:THeap S):(heapA h).flatMap (fun cs=>cs.flatMap q0m)=h.flatMap fun cs=>cs.flatMap ptrsT:=by have:=qsy h h.length;rwa [List.take_length,show h.length=(heapA h).length by simp[heapA],List.take_length]at this
theorem y3y{s:TSt S}{k:Nat}(l:List ResultVar):l.all (q7c s.toS k)=l.all (y3g s k):=by congr 1;funext r;cases r with|tmp t=>rfl|cell a t=>simp only[q7c,y3g];rw[show s.toS.env=envA s.env from rfl,q2y];cases getT s.env a with|fl x=>cases x<;>rfl|_=>rfl
theorem y06(vs:List (TL S)):qhh (q11 (vs.map TL.toA))=y34 vs:=by match vs with
 |[]=>rfl|[x]=>cases x with|d y=>cases y<;>rfl|_=>rfl
 |[x,y]=>cases x<;>cases y<;>rfl|x::y::z::r=>cases x<;>cases y<;>rfl
theorem qp9(hS:S.Ok P){F:Fx}{o:OSpec S}{s:TSt S}{x:o.Out}(h:y4l P F o s=some x):leave P F.fn F.k s.toS=some (q11 ((resOf o x).map TL.toA),heapA (q2u o x)):=by
 unfold y4l at h;unfold leave;split at h;·cases h
 .rename_i vs hvs;rw[qi7 hvs];simp only[qlb,show s.toS.heap=heapA s.heap from rfl,qsy,y19,show(heapA s.heap).length=s.heap.length by simp[heapA],y3y,y06];split at h;·cases h
  rename_i hmk;rw[if_neg hmk];split at h;·rename_i hc;rw[if_pos hc];obtain⟨⟨h1,h2,h3⟩,h4⟩:=qrj h;obtain⟨h5,h6⟩:=qpq hS h2 h3 h4;rw[if_pos h1,h5,h6];simp[heapA,List.map_take]
  .rename_i hc;rw[if_neg hc];obtain⟨⟨h1,h2,h3⟩,h4⟩:=qrj h;obtain⟨h5,h6⟩:=qpq hS h2 h3 h4;grind
theorem qm1(hS:S.Ok P){F:Fx}{o:OSpec S}{s:TSt S}{x:o.Out}(h:qtv P F o s=some x):qkt P F.fn F.k s.toS=some (q11 ((resOf o x).map TL.toA),heapA (q2u o x)):=by
 unfold qtv at h;split at h
 .rename_i t hres;split at h
  .rename_i c xs hg;obtain⟨⟨h1,h2,h3⟩,h4⟩:=qrj h;obtain⟨h5,h6⟩:=qpq hS h2 h3 h4;have hg':get s.toS.env t=.own (xs.map (S.enc c)) false:=by rw[show s.toS.env=envA s.env from rfl,q2y,hg];rfl
   unfold qkt;rw[hres];simp only[hg',show s.toS.heap=heapA s.heap from rfl,q5m,show(heapA s.heap).length=s.heap.length by simp[heapA],h1,if_true,h5,h6];simp[heapA,List.map_take,TL.toA,q11]
  grind
 .rename_i r t hres;split at h
  .rename_i p hg ht hn;split at h
   .rename_i c xs hct;obtain⟨⟨h1,h2,h3⟩,h4⟩:=qrj h;obtain⟨h5,h6⟩:=qpq hS h2 h3 h4;have hg':get s.toS.env r=.ptr p 0:=by rw[show s.toS.env=envA s.env from rfl,q2y,hg];rfl
    have hc':content s.toS (.cell p 0)=.own (xs.map (S.enc c)) false:=by show q0v (heapA s.heap) p 0=_;rw[q4v,hct];rfl
    unfold qkt;rw[hres];simp only[hg',ht,hn,hc',show s.toS.heap=heapA s.heap from rfl,q5m,show(heapA s.heap).length=s.heap.length by simp[heapA],h1,if_true,h5,h6];simp[heapA,List.map_take,TL.toA,q11]
   .cases h
  grind
 grind
theorem qd3(hS:S.Ok P){own:Bool}{F:Fx}{o:OSpec S}{s:TSt S}{x:o.Out}(h:qgy own P F o s=some x):qbl own P F.fn F.k s.toS=some (q11 ((resOf o x).map TL.toA),heapA (q2u o x)):=by
 unfold qgy at h;unfold qbl;split at h;·rename_i hc;rw[if_pos hc];exact qm1 hS h
 .rename_i hc;rw[if_neg hc];exact qp9 hS h
def KGoes(T:TEn)(F:Fx)(o:OSpec T.S)(ex:Ex)(K:List Fr)(s:St)(x:o.Out):Prop:=∃n ex' s2,unw T.E F.f F.k n K ex s=some (ex',s2)/\fin (T.E.an.own F.f) T.E.P F.fn F.k ex' s2=some (q11 ((resOf o x).map TL.toA),heapA (q2u o x))
theorem qb1{F:Fx}{o:OSpec T.S}{c:Code}{K:List Fr}{s s1:St}{ex:Ex}{x:o.Out}{n:Nat}(h:exec T.E F.f F.k n c s=some (ex,s1))(hk:KGoes T F o ex K s1 x):Goes T.E F c K s (q11 ((resOf o x).map TL.toA),heapA (q2u o x)):=by obtain⟨m,ex',s2,h1,h2⟩:=hk;exact⟨max n m,ex,s1,ex',s2,qks h (Nat.le_max_left n m),q4s (Nat.le_max_right n m) h1,h2⟩
theorem qz8{F:Fx}{o:OSpec T.S}{c:Code}{K:List Fr}{s:St}{x:o.Out}(h:Goes T.E F c K s (q11 ((resOf o x).map TL.toA),heapA (q2u o x))):∃n ex s1,exec T.E F.f F.k n c s=some (ex,s1)/\KGoes T F o ex K s1 x:=by obtain⟨n,ex,s1,ex',s2,h1,h2,h3⟩:=h;exact⟨n,ex,s1,h1,n,ex',s2,h2,h3⟩
theorem k_seq{F:Fx}{o:OSpec T.S}{b:Code}{K:List Fr}{s:St}{x:o.Out}(h:Goes T.E F b K s (q11 ((resOf o x).map TL.toA),heapA (q2u o x))):KGoes T F o .normal (.seq b::K) s x:=by obtain⟨n,ex,s1,ex',s2,h1,h2,h3⟩:=h;exact⟨n,ex',s2,by simp only[unw,h1];omega,h3⟩
theorem yi3{F:Fx}{o:OSpec T.S}{b:Code}{m:Nat}{K:List Fr}{s:St}{x:o.Out}(h:Goes T.E F (.loop b) K (endRound F.k m s) (q11 ((resOf o x).map TL.toA),heapA (q2u o x))):KGoes T F o .normal (.loop b m::K) s x:=by obtain⟨n,ex,s1,ex',s2,h1,h2,h3⟩:=h;exact⟨n,ex',s2,by simp only[unw,h1];omega,h3⟩
theorem y2y(hS:T.S.Ok T.E.P){F:Fx}{o:OSpec T.S}{s:TSt T.S}{x:o.Out}(h:qgy (T.E.an.own F.f) T.E.P F o s=some x)(K:List Fr):KGoes T F o .ret K s.toS x:=⟨0,.ret,s.toS,qpo K _,qd3 hS h⟩
theorem yk3{F:Fx}{o:OSpec T.S}{a b:Code}{K:List Fr}{s:St}{x:o.Out}(h:Goes T.E F a (.seq b::K) s (q11 ((resOf o x).map TL.toA),heapA (q2u o x))):Goes T.E F (.seq a b) K s (q11 ((resOf o x).map TL.toA),heapA (q2u o x)):=by obtain⟨n,ex,s1,ex',s2,h1,h2,h3⟩:=h;cases ex with
 |normal=>
  simp only[unw]at h2;split at h2;·rename_i e3 s3 h4;exact⟨n+1,e3,s3,ex',s2,by rw[qip _ _ _ _ _ _,h1];exact h4,q4s (Nat.le_succ n) h2,h3⟩
  simp_all|exit i=>simp only[unw]at h2;exact⟨n+1,_,s1,ex',s2,by rw[qip _ _ _ _ _ _,h1],q4s (Nat.le_succ n) h2,h3⟩|ret=>simp only[unw]at h2;exact⟨n+1,_,s1,ex',s2,by rw[qip _ _ _ _ _ _,h1],q4s (Nat.le_succ n) h2,h3⟩
theorem y7n{F:Fx}{o:OSpec T.S}{id:Nat}{b:Code}{K:List Fr}{s:St}{x:o.Out}(h:Goes T.E F b (.block id s.heap.length::K) s (q11 ((resOf o x).map TL.toA),heapA (q2u o x))):Goes T.E F (.block id b) K s (q11 ((resOf o x).map TL.toA),heapA (q2u o x)):=by
 obtain⟨n,ex,s1,ex',s2,h1,h2,h3⟩:=h;cases ex with|normal=>simp only[unw]at h2;exact⟨n+1,_,_,ex',s2,by rw[q8d,h1],q4s (Nat.le_succ n) h2,h3⟩|exit i=>
  simp only[unw]at h2;split at h2;·rename_i hi;exact⟨n+1,.normal,_,ex',s2,by rw[q8d,h1];grind,q4s (Nat.le_succ n) h2,h3⟩
  .rename_i hi;exact⟨n+1,.exit i,s1,ex',s2,by rw[q8d,h1];grind,q4s (Nat.le_succ n) h2,h3⟩|ret=>simp only[unw]at h2;exact⟨n+1,_,s1,ex',s2,by rw[q8d,h1],q4s (Nat.le_succ n) h2,h3⟩
theorem yec{F:Fx}{o:OSpec T.S}{b:Code}{K:List Fr}{s:St}{x:o.Out}(h:Goes T.E F b (.loop b s.heap.length::K) s (q11 ((resOf o x).map TL.toA),heapA (q2u o x))):Goes T.E F (.loop b) K s (q11 ((resOf o x).map TL.toA),heapA (q2u o x)):=by obtain⟨n,ex,s1,ex',s2,h1,h2,h3⟩:=h;cases ex with
 |normal=>
  simp only[unw]at h2;split at h2;·rename_i e3 s3 h4;exact⟨n+1,e3,s3,ex',s2,by rw[qeg,h1];exact h4,q4s (Nat.le_succ n) h2,h3⟩
  grind|exit i=>simp only[unw]at h2;exact⟨n+1,_,s1,ex',s2,by rw[qeg,h1],q4s (Nat.le_succ n) h2,h3⟩|ret=>simp only[unw]at h2;exact⟨n+1,_,s1,ex',s2,by rw[qeg,h1],q4s (Nat.le_succ n) h2,h3⟩
theorem y2v(s:TSt S):s.toS.heap.length=s.heap.length:=by simp[TSt.toS,heapA]
theorem qno{s:TSt T.S}{x:Operand}{v:TV T.S}(h:evT T s 0 x=v):replO s x v=s:=by cases x with|tmp t=>exact qpc (s:=s) (t:=t) h|_=>rfl
theorem qfe(hS:T.S.Ok T.E.P)(F:Fx)(o:OSpec T.S):∀(n:Nat),(∀(c:Code)(K:List Fr)(s:TSt T.S)(x:o.Out),te T F o n c K s=some x->BSem T F o c K s x)/\(∀(ex:Ex)(K:List Fr)(s:TSt T.S)(x:o.Out),teK T F o n ex K s=some x->KGoes T F o ex K s.toS x)
 |0=>⟨fun c K s x h=>qp4 h,fun ex K s x h=>by cases h⟩|n+1=>by
  obtain⟨ih,ihK⟩:=qfe hS F o n;constructor;·intro c K s x h;unfold BSem;have hseq1:∀m,exec T.E F.f F.k (m+1) .skip s.toS=some (.normal,s.toS):=fun _=>rfl;unfold te at h;cases c with
   |skip=>exact qb1 (n:=1) rfl (ihK _ _ _ _ h)|label l=>exact qb1 (n:=1) rfl (ihK _ _ _ _ h)|region id ops draw=>simp only at h;cases draw with
    |true=>
     simp only at h;split at h
     .rename_i l hl;have hfr:qhk T.E.an F.f ops s.toS=true:=by simp_all
      simp only[hfr,Bool.true_eq_false,if_false]at h;obtain⟨m,s1,h1,h2⟩:=qlw hS h;refine qb1 (n:=m+1) (ex:=.normal) (s1:={s1.toS with env:=q8v s1.toS.env (T.E.an.clear F.f id)}) ?_ ?_;·rw[q9u];simp only[if_true,hfr,Bool.true_eq_false,if_false,hl,List.map_cons,List.map_nil,agree,h1]
      .have:=ihK _ _ _ _ h2;simp only[TSt.toS]at this⊢;rw[qja];omega
     grind|false=>
     simp only at h;obtain⟨m,s1,h1,h2⟩:=qlw hS h;refine qb1 (n:=m+1) (ex:=.normal) (s1:={s1.toS with env:=q8v s1.toS.env (T.E.an.clear F.f id)}) ?_ ?_;·rw[q9u];simp only[fT,if_false,y44,h1]
     .have:=ihK _ _ _ _ h2;simp only[TSt.toS]at this⊢;rw[qja];omega
   |seq a b=>exact yk3 (ih _ _ _ _ h)|cond y a b=>
    simp only at h;split at h
    .rename_i t ht;have hev:=q3d ht (by simp);split at h;·rw[qno ht]at h;obtain⟨m,ex,s1,h1,h2⟩:=qz8 (ih _ _ _ _ h);exact qb1 (n:=m+1) (by rw[qk4,hev];exact h1) h2
     .rw[qno ht]at h;obtain⟨m,ex,s1,h1,h2⟩:=qz8 (ih _ _ _ _ h);exact qb1 (n:=m+1) (by rw[qk4,hev];exact h1) h2
    grind|block id b=>refine y7n ?_;rw[y2v];exact ih _ _ _ _ h|loop b=>exact qp4 h|exit id=>exact qb1 (n:=1) rfl (ihK _ _ _ _ h)|ret=>exact qb1 (n:=1) rfl (y2y hS h K)|_=>cases h
  .intro ex K s x h;unfold teK at h;split at h;·exact y2y hS h _
   .exact⟨0,.normal,s.toS,rfl,qd3 hS h⟩
   .split at h;·exact k_seq (qp4 h)
    .exact k_seq (ih _ _ _ _ h)
   .obtain⟨m,e2,s2,h1,h2⟩:=ihK _ _ _ _ h;rw[<-qo0]at h1;exact⟨m,e2,s2,by simp only[unw];omega,h2⟩
   .refine yi3 ?_;rw[qsf];exact qp4 h
   .obtain⟨m,e2,s2,h1,h2⟩:=ihK _ _ _ _ h;exact⟨m,e2,s2,by simp only[unw];omega,h2⟩
   .split at h;·rename_i hi;obtain⟨m,e2,s2,h1,h2⟩:=ihK _ _ _ _ h;rw[<-qo0]at h1;exact⟨m,e2,s2,by simp only[unw,hi,if_true];omega,h2⟩
    .rename_i hi;obtain⟨m,e2,s2,h1,h2⟩:=ihK _ _ _ _ h;exact⟨m,e2,s2,by simp only[unw,hi,if_false];omega,h2⟩
   .obtain⟨m,e2,s2,h1,h2⟩:=ihK _ _ _ _ h;exact⟨m,e2,s2,by simp only[unw];omega,h2⟩
   grind
theorem qd4(hS:T.S.Ok T.E.P){F:Fx}{o:OSpec T.S}{c:Code}{K:List Fr}{s:TSt T.S}(n:Nat){p:Option o.Out}(h:te T F o n c K s=p):Le p (goC T F o c K s):=fun r hr=>ybh hS ((qfe hS F o n).1 c K s r (h.trans hr))
theorem y8w(hS:T.S.Ok T.E.P){F:Fx}{o:OSpec T.S}{b:Code}{K:List Fr}{s:TSt T.S}(n:Nat){p:Option o.Out}(h:te T F o n b (.loop b s.heap.length::K) s=p):Le p (goC T F o (.loop b) K s):=fun r hr=>ybh hS (yec (by rw[y2v];exact(qfe hS F o n).1 b (.loop b s.heap.length::K) s r (h.trans hr)))
theorem qzo(hS:T.S.Ok T.E.P){F:Fx}{o:OSpec T.S}{b c:Code}{K:List Fr}{s:TSt T.S}(n:Nat){p:Option o.Out}(hc:c=.loop b)(h:te T F o n b (.loop b s.heap.length::K) s=p):Le p (goC T F o c K s):=by subst hc;exact y8w hS n h
def qjx:List Nat->Code->Code|0::r,.seq a _=>qjx r a|1::r,.seq _ b=>qjx r b|0::r,.cond _ a _=>qjx r a|1::r,.cond _ _ b=>qjx r b|0::r,.block _ b=>qjx r b|0::r,.loop b=>qjx r b|_,c=>c
def qla:List Nat->Code->List Nat->List Fr->List Fr|0::r,.seq a b,ms,K=>qla r a ms (.seq b::K)|1::r,.seq _ b,ms,K=>qla r b ms K|0::r,.cond _ a _,ms,K=>qla r a ms K|1::r,.cond _ _ b,ms,K=>qla r b ms K|0::r,.block id b,ms,K=>qla r b ms.tail (.block id (ms.headD 0)::K)|0::r,.loop b,ms,K=>qla r b ms.tail (.loop b (ms.headD 0)::K)|_,_,_,K=>K
theorem q2c{k:IntKind}{a b:Int}(h:D.v (.int k a)=D.v (.int k b)):a=b:=by grind
theorem qw2{a b:Bool}(h:D.v (.bool a)=D.v (.bool b)):a=b:=by grind
theorem q17{α:Type}{e:α->D}(he:∀a b,e a=e b->a=b){xs ys:List α}(h:D.list (xs.map e)=D.list (ys.map e)):xs=ys:=by injection h with h;exact(List.map_inj_right (fun a b hab=>he a b hab)).1 h
def bindT:Nat->List (TL S)->TEnv S|_,[]=>[]|k,v::r=>(k,.fl v)::bindT (k+1) r
theorem qxj:∀(vs:List (TL S))(k:Nat),q2o k (vs.map TL.toA)=envA (bindT k vs)|[],_=>rfl|v::r,k=>by simp only[List.map_cons,q2o,bindT,qxj r];rfl
theorem y79(hS:T.S.Ok T.E.P){f:FuncId}{fn:Func}{c:Code}{vs:List (TL T.S)}{hs:THeap T.S}{o:OSpec T.S}(n:Nat)(hok:T.E.ok f=true)(hf:T.E.P.funcs[f]?=some fn)(hb:fn.body=some c)(hn0:(decide (vs.length<=fn.ntmps)&&(q83 T.E.P fn c).isNone&&(T.E.lib f).isNone)=true){p:Option o.Out}(h:te T ⟨f,fn,hs.length⟩ o n c [] ⟨bindT 0 vs,hs⟩=p):Le p (callC T f vs hs o):=by
 rw[aT,aT]at hn0;have hn:=of_decide_eq_true hn0.1.1;have hnil:q83 T.E.P fn c=none:=Option.isNone_iff_eq_none.1 hn0.1.2;have hlb:T.E.lib f=none:=Option.isNone_iff_eq_none.1 hn0.2;have hro:qcz T.E.P fn c=c:=by simp[qcz,hnil]
 have hgn:∀vs hp r,q48 T.E.P fn c vs hp r=r:=fun vs hp r=>by simp[q48,hnil]
 intro r hr;obtain⟨m,ex,s1,ex',s2,h1,h2,h3⟩:=(qfe hS ⟨f,fn,hs.length⟩ o n).1 c [] ⟨bindT 0 vs,hs⟩ r (h.trans hr);cases h2;refine qim hS ⟨m+1,?_⟩;have he:(⟨q2o 0 (vs.map TL.toA),heapA hs⟩:St)=(⟨bindT 0 vs,hs⟩:TSt T.S).toS:=by simp only[TSt.toS,qxj]
 have hl:(heapA hs).length=hs.length:=by simp[heapA]
 have h1':exec T.E f hs.length m c (⟨bindT 0 vs,hs⟩:TSt T.S).toS=some (ex,s1):=h1;simp only[call,hok,hlb,if_true,hf,hb,List.length_map,hn,he,hro,hgn,hl,h1'];cases ex with|normal=>simpa[fin,heapA]using h3|ret=>simpa[fin,heapA]using h3|exit i=>cases h3
theorem qea(hS:T.S.Ok T.E.P){f:FuncId}{fn:Func}{c rest:Code}{cl:T.S.TC}{xs:List (T.S.Ty cl)}{o:OSpec T.S}(n:Nat)(hok:T.E.ok f=true)(hf:T.E.P.funcs[f]?=some fn)(hb:fn.body=some c)(hn0:(decide (1<=fn.ntmps)&&(T.E.lib f).isNone)=true)(hnil:q83 T.E.P fn c=some rest){p:Option o.Out}(h:te T ⟨f,fn,0⟩ o n rest [] ⟨bindT 0 [.d (.lf (.l cl xs))],[]⟩=p)(he:xs=[]->∀r,p=some r->q11 ((resOf o r).map TL.toA)=.ref 0/\heapA (q2u o r)=[[.own [] false]]):Le p (callC T f [.d (.lf (.l cl xs))] [] o):=by
 rw[aT]at hn0;have hn:=of_decide_eq_true hn0.1;have hlb:T.E.lib f=none:=Option.isNone_iff_eq_none.1 hn0.2;have hro:qcz T.E.P fn c=rest:=by simp[qcz,hnil]
 intro r hr;obtain⟨m,ex,s1,ex',s2,h1,h2,h3⟩:=(qfe hS ⟨f,fn,0⟩ o n).1 rest [] ⟨bindT 0 [.d (.lf (.l cl xs))],[]⟩ r (h.trans hr);cases h2;refine qim hS ⟨m+1,?_⟩;have hst:(⟨q2o 0 ([TL.d (.lf (.l cl xs))].map TL.toA),heapA ([]:THeap T.S)⟩:St)=(⟨bindT 0 [.d (.lf (.l cl xs))],[]⟩:TSt T.S).toS:=by rfl
 have hg:∀q,q=some (q11 ((resOf o r).map TL.toA),heapA (q2u o r))->q48 T.E.P fn c ([TL.d (.lf (.l cl xs))].map TL.toA) (heapA ([]:THeap T.S)) q=q:=by rintro q rfl;unfold q48;rw[hnil];cases xs with|nil=>obtain⟨e1,e2⟩:=he rfl r hr;rw[e1,e2];rfl|cons x xs=>rfl
 have h1':exec T.E f (heapA ([]:THeap T.S)).length m rest (⟨bindT 0 [.d (.lf (.l cl xs))],[]⟩:TSt T.S).toS=some (ex,s1):=h1;simp only[call,hok,hlb,if_true,hf,hb,List.length_map,List.length_singleton,hn,hst,hro,h1'];cases ex with|normal=>rw[show fin _ _ _ _ Ex.normal s1=_ from rfl]at h3;exact(hg _ h3).trans h3|ret=>exact(hg _ h3).trans h3|exit i=>cases h3
theorem qan(hS:T.S.Ok T.E.P){f:FuncId}{m:List AV->Heap->Option (AV×Heap)}{vs:List (TL T.S)}{hs:THeap T.S}{o:OSpec T.S}(hok:T.E.ok f=true)(hl:T.E.lib f=some m){x:o.Out}(h:libA m (vs.map TL.toA) (heapA hs)=some (q11 ((resOf o x).map TL.toA),heapA (q2u o x)))(hp:T.E.pre f=none:=by rfl):callC T f vs hs o=some x:=qim hS ⟨1,by simp only[call,hok,hl,hp,if_true];exact h⟩
theorem y2f(hS:T.S.Ok T.E.P){f g:FuncId}{m:List AV->Heap->Option (AV×Heap)}{k:AV->List AV->Heap->Option (AV×Heap)}{vs:List (TL T.S)}{hs:THeap T.S}{o og:OSpec T.S}(hok:T.E.ok f=true)(hl:T.E.lib f=some m)(hp:T.E.pre f=some (g,k)){y:og.Out}(hg:callC T g vs hs og=some y)(hh:heapA (q2u og y)=[]){x:o.Out}(h:libA (k (q11 ((resOf og y).map TL.toA))) (vs.map TL.toA) (heapA hs)=some (q11 ((resOf o x).map TL.toA),heapA (q2u o x))):callC T f vs hs o=some x:=by obtain⟨n,hn⟩:=qj5 hg;rw[hh]at hn;exact qim hS ⟨n+1,by simp only[call,hok,hl,hp,if_true,hn];exact h⟩
end Go.Ab

namespace Go.Ab
theorem Le.refl{α:Type}(a:Option α):Le a a:=fun _ h=>h
theorem Le.trans{α:Type}{a b c:Option α}(h:Le a b)(h':Le b c):Le a c:=fun r hr=>h' r (h r hr)
theorem wrap64{n:Int}(h1:-9223372036854775808<=n)(h2:n<9223372036854775808):IntKind.wrap .i64 n=n:=by
 have key:IntKind.wrap .i64 n=if n%18446744073709551616≥9223372036854775808 then n%18446744073709551616-18446744073709551616 else n%18446744073709551616:=by show(if(true&&decide (n%18446744073709551616≥9223372036854775808))=true then n%18446744073709551616-18446744073709551616 else n%18446744073709551616)=_;simp only[tA',dT']
 omega
theorem q2l{a b:Int}(h1:-9223372036854775808<=a+b)(h2:a+b<9223372036854775808):addI .i64 a b=a+b:=wrap64 h1 h2
theorem q5y{a b:Int}(h1:-9223372036854775808<=a-b)(h2:a-b<9223372036854775808):subI .i64 a b=a-b:=wrap64 h1 h2
theorem shl1{k:Int}(h0:0<=k)(h:k<=62):shlI .i64 1 k=((2^k.toNat:Nat):Int):=by
 obtain⟨n,rfl⟩:=Int.eq_ofNat_of_zero_le h0;have hn:n<=62:=by omega
 simp only[shlI,IntKind.bits,tN,Int.one_mul];rw[Nat.min_eq_left (by omega)];have:(2:Int)^n=((2^n:Nat):Int):=by simp
 rw[this];have h2:2^n<=2^62:=Nat.pow_le_pow_right (by decide) hn;have h3:(2:Nat)^62=4611686018427387904:=by rfl
 generalize 2^n=m at*;exact wrap64 (by omega) (by omega)
theorem yef{a b:Int}:eqB a b=true↔a=b:=by simp[eqB]
theorem q03{a b:Int}(h:a<b):ltB a b=true:=by simp[ltB,h]
theorem q00{a b:Int}(h:b<=a):ltB a b=false:=by simp[ltB,h]
theorem q10{a b:Int}(h:a<=b):leB a b=true:=by simp[leB,h]
theorem q12{a b:Int}(h:b<a):leB a b=false:=by simp[leB,h]
theorem q0g(a:Int):eqB a a=true:=by simp[eqB]
theorem q0h(a:Int):neB a a=false:=by simp[neB]
theorem q0i{a b:Int}(h:a≠b):eqB a b=false:=by simp[eqB,h]
theorem q0w{a b:Int}(h:a≠b):neB a b=true:=by simp[neB,h]
theorem q0f{β:Type}{p:Prop} [Decidable p](h:p)(k:Option β):chk p k=k:=by simp[chk,h]
theorem q05{β:Type}{n:Nat}(h:n<=q06)(k:Option β):capOk n k=k:=by simp[capOk,h]
theorem q9b{β:Type}{len:Nat}{n:Int}(h0:0<=n)(h:n<=(len:Int))(k:Nat->Option β):hiK len n k=k n.toNat:=by simp[hiK,h0,h]
def ndiff(a b:Nat):Nat:=a^^^(a&&&b)
theorem q0c(a b i:Nat):(ndiff a b).testBit i=(a.testBit i&&!b.testBit i):=by simp only[ndiff,Nat.testBit_xor,Nat.testBit_and];cases a.testBit i<;>cases b.testBit i<;>rfl
theorem q86(a:Nat):BitVec.ofInt 64 (a:Int)=BitVec.ofNat 64 a:=by simp
theorem mod64{a:Nat}(h:a<2^62):a%2^64=a:=Nat.mod_eq_of_lt (by omega)
theorem qvs{a:Nat}(h:a<2^62):IntKind.wrap .i64 (a:Int)=a:=wrap64 (by omega) (by omega)
theorem q34{a b:Nat}(ha:a<2^62)(hb:b<2^62):orI .i64 (a:Int) (b:Int)=((a|||b:Nat):Int):=by show IntKind.wrap .i64 (((BitVec.ofInt 64 (a:Int))|||(BitVec.ofInt 64 (b:Int))).toNat:Int)=_;rw[q86,q86,BitVec.toNat_or,BitVec.toNat_ofNat,BitVec.toNat_ofNat,mod64 ha,mod64 hb];exact qvs (Nat.or_lt_two_pow ha hb)
theorem q3o{a b:Nat}(ha:a<2^62)(hb:b<2^62):andI .i64 (a:Int) (b:Int)=((a&&&b:Nat):Int):=by show IntKind.wrap .i64 (((BitVec.ofInt 64 (a:Int))&&&(BitVec.ofInt 64 (b:Int))).toNat:Int)=_;rw[q86,q86,BitVec.toNat_and,BitVec.toNat_ofNat,BitVec.toNat_ofNat,mod64 ha,mod64 hb];exact qvs (Nat.and_lt_two_pow _ hb)
theorem qx2{a b n:Nat}(h:a<2^n):ndiff a b<2^n:=by apply Nat.lt_pow_two_of_testBit;intro i hi;rw[q0c];have:a.testBit i=false:=Nat.testBit_lt_two_pow (Nat.lt_of_lt_of_le h (Nat.pow_le_pow_right (by decide) hi));simp_all
theorem qlr{a b:Nat}(ha:a<2^62)(_hb:b<2^62):qkn .i64 (a:Int) (b:Int)=((ndiff a b:Nat):Int):=by
 have key:(BitVec.ofNat 64 a&&&~~~BitVec.ofNat 64 b).toNat=ndiff a b:=by
  apply Nat.eq_of_testBit_eq;intro i;rw[q0c];by_cases hi:i<64;·grind
  .have h1:a.testBit i=false:=Nat.testBit_lt_two_pow (Nat.lt_of_lt_of_le ha (Nat.pow_le_pow_right (by decide) (by omega)));grind
 show IntKind.wrap .i64 (((BitVec.ofInt 64 (a:Int))&&&~~~(BitVec.ofInt 64 (b:Int))).toNat:Int)=_;rw[q86,q86,key];exact qvs (qx2 ha)
theorem qyh(a k:Nat)(hk:k<=64):shrI .i64 (a:Int) (k:Int)=((a>>>k:Nat):Int):=by simp only[shrI,IntKind.bits,tN,Nat.min_eq_left hk,Nat.shiftRight_eq_div_pow];grind
section
variable {α β : Type} {xs r : List α} {i : Nat} {y : α}
theorem q04(h:xs.drop i=y::r)(k:α->Option β):nth xs (i:Int) k=k y:=by
 have h1:xs[i]?=some y:=by have:=congrArg (·[0]?) h;grind
 simp[nth,h1]
theorem q01(h:xs.drop i=y::r):xs.drop (i+1)=r:=by rw[show i+1=i+1 from rfl,<-List.drop_drop,h];rfl
theorem q09(h:xs.drop i=y::r):i<xs.length:=by
 by_cases hl:i<xs.length;·omega
 .rw[List.drop_eq_nil_of_le (by omega)]at h;cases h
theorem q07(h:xs.drop i=y::r):ltB (i:Int) ((xs.length:Nat):Int)=true:=q03 (by have:=q09 h;omega)
theorem q0d(h:xs.drop i=[]):ltB (i:Int) ((xs.length:Nat):Int)=false:=q00 (by simp_all)
theorem q02(h:i<4611686018427387904):addI .i64 (i:Int) 1=((i+1:Nat):Int):=by rw[q2l (by omega) (by omega)];omega
end
theorem q0j{α β:Type}{xs:List α}{n:Int}{y:α}(h0:0<=n)(h:xs[n.toNat]?=some y)(k:α->Option β):nth xs n k=k y:=by simp[nth,h0,h]
theorem q3r{α β:Type}{xs:List α}{n:Nat}{y:α}(h:xs[n]?=some y)(k:α->Option β):nthN xs n k=k y:=by simp[nthN,h]
end Go.Ab
